import Derived.Test.YtblbfnngmeoipaaGreatDoorP17
namespace Go.Proofs.YtblbfnngmeoipaaGreatDoorX
open Go Go.RowKit Go.Proofs
open Go.Value (int pointer bool agg slice string tuple)
set_option maxHeartbeats 8000000
set_option maxRecDepth 100000
set_option linter.unusedVariables false
set_option linter.unusedSimpArgs false
def QbA.post (w0:World) (r:(Bool×Int)) (v:Value) (w:World):Prop:=v=tuple #[bool r.1,int .i64 r.2]∧St w0 [] w
theorem QbA.calls {N:Nat} {a1:Qaf} {a4:(List Int)} {v2:Value} {v5:Value} {w0:World} {r:(Bool×Int)} (hr3:RdRow (K.int .u16) w0 v2 a1.Qal) (hr1:RdRow (K.int .i16) w0 v5 a4) (H:QbA.f N a1 a4=some r):
 Calls Tryz.prog 10 #[agg (([int .i8 a1.Qad,int .i8 a1.Qag,v2]:List Value)).toArray,v5] w0 fun e w=>∃ v,e= .returned v∧QbA.post w0 r v w:=by
 unfold QbA.f at H
 have hs:St w0 [] w0:=St.refl w0
 refine calls_of_g (n:=18) Tryz.func10 rfl rfl ?_
 show G _ _ _ _ [_,_,_,_,_,_,_,_,_,_,_,_,_,_,_,_,_,_,_,_] _
 refine Qaj (Qan [0,1,2] rfl ?_)
 refine Qbw hs rfl rfl (cs:=(([int .i8 a1.Qad,int .i8 a1.Qag,v2]:List Value))) rfl rfl ?_
 intro b6 w hs
 refine Qab (v:=bool false) rfl rfl rfl ?_
 refine Qab (v:=int .i64 0) rfl rfl rfl ?_
 show G _ _ _ _ [_,_,_,_,_,_,_,_,_,_,_,_,_,_,_,_,_,_,_,_] _
 refine Qac (Qaj ?_)
 refine QbG (Qaj (Qan [0,1,2,3] rfl ?_))
 refine QaF rfl rfl (es:=(([int .i8 a1.Qad,int .i8 a1.Qag,v2]:List Value))) rfl rfl (fun _=>rfl) (n:=3) (fun _=>rfl) rfl (cells_all (hs.cells 0 rfl)) ?_
 obtain ⟨r8,Hr8,H⟩:=bind_get H
 refine Qaz (args:=[agg (([int .i8 a1.Qad,int .i8 a1.Qag,v2]:List Value)).toArray]) rfl rfl (QaA rfl (callFunc_enter Tryz.func17 rfl rfl) rfl) (QaX.calls (a1:=(⟨a1.Qad,a1.Qag,a1.Qal⟩:Qaf)) (hs.rd hr3) Hr8) ?_
 rintro _ w ⟨rfl,hs2⟩
 have hs:St _ [_] _:=hs.call hs2
 cases r8 with
 |true=>
  rw [if_pos rfl] at H
  show G _ _ _ _ [_,_,_,_,_,_,_,_,_,_,_,_,_,_,_,_,_,_,_,_] _
  refine Qab (v:=bool false) rfl rfl rfl ?_
  refine Qab (v:=bool false) rfl rfl rfl (Qac (Qas rfl (Qaj (Qan [0,1,2,3,4,5,6] rfl ?_))))
  refine Qab (v:=v5) rfl rfl rfl ?_
  show G _ _ _ _ [_,_,_,_,_,_,_,_,_,_,_,_,_,_,_,_,_,_,_,_] _
  refine QbC (hs.rd hr1) rfl rfl rfl rfl rfl ?_
  refine Qab (v:=pointer (some ⟨b6,0,none⟩)) rfl rfl rfl ?_
  refine Qaw rfl rfl (v:=int .i8 a1.Qad) rfl rfl (fun _=>rfl) (cells_load (hs.cells 0 rfl) 0 1 rfl) ?_
  show G _ _ _ _ [_,_,_,_,_,_,_,_,_,_,_,_,_,_,_,_,_,_,_,_] _
  obtain ⟨g1,H⟩:=ite_get H
  refine Qab (v:=int .i64 (shlI .i64 2 a1.Qad)) rfl rfl (Qcx rfl rfl rfl g1) ?_
  refine QaI (B:=(a4.length:Int) !=(shlI .i64 2 a1.Qad)) rfl rfl rfl ?_ ?_
  ·
   intro hb
   rw [if_neg (b_bne_t hb)] at H
   refine Qab (v:=bool true) rfl rfl rfl ?_
   show G _ _ _ _ [_,_,_,_,_,_,_,_,_,_,_,_,_,_,_,_,_,_,_,_] _
   refine Qac (Qaq rfl (Qaj (Qan [0,1] rfl ?_)))
   refine Qab (v:=bool false) rfl rfl rfl ?_
   refine Qab (v:=int .i64 2) rfl rfl rfl (Qac ?_)
   obtain rfl:=QsJ H
   refine QaB Tryz.func10 (v:=tuple #[bool false,int .i64 2]) (resN (l:=Tryz.f10.results.toList) (vs:=[bool false,int .i64 2]) rfl ⟨rfl,rfl,trivial⟩ (by simp)) ?_
   have hs:St _ [] _:=St.take (Γ':=[_]) hs
   exact ⟨_,rfl,rfl,hs⟩
  intro hb
  rw [if_pos (b_bne_f hb)] at H
  refine Qab (v:=bool false) rfl rfl rfl ?_
  show G _ _ _ _ [_,_,_,_,_,_,_,_,_,_,_,_,_,_,_,_,_,_,_,_] _
  refine Qac (Qas rfl (QaK ?_))
  refine Qa0 (Qaj (Qan [0,1,2,3,4] rfl ?_))
  refine QaF rfl rfl (es:=(([int .i8 a1.Qad,int .i8 a1.Qag,v2]:List Value))) rfl rfl (fun _=>rfl) (n:=3) (fun _=>rfl) rfl (cells_all (hs.cells 0 rfl)) ?_
  refine Qab (v:=v5) rfl rfl rfl ?_
  obtain ⟨r9,Hr9,H⟩:=bind_get H
  refine Qaz (args:=[agg (([int .i8 a1.Qad,int .i8 a1.Qag,v2]:List Value)).toArray,v5]) rfl rfl (QaA rfl (callFunc_enter Tryz.func38 rfl rfl) rfl) (QaG.calls (a1:=(⟨a1.Qad,a1.Qag,a1.Qal⟩:Qaf)) (a4:=a4) (hs.rd hr3) (hs.rd hr1) Hr9) ?_
  rintro _ w ⟨rfl,hs2⟩
  have hs:St _ [_] _:=hs.call hs2
  show G _ _ _ _ [_,_,_,_,_,_,_,_,_,_,_,_,_,_,_,_,_,_,_,_] _
  refine Qab (v:=bool r9) rfl rfl rfl ?_
  refine Qab (v:=int .i64 0) rfl rfl rfl (Qac ?_)
  obtain rfl:=QsJ H
  refine QaB Tryz.func10 (v:=tuple #[bool r9,int .i64 0]) (resN (l:=Tryz.f10.results.toList) (vs:=[bool r9,int .i64 0]) rfl ⟨rfl,rfl,trivial⟩ (by simp)) ?_
  have hs:St _ [] _:=St.take (Γ':=[_]) hs
  exact ⟨_,rfl,rfl,hs⟩
 |false=>
  rw [if_neg Bool.false_ne_true] at H
  refine Qab (v:=bool true) rfl rfl rfl ?_
  show G _ _ _ _ [_,_,_,_,_,_,_,_,_,_,_,_,_,_,_,_,_,_,_,_] _
  refine Qab (v:=bool true) rfl rfl rfl (Qac (Qaq rfl (Qaj (Qan [0,1] rfl ?_))))
  refine Qab (v:=bool false) rfl rfl rfl ?_
  refine Qab (v:=int .i64 1) rfl rfl rfl ?_
  show G _ _ _ _ [_,_,_,_,_,_,_,_,_,_,_,_,_,_,_,_,_,_,_,_] _
  refine Qac ?_
  obtain rfl:=QsJ H
  refine QaB Tryz.func10 (v:=tuple #[bool false,int .i64 1]) (resN (l:=Tryz.f10.results.toList) (vs:=[bool false,int .i64 1]) rfl ⟨rfl,rfl,trivial⟩ (by simp)) ?_
  have hs:St _ [] _:=St.take (Γ':=[_]) hs
  exact ⟨_,rfl,rfl,hs⟩
def Qbz.post (w0:World) (r:Bool) (v:Value) (w:World):Prop:=v=bool r∧St w0 [] w
theorem Qbz.calls {N:Nat} {a1:QaC} {w0:World} {r:Bool} (H:Qbz.f N a1=some r):
 Calls Tryz.prog 41 #[agg (QaE a1).toArray] w0 fun e w=>∃ v,e= .returned v∧Qbz.post w0 r v w:=by
 unfold Qbz.f at H
 have hs:St w0 [] w0:=St.refl w0
 refine calls_of_g (n:=6) Tryz.func41 rfl rfl ?_
 show G _ _ _ _ [_,_,_,_,_,_,_] _
 refine Qaj (Qan [0,1] rfl ?_)
 refine Qbw hs rfl rfl (cs:=(QaE a1)) rfl rfl ?_
 intro b2 w hs
 refine Qab (v:=bool false) rfl rfl rfl (Qac (Qaj (Qan [0,1,2,3,4] rfl ?_)))
 refine Qab (v:=pointer (some ⟨b2,0,none⟩)) rfl rfl rfl ?_
 show G _ _ _ _ [_,_,_,_,_,_,_] _
 refine QaF rfl rfl (es:=(Qaa a1.Qax)) rfl rfl (fun _=>rfl) (n:=2) (fun _=>rfl) (Qam.len _) (cells_load (hs.cells 0 rfl) 0 2 (by simp only [QaE];first|rfl|exact List.take_of_length_le (Nat.le_of_eq (Qam.len _))|simp [List.drop_append,List.take_append,encAI_len,encAB_len,encA_len,List.take_of_length_le])) ?_
 show G _ _ _ _ [_,_,_,_,_,_,_] _
 refine Qab (v:=agg (Qaa (⟨0,true⟩:Qak)).toArray) rfl rfl (Qbt (cs:=(Qaa (⟨0,true⟩:Qak))) (segs:=[[int .u16 0],[bool false]]) rfl rfl (fun _=>rfl) ⟨rfl,(fun _=>rfl),rfl,(fun _=>rfl),trivial⟩ (by simp only [List.map_cons,List.map_nil,List.forall_mem_cons,List.not_mem_nil,false_implies,implies_true,and_true];exact ⟨_,rfl,rfl⟩) (by first|rfl|(simp [ev,Qaa];done)|(simp [ev,Qaa];rfl))) ?_
 refine Qab (v:=bool (decide (a1.Qax=(⟨0,true⟩:Qak)))) rfl rfl (Qc9 rfl rfl rfl Qcu (Qco _ _ _)) ?_
 show G _ _ _ _ [_,_,_,_,_,_,_] _
 refine Qab (v:=bool (decide (a1.Qax=(⟨0,true⟩:Qak)))) rfl rfl rfl (Qac ?_)
 obtain rfl:=QsJ H
 refine QaB Tryz.func41 (v:=bool (decide (a1.Qax=(⟨0,true⟩:Qak)))) (res1 rfl rfl) ?_
 have hs:St _ [] _:=St.take (Γ':=[_]) hs
 exact ⟨_,rfl,rfl,hs⟩
def Qao.post (w0:World) (r:Int) (v:Value) (w:World):Prop:=v=int .i64 r∧St w0 [] w
theorem Qao.calls {N:Nat} {a1:(List QaC)} {v2:Value} {w0:World} {r:Int} (hr0:RdRow Qa5 w0 v2 a1) (H:Qao.f N a1=some r):
 Calls Tryz.prog 40 #[v2,Value.func (Fn.func 41) #[] #[]] w0 fun e w=>∃ v,e= .returned v∧Qao.post w0 r v w:=by
 unfold Qao.f at H
 have hs:St w0 [] w0:=St.refl w0
 refine calls_of_g (n:=17) Tryz.func40 rfl rfl ?_
 show G _ _ _ _ [_,_,_,_,_,_,_,_,_,_,_,_,_,_,_,_,_,_,_] _
 refine Qaj (Qan [0] rfl ?_)
 refine Qab (v:=int .i64 0) rfl rfl rfl (Qac (Qaj (Qaj (Qan [0,1,2] rfl ?_))))
 refine Qab (v:=v2) rfl rfl rfl ?_
 show G _ _ _ _ [_,_,_,_,_,_,_,_,_,_,_,_,_,_,_,_,_,_,_] _
 refine QbC (hs.rd hr0) rfl rfl rfl rfl rfl ?_
 refine Qab (v:=int .i64 0) rfl rfl rfl (Qac ?_)
 obtain ⟨o1_,Ho,Hr1_⟩:=bind_get H
 refine QaR (J:=fun t w=>Qao.a0 N=some r∧Fr t (fun O=>([O 0,O 1,O 2,O 3,O 4,O 5,O 6,O 7,O 8,O 9,O 10,O 11,O 12,O 13,O 14,O 15,O 16,O 17,O 18]:List Value))∧St w0 [] w) ?_ ?_
 ·
  rintro t w ⟨H,hf,hs⟩
  obtain ⟨O,rfl⟩:=hf.open
  show G _ _ _ _ [_,_,_,_,_,_,_,_,_,_,_,_,_,_,_,_,_,_,_] _
  unfold Qao.a0 at H
  refine Qaj (Qan [0] rfl ?_)
  refine Qab (v:=int .i64 (-1)) rfl rfl rfl ?_
  show G _ _ _ _ [_,_,_,_,_,_,_,_,_,_,_,_,_,_,_,_,_,_,_] _
  refine Qac ?_
  obtain rfl:=QsJ H
  refine QaB Tryz.func40 (v:=int .i64 (-1)) (res1 rfl rfl) ?_
  have hs:St _ [] _:=St.take (Γ':=[]) hs
  exact ⟨_,rfl,rfl,hs⟩
 intro ha1_
 have hs:St _ [] _:=St.take (Γ':=[]) hs
 refine Qba (I:=fun n_ t w=>∃ x3:Int,rounds (fun s=>Qao.b0 N a1 s) n_ x3=some o1_∧Fr t (fun O=>([v2,Value.func (Fn.func 41) #[] #[],O 2,O 3,O 4,O 5,O 6,int .i64 (a1.length:Int),int .i64 x3,O 9,O 10,O 11,O 12,O 13,O 14,O 15,O 16,O 17,O 18]:List Value))∧St w0 [] w) N ⟨0,Ho,rfl,hs⟩ ?_ ?_
 ·
  rintro _ _ ⟨x3,h,_⟩
  exact rounds_zero h
 intro n_ ih1_
 rintro t w ⟨x3,Ho,hf,hs⟩
 obtain ⟨O,rfl⟩:=hf.open
 show G _ _ _ _ [_,_,_,_,_,_,_,_,_,_,_,_,_,_,_,_,_,_,_] _
 obtain ⟨x2_,H,Hx1_⟩:=rounds_succ Ho
 have H:Qao.b0 N a1 x3=some x2_:=H
 unfold Qao.b0 at H
 refine Qaj (Qan [0] rfl ?_)
 refine QaI (B:=decide (x3< (a1.length:Int))) rfl rfl rfl ?_ ?_
 ·
  intro hb
  rw [if_pos (b_dec_t hb)] at H
  refine Qac (Qaj (Qaq rfl (QaK (Qaj ?_))))
  refine QbG (Qaj (Qan [0,1] rfl ?_))
  refine Qab (v:=int .i64 x3) rfl rfl rfl ?_
  refine Qab (v:=int .i64 x3) rfl rfl rfl ?_
  show G _ _ _ _ [_,_,_,_,_,_,_,_,_,_,_,_,_,_,_,_,_,_,_] _
  refine Qac (Qaj (Qan [0,1,2,3,4,5] rfl ?_))
  refine Qab (v:=Value.func (Fn.func 41) #[] #[]) rfl rfl rfl ?_
  refine Qab (v:=v2) rfl rfl rfl ?_
  refine Qab (v:=int .i64 x3) rfl rfl rfl ?_
  show G _ _ _ _ [_,_,_,_,_,_,_,_,_,_,_,_,_,_,_,_,_,_,_] _
  obtain ⟨g1,H⟩:=ite_get H
  refine QbQ Qa6 Qap (hs.rd hr0) rfl (fun _=>rfl) g1.1 g1.2 rfl rfl rfl rfl rfl ?_
  intro p4 hp4 lp4 op4
  refine QaF rfl rfl (es:=(QaE (rdL a1 x3 Qap))) rfl rfl (fun _=>rfl) (n:=5) (fun _=>rfl) (Qa6.len _) hp4 ?_
  obtain ⟨r5,Hr5,H⟩:=bind_get H
  refine Qaz (args:=[agg (QaE (rdL a1 x3 Qap)).toArray]) rfl rfl (Qdc rfl (callFunc_enter Tryz.func41 rfl rfl) rfl rfl) (Qbz.calls (a1:=rdL a1 x3 Qap) Hr5) ?_
  rintro _ w ⟨rfl,hs2⟩
  have hs:St _ [] _:=hs.call hs2
  cases r5 with
  |true=>
   rw [if_pos rfl] at H
   show G _ _ _ _ [_,_,_,_,_,_,_,_,_,_,_,_,_,_,_,_,_,_,_] _
   refine Qac (Qaq rfl (Qaj (Qan [0,1] rfl ?_)))
   refine Qab (v:=int .i64 x3) rfl rfl rfl ?_
   refine Qab (v:=int .i64 x3) rfl rfl rfl (Qac ?_)
   obtain rfl:=QsJ H
   subst Hx1_
   have H:=QsJ Hr1_
   subst H
   refine QaB Tryz.func40 (v:=int .i64 x3) (res1 rfl rfl) ?_
   have hs:St _ [] _:=St.take (Γ':=[]) hs
   exact ⟨_,rfl,rfl,hs⟩
  |false=>
   rw [if_neg Bool.false_ne_true] at H
   show G _ _ _ _ [_,_,_,_,_,_,_,_,_,_,_,_,_,_,_,_,_,_,_] _
   refine Qac (Qas rfl (QaK ?_))
   refine Qa0 (Qan [0,1] rfl ?_)
   refine Qab (v:=int .i64 (i64w (x3+1))) rfl rfl rfl ?_
   refine Qab (v:=int .i64 (i64w (x3+1))) rfl rfl rfl (Qac ?_)
   obtain rfl:=QsJ H
   have hs:St _ [] _:=St.take (Γ':=[]) hs
   exact ih1_ _ _ ⟨i64w (x3+1),Hx1_,rfl,hs⟩
 intro hb
 rw [if_neg (b_dec_f hb)] at H
 show G _ _ _ _ [_,_,_,_,_,_,_,_,_,_,_,_,_,_,_,_,_,_,_] _
 refine Qac (Qaj (Qas rfl ?_))
 obtain rfl:=QsJ H
 subst Hx1_
 have hs:St _ [] _:=St.take (Γ':=[]) hs
 refine QbE rfl ?_
 exact ha1_ _ _ ⟨Hr1_,rfl,hs⟩
def QaM.post (wb:World) (Z:As) (v2:Value) (r:(List Int)) (v:Value) (w:World):Prop:=v=tuple #[]∧St wb [Row 46 (K.int .u16) v2 r,Z] w
theorem QaM.calls {N:Nat} {a1:(List Int)} {v2:Value} {wb:World} {Z:As} {w0:World} {r:(List Int)} (hs:St wb [Row 46 (K.int .u16) v2 a1,Z] w0) (H:QaM.f N a1=some r):
 Calls Tryz.prog 42 #[v2] w0 fun e w=>∃ v,e= .returned v∧QaM.post wb Z v2 r v w:=by
 unfold QaM.f at H
 refine calls_of_g (n:=27) Tryz.func42 rfl rfl ?_
 show G _ _ _ _ [_,_,_,_,_,_,_,_,_,_,_,_,_,_,_,_,_,_,_,_,_,_,_,_,_,_,_,_] _
 refine Qaj (Qan [0,1,2,3,4] rfl ?_)
 refine Qab (v:=v2) rfl rfl rfl ?_
 refine QbC (hs.row 0 rfl) rfl rfl rfl rfl rfl ?_
 refine Qab (v:=int .i64 (i64w ((a1.length:Int) - 1))) rfl rfl rfl ?_
 refine Qab (v:=int .i64 0) rfl rfl rfl ?_
 show G _ _ _ _ [_,_,_,_,_,_,_,_,_,_,_,_,_,_,_,_,_,_,_,_,_,_,_,_,_,_,_,_] _
 refine Qab (v:=int .i64 (i64w ((a1.length:Int) - 1))) rfl rfl rfl (Qac ?_)
 obtain ⟨o1_,Ho,Hr1_⟩:=bind_get H
 refine QaR (J:=fun t w=>∃ x9:(List Int),QaM.a0 N x9=some r∧Fr t (fun O=>([O 0,O 1,O 2,O 3,O 4,O 5,O 6,O 7,O 8,O 9,O 10,O 11,O 12,O 13,O 14,O 15,O 16,O 17,O 18,O 19,O 20,O 21,O 22,O 23,O 24,O 25,O 26,O 27]:List Value))∧St wb [Row 46 (K.int .u16) v2 x9,Z] w) ?_ ?_
 ·
  rintro t w ⟨x9,H,hf,hs⟩
  obtain ⟨O,rfl⟩:=hf.open
  show G _ _ _ _ [_,_,_,_,_,_,_,_,_,_,_,_,_,_,_,_,_,_,_,_,_,_,_,_,_,_,_,_] _
  unfold QaM.a0 at H
  obtain rfl:=QsJ H
  refine Qdi Tryz.func42 (v:=tuple #[]) (resN (l:=Tryz.f42.results.toList) (vs:=[]) rfl trivial (by simp)) ?_
  have hs:=hs.pull 1 rfl
  have hs:=hs.pull 1 rfl
  have hs:St _ [_,_] _:=St.take (Γ':=[]) hs
  exact ⟨_,rfl,rfl,hs⟩
 intro ha1_
 have hs:=hs.pull 1 rfl
 have hs:=hs.pull 1 rfl
 have hs:St _ [_,_] _:=St.take (Γ':=[]) hs
 refine Qba (I:=fun n_ t w=>∃ x6:(List Int),∃ x7:Int,∃ x8:Int,rounds (fun s=>QaM.b0 N s.1 s.2.1 s.2.2) n_ (x6,x7,x8)=some o1_∧Fr t (fun O=>([v2,O 1,int .i64 x7,int .i64 x8,O 4,O 5,O 6,O 7,O 8,O 9,O 10,O 11,O 12,O 13,O 14,O 15,O 16,O 17,O 18,O 19,O 20,O 21,O 22,O 23,O 24,O 25,O 26,O 27]:List Value))∧St wb [Row 46 (K.int .u16) v2 x6,Z] w) N ⟨a1,0,i64w ((a1.length:Int) - 1),Ho,rfl,hs⟩ ?_ ?_
 ·
  rintro _ _ ⟨x6,x7,x8,h,_⟩
  exact rounds_zero h
 intro n_ ih1_
 rintro t w ⟨x6,x7,x8,Ho,hf,hs⟩
 obtain ⟨O,rfl⟩:=hf.open
 show G _ _ _ _ [_,_,_,_,_,_,_,_,_,_,_,_,_,_,_,_,_,_,_,_,_,_,_,_,_,_,_,_] _
 obtain ⟨x17_,H,Hx1_⟩:=rounds_succ Ho
 have H:QaM.b0 N x6 x7 x8=some x17_:=H
 unfold QaM.b0 at H
 refine Qaj (Qaj (Qan [0,1,2] rfl ?_))
 refine Qab (v:=int .i64 x7) rfl rfl rfl ?_
 refine Qab (v:=int .i64 x8) rfl rfl rfl ?_
 refine QaI (B:=decide (x7< x8)) rfl rfl rfl ?_ ?_
 ·
  intro hb
  rw [if_pos (b_dec_t hb)] at H
  show G _ _ _ _ [_,_,_,_,_,_,_,_,_,_,_,_,_,_,_,_,_,_,_,_,_,_,_,_,_,_,_,_] _
  refine Qac (Qaq rfl (QaK (Qaj ?_)))
  refine QbG ?_
  obtain ⟨gd9,H⟩:=ite_get H
  obtain ⟨ad10_,ad10_N,ad10_C,had10_⟩:=sl_at (hs.row 0 rfl) gd9.1 gd9.2
  obtain ⟨gd11,H⟩:=ite_get H
  obtain ⟨ad12_,ad12_N,ad12_C,had12_⟩:=sl_at (hs.row 0 rfl) gd11.1 gd11.2
  obtain ⟨gd13,H⟩:=ite_get H
  obtain ⟨ad14_,ad14_N,ad14_C,had14_⟩:=sl_at (hs.row 0 rfl) gd13.1 gd13.2
  obtain ⟨gd15,H⟩:=ite_get H
  obtain ⟨ad16_,ad16_N,ad16_C,had16_⟩:=sl_at (hs.row 0 rfl) gd15.1 (by simpa only [stL,List.length_set] using gd15.2)
  refine QaV ?_
  intro T hT
  refine QbZ (n:=16) rfl [0,1,2,3,4,5,6,7,8,9,10,11,12,13,14,15] [0,1,12,13,2,3,4,5,6,7,8,9,10,11,14,15] rfl rfl (Inv:=fun D t w=>∃ O:Nat→Value,t=[v2,O 1,int .i64 x7,int .i64 x8,O 4,O 5,O 6,int .i64 x7,int .i64 x8,bool true,O 10,O 11,O 12,O 13,cnd (D 0) v2 (O 14),cnd (D 1) (int .i64 x7) (O 15),cnd (D 2) v2 (O 16),cnd (D 3) (int .i64 x8) (O 17),cnd (D 4) v2 (O 18),cnd (D 5) (int .i64 x8) (O 19),cnd (D 6) (pointer (some (ad10_.add (x8.toNat*1)))) (O 20),cnd (D 7) (int .u16 (rdL x6 x8 0)) (O 21),cnd (D 8) v2 (O 22),cnd (D 9) (int .i64 x7) (O 23),cnd (D 10) (pointer (some (ad12_.add (x7.toNat*1)))) (O 24),cnd (D 11) (int .u16 (rdL x6 x7 0)) (O 25),cnd (D 12) (pointer (some (ad14_.add (x7.toNat*1)))) (O 26),cnd (D 14) (pointer (some (ad16_.add (x8.toNat*1)))) (O 27)]∧St wb [Row 46 (K.int .u16) (cnd (D 15) v2 (cnd (D 13) v2 v2)) (cnd (D 15) (stL (stL x6 x7 (rdL x6 x8 0)) x8 (rdL x6 x7 0)) (cnd (D 13) (stL x6 x7 (rdL x6 x8 0)) x6)),Z] w) ?_ ⟨⟨⟨⟨⟨⟨⟨⟨⟨⟨⟨⟨⟨⟨⟨⟨trivial,?_⟩,?_⟩,?_⟩,?_⟩,?_⟩,?_⟩,?_⟩,?_⟩,?_⟩,?_⟩,?_⟩,?_⟩,?_⟩,?_⟩,?_⟩,?_⟩ ?_
  ·
   intro w hh hbw
   have hs:=hs.samew hh hbw
   exact ⟨fun i=>T.getD i undef,(by subst hT;rfl),hs⟩
  ·
   rintro D t w hD hp hcl ⟨O,ht,hs⟩ rest hk
   have q12_:=nz hcl 12 0 hD
   have q13_:=nz hcl 13 0 q12_
   have q14_:=nz hcl 14 2 hD
   have q15_:=nz hcl 15 0 q14_
   simp only [hD,q12_,q13_,q14_,q15_,cq,oT] at ht hs
   subst ht
   refine Qab (v:=v2) rfl rfl rfl ?_
   show G _ _ _ _ [_,_,_,_,_,_,_,_,_,_,_,_,_,_,_,_,_,_,_,_,_,_,_,_,_,_,_,_] _
   refine hk _ _ ⟨O,?_,hs.cast ?_⟩<;>simp only [oT,lq,cq,Nat.reduceBEq,q12_,q13_,q14_,q15_]
  ·
   rintro D t w hD hp hcl ⟨O,ht,hs⟩ rest hk
   have q12_:=nz hcl 12 1 hD
   have q13_:=nz hcl 13 0 q12_
   have q14_:=nz hcl 14 3 hD
   have q15_:=nz hcl 15 0 q14_
   simp only [hD,q12_,q13_,q14_,q15_,cq,oT] at ht hs
   subst ht
   refine Qab (v:=int .i64 x7) rfl rfl rfl ?_
   show G _ _ _ _ [_,_,_,_,_,_,_,_,_,_,_,_,_,_,_,_,_,_,_,_,_,_,_,_,_,_,_,_] _
   refine hk _ _ ⟨O,?_,hs.cast ?_⟩<;>simp only [oT,lq,cq,Nat.reduceBEq,q12_,q13_,q14_,q15_]
  ·
   rintro D t w hD hp hcl ⟨O,ht,hs⟩ rest hk
   have q14_:=nz hcl 14 0 hD
   have q15_:=nz hcl 15 0 q14_
   simp only [hD,q14_,q15_,cq,oT] at ht hs
   subst ht
   refine Qab (v:=v2) rfl rfl rfl ?_
   show G _ _ _ _ [_,_,_,_,_,_,_,_,_,_,_,_,_,_,_,_,_,_,_,_,_,_,_,_,_,_,_,_] _
   refine hk _ _ ⟨O,?_,hs.cast ?_⟩<;>simp only [oT,lq,cq,Nat.reduceBEq,q14_,q15_]
  ·
   rintro D t w hD hp hcl ⟨O,ht,hs⟩ rest hk
   have q14_:=nz hcl 14 1 hD
   have q15_:=nz hcl 15 0 q14_
   simp only [hD,q14_,q15_,cq,oT] at ht hs
   subst ht
   refine Qab (v:=int .i64 x8) rfl rfl rfl ?_
   show G _ _ _ _ [_,_,_,_,_,_,_,_,_,_,_,_,_,_,_,_,_,_,_,_,_,_,_,_,_,_,_,_] _
   refine hk _ _ ⟨O,?_,hs.cast ?_⟩<;>simp only [oT,lq,cq,Nat.reduceBEq,q14_,q15_]
  ·
   rintro D t w hD hp hcl ⟨O,ht,hs⟩ rest hk
   have q6_:=nz hcl 6 0 hD
   have q7_:=nz hcl 7 0 q6_
   have q12_:=nz hcl 12 4 hD
   have q13_:=nz hcl 13 0 q12_
   have q14_:=nz hcl 14 6 hD
   have q15_:=nz hcl 15 0 q14_
   simp only [hD,q6_,q7_,q12_,q13_,q14_,q15_,cq,oT] at ht hs
   subst ht
   refine Qab (v:=v2) rfl rfl rfl ?_
   show G _ _ _ _ [_,_,_,_,_,_,_,_,_,_,_,_,_,_,_,_,_,_,_,_,_,_,_,_,_,_,_,_] _
   refine hk _ _ ⟨O,?_,hs.cast ?_⟩<;>simp only [oT,lq,cq,Nat.reduceBEq,q6_,q7_,q12_,q13_,q14_,q15_]
  ·
   rintro D t w hD hp hcl ⟨O,ht,hs⟩ rest hk
   have q6_:=nz hcl 6 1 hD
   have q7_:=nz hcl 7 0 q6_
   have q12_:=nz hcl 12 5 hD
   have q13_:=nz hcl 13 0 q12_
   have q14_:=nz hcl 14 7 hD
   have q15_:=nz hcl 15 0 q14_
   simp only [hD,q6_,q7_,q12_,q13_,q14_,q15_,cq,oT] at ht hs
   subst ht
   refine Qab (v:=int .i64 x8) rfl rfl rfl ?_
   show G _ _ _ _ [_,_,_,_,_,_,_,_,_,_,_,_,_,_,_,_,_,_,_,_,_,_,_,_,_,_,_,_] _
   refine hk _ _ ⟨O,?_,hs.cast ?_⟩<;>simp only [oT,lq,cq,Nat.reduceBEq,q6_,q7_,q12_,q13_,q14_,q15_]
  ·
   rintro D t w hD hp hcl ⟨O,ht,hs⟩ rest hk
   obtain ⟨p4_,p5_,_⟩:=hp
   have q7_:=nz hcl 7 0 hD
   have q12_:=nz hcl 12 6 hD
   have q13_:=nz hcl 13 0 q12_
   have q14_:=nz hcl 14 8 hD
   have q15_:=nz hcl 15 0 q14_
   simp only [hD,p4_,p5_,q7_,q12_,q13_,q14_,q15_,cq,oT] at ht hs
   subst ht
   refine QbJ (κ:=(K.int .u16)) (m:=1) rfl (hs.row 0 rfl) rfl (fun _=>rfl) gd9.1 gd9.2 had10_ rfl rfl rfl rfl rfl ?_
   show G _ _ _ _ [_,_,_,_,_,_,_,_,_,_,_,_,_,_,_,_,_,_,_,_,_,_,_,_,_,_,_,_] _
   refine hk _ _ ⟨O,?_,hs.cast ?_⟩<;>simp only [oT,lq,cq,Nat.reduceBEq,p4_,p5_,q7_,q12_,q13_,q14_,q15_]
  ·
   rintro D t w hD hp hcl ⟨O,ht,hs⟩ rest hk
   obtain ⟨p6_,_⟩:=hp
   obtain ⟨p4_,p5_,_⟩:=(hcl.get 6 (by decide)) p6_
   have q12_:=nz hcl 12 7 hD
   have q13_:=nz hcl 13 0 q12_
   have q14_:=nz hcl 14 9 hD
   have q15_:=nz hcl 15 0 q14_
   simp only [hD,p4_,p5_,p6_,q12_,q13_,q14_,q15_,cq,oT] at ht hs
   subst ht
   refine Qaw rfl rfl (v:=int .u16 (rdL x6 x8 0)) rfl rfl (fun _=>rfl) (cellsAt_of (fkI .u16) 0 (hs.row 0 rfl) had10_ gd9.1 gd9.2) ?_
   show G _ _ _ _ [_,_,_,_,_,_,_,_,_,_,_,_,_,_,_,_,_,_,_,_,_,_,_,_,_,_,_,_] _
   refine hk _ _ ⟨O,?_,hs.cast ?_⟩<;>simp only [oT,lq,cq,Nat.reduceBEq,p4_,p5_,p6_,q12_,q13_,q14_,q15_]
  ·
   rintro D t w hD hp hcl ⟨O,ht,hs⟩ rest hk
   have q10_:=nz hcl 10 0 hD
   have q11_:=nz hcl 11 0 q10_
   have q12_:=nz hcl 12 8 q11_
   have q13_:=nz hcl 13 0 q12_
   have q14_:=nz hcl 14 10 hD
   have q15_:=nz hcl 15 0 q14_
   simp only [hD,q10_,q11_,q12_,q13_,q14_,q15_,cq,oT] at ht hs
   subst ht
   refine Qab (v:=v2) rfl rfl rfl ?_
   show G _ _ _ _ [_,_,_,_,_,_,_,_,_,_,_,_,_,_,_,_,_,_,_,_,_,_,_,_,_,_,_,_] _
   refine hk _ _ ⟨O,?_,hs.cast ?_⟩<;>simp only [oT,lq,cq,Nat.reduceBEq,q10_,q11_,q12_,q13_,q14_,q15_]
  ·
   rintro D t w hD hp hcl ⟨O,ht,hs⟩ rest hk
   have q10_:=nz hcl 10 1 hD
   have q11_:=nz hcl 11 0 q10_
   have q12_:=nz hcl 12 8 q11_
   have q13_:=nz hcl 13 0 q12_
   have q14_:=nz hcl 14 11 hD
   have q15_:=nz hcl 15 0 q14_
   simp only [hD,q10_,q11_,q12_,q13_,q14_,q15_,cq,oT] at ht hs
   subst ht
   refine Qab (v:=int .i64 x7) rfl rfl rfl ?_
   show G _ _ _ _ [_,_,_,_,_,_,_,_,_,_,_,_,_,_,_,_,_,_,_,_,_,_,_,_,_,_,_,_] _
   refine hk _ _ ⟨O,?_,hs.cast ?_⟩<;>simp only [oT,lq,cq,Nat.reduceBEq,q10_,q11_,q12_,q13_,q14_,q15_]
  ·
   rintro D t w hD hp hcl ⟨O,ht,hs⟩ rest hk
   obtain ⟨p8_,p9_,_⟩:=hp
   have q11_:=nz hcl 11 0 hD
   have q12_:=nz hcl 12 8 q11_
   have q13_:=nz hcl 13 0 q12_
   have q14_:=nz hcl 14 12 hD
   have q15_:=nz hcl 15 0 q14_
   simp only [hD,p8_,p9_,q11_,q12_,q13_,q14_,q15_,cq,oT] at ht hs
   subst ht
   refine QbJ (κ:=(K.int .u16)) (m:=1) rfl (hs.row 0 rfl) rfl (fun _=>rfl) gd11.1 gd11.2 had12_ rfl rfl rfl rfl rfl ?_
   show G _ _ _ _ [_,_,_,_,_,_,_,_,_,_,_,_,_,_,_,_,_,_,_,_,_,_,_,_,_,_,_,_] _
   refine hk _ _ ⟨O,?_,hs.cast ?_⟩<;>simp only [oT,lq,cq,Nat.reduceBEq,p8_,p9_,q11_,q12_,q13_,q14_,q15_]
  ·
   rintro D t w hD hp hcl ⟨O,ht,hs⟩ rest hk
   obtain ⟨p10_,_⟩:=hp
   obtain ⟨p8_,p9_,_⟩:=(hcl.get 10 (by decide)) p10_
   have q12_:=nz hcl 12 8 hD
   have q13_:=nz hcl 13 0 q12_
   have q14_:=nz hcl 14 13 hD
   have q15_:=nz hcl 15 0 q14_
   simp only [hD,p8_,p9_,p10_,q12_,q13_,q14_,q15_,cq,oT] at ht hs
   subst ht
   refine Qaw rfl rfl (v:=int .u16 (rdL x6 x7 0)) rfl rfl (fun _=>rfl) (cellsAt_of (fkI .u16) 0 (hs.row 0 rfl) had12_ gd11.1 gd11.2) ?_
   show G _ _ _ _ [_,_,_,_,_,_,_,_,_,_,_,_,_,_,_,_,_,_,_,_,_,_,_,_,_,_,_,_] _
   refine hk _ _ ⟨O,?_,hs.cast ?_⟩<;>simp only [oT,lq,cq,Nat.reduceBEq,p8_,p9_,p10_,q12_,q13_,q14_,q15_]
  ·
   rintro D t w hD hp hcl ⟨O,ht,hs⟩ rest hk
   obtain ⟨p0_,p1_,_,_,p4_,p5_,p6_,p7_,p11_,_⟩:=hp
   obtain ⟨p10_,_⟩:=(hcl.get 11 (by decide)) p11_
   obtain ⟨p8_,p9_,_⟩:=(hcl.get 10 (by decide)) p10_
   have q13_:=nz hcl 13 0 hD
   have q14_:=nz hcl 14 14 hD
   have q15_:=nz hcl 15 0 q14_
   simp only [hD,p0_,p1_,p4_,p5_,p6_,p7_,p8_,p9_,p10_,p11_,q13_,q14_,q15_,cq,oT] at ht hs
   subst ht
   refine QbJ (κ:=(K.int .u16)) (m:=1) rfl (hs.row 0 rfl) rfl (fun _=>rfl) gd13.1 gd13.2 had14_ rfl rfl rfl rfl rfl ?_
   show G _ _ _ _ [_,_,_,_,_,_,_,_,_,_,_,_,_,_,_,_,_,_,_,_,_,_,_,_,_,_,_,_] _
   refine hk _ _ ⟨O,?_,hs.cast ?_⟩<;>simp only [oT,lq,cq,Nat.reduceBEq,p0_,p1_,p4_,p5_,p6_,p7_,p8_,p9_,p10_,p11_,q13_,q14_,q15_]
  ·
   rintro D t w hD hp hcl ⟨O,ht,hs⟩ rest hk
   obtain ⟨p12_,p7_,p0_,p1_,p4_,p5_,p6_,_,p11_,_⟩:=hp
   obtain ⟨p10_,_⟩:=(hcl.get 11 (by decide)) p11_
   obtain ⟨p8_,p9_,_⟩:=(hcl.get 10 (by decide)) p10_
   have q14_:=nz hcl 14 15 hD
   have q15_:=nz hcl 15 0 q14_
   simp only [hD,p0_,p1_,p4_,p5_,p6_,p7_,p8_,p9_,p10_,p11_,p12_,q14_,q15_,cq,oT] at ht hs
   subst ht
   refine Qct (y:=rdL x6 x8 0) (fkI .u16) gd13.1 gd13.2 (hown_of had14_) hs rfl rfl rfl rfl rfl (fun _=>rfl) ?_
   intro w hs
   show G _ _ _ _ [_,_,_,_,_,_,_,_,_,_,_,_,_,_,_,_,_,_,_,_,_,_,_,_,_,_,_,_] _
   have hs:=hs.push 0 (by simp)
   refine hk _ _ ⟨O,?_,hs.cast ?_⟩<;>simp only [oT,lq,cq,Nat.reduceBEq,p0_,p1_,p4_,p5_,p6_,p7_,p8_,p9_,p10_,p11_,p12_,q14_,q15_]
  ·
   rintro D t w hD hp hcl ⟨O,ht,hs⟩ rest hk
   obtain ⟨p2_,p3_,p0_,p1_,_,_,p4_,p5_,p6_,p7_,p8_,p9_,p10_,p11_,p12_,p13_,_⟩:=hp
   have q15_:=nz hcl 15 0 hD
   simp only [hD,p0_,p1_,p2_,p3_,p4_,p5_,p6_,p7_,p8_,p9_,p10_,p11_,p12_,p13_,q15_,cq,oT] at ht hs
   subst ht
   refine QbJ (κ:=(K.int .u16)) (m:=1) rfl (hs.row 0 rfl) rfl (fun _=>rfl) gd15.1 gd15.2 had16_ rfl rfl rfl rfl rfl ?_
   show G _ _ _ _ [_,_,_,_,_,_,_,_,_,_,_,_,_,_,_,_,_,_,_,_,_,_,_,_,_,_,_,_] _
   refine hk _ _ ⟨O,?_,hs.cast ?_⟩<;>simp only [oT,lq,cq,Nat.reduceBEq,p0_,p1_,p2_,p3_,p4_,p5_,p6_,p7_,p8_,p9_,p10_,p11_,p12_,p13_,q15_]
  ·
   rintro D t w hD hp hcl ⟨O,ht,hs⟩ rest hk
   obtain ⟨p14_,p11_,p13_,p0_,p1_,p2_,p3_,p4_,p5_,p6_,p7_,p8_,p9_,p10_,_,p12_,_,_⟩:=hp
   simp only [hD,p0_,p1_,p2_,p3_,p4_,p5_,p6_,p7_,p8_,p9_,p10_,p11_,p12_,p13_,p14_,cq,oT] at ht hs
   subst ht
   refine Qct (y:=rdL x6 x7 0) (fkI .u16) gd15.1 gd15.2 (hown_of had16_) hs rfl rfl rfl rfl rfl (fun _=>rfl) ?_
   intro w hs
   show G _ _ _ _ [_,_,_,_,_,_,_,_,_,_,_,_,_,_,_,_,_,_,_,_,_,_,_,_,_,_,_,_] _
   have hs:=hs.push 0 (by simp)
   refine hk _ _ ⟨O,?_,hs.cast ?_⟩<;>simp only [oT,lq,cq,Nat.reduceBEq,p0_,p1_,p2_,p3_,p4_,p5_,p6_,p7_,p8_,p9_,p10_,p11_,p12_,p13_,p14_]
  intro D t w hall hI
  obtain ⟨O,ht,hs⟩:=hI
  have p0_:=hall 0 (by decide)
  have p1_:=hall 1 (by decide)
  have p2_:=hall 2 (by decide)
  have p3_:=hall 3 (by decide)
  have p4_:=hall 4 (by decide)
  have p5_:=hall 5 (by decide)
  have p6_:=hall 6 (by decide)
  have p7_:=hall 7 (by decide)
  have p8_:=hall 8 (by decide)
  have p9_:=hall 9 (by decide)
  have p10_:=hall 10 (by decide)
  have p11_:=hall 11 (by decide)
  have p12_:=hall 12 (by decide)
  have p13_:=hall 13 (by decide)
  have p14_:=hall 14 (by decide)
  have p15_:=hall 15 (by decide)
  simp only [p0_,p1_,p2_,p3_,p4_,p5_,p6_,p7_,p8_,p9_,p10_,p11_,p12_,p13_,p14_,p15_,cq,oT] at ht hs
  subst ht
  refine Qa0 (Qan [0,1,2,3,4,5] rfl ?_)
  refine Qab (v:=int .i64 x7) rfl rfl rfl ?_
  refine Qab (v:=int .i64 (i64w (x7+1))) rfl rfl rfl ?_
  refine Qab (v:=int .i64 x8) rfl rfl rfl ?_
  refine Qab (v:=int .i64 (i64w (x8 - 1))) rfl rfl rfl ?_
  refine Qab (v:=int .i64 (i64w (x7+1))) rfl rfl rfl ?_
  show G _ _ _ _ [_,_,_,_,_,_,_,_,_,_,_,_,_,_,_,_,_,_,_,_,_,_,_,_,_,_,_,_] _
  refine Qab (v:=int .i64 (i64w (x8 - 1))) rfl rfl rfl (Qac ?_)
  obtain rfl:=QsJ H
  have hs:=hs.pull 1 rfl
  have hs:=hs.pull 1 rfl
  have hs:St _ [_,_] _:=St.take (Γ':=[]) hs
  exact ih1_ _ _ ⟨stL (stL x6 x7 (rdL x6 x8 0)) x8 (rdL x6 x7 0),i64w (x7+1),i64w (x8 - 1),Hx1_,rfl,hs⟩
 intro hb
 rw [if_neg (b_dec_f hb)] at H
 refine Qac (Qas rfl ?_)
 obtain rfl:=QsJ H
 subst Hx1_
 have hs:=hs.pull 1 rfl
 have hs:=hs.pull 1 rfl
 have hs:St _ [_,_] _:=St.take (Γ':=[]) hs
 refine QbE rfl ?_
 exact ha1_ _ _ ⟨x6,Hr1_,rfl,hs⟩
def QaL.post (w0:World) (r:((List Int)×Int)) (v:Value) (w:World):Prop:=∃ u1:Value,v=tuple #[u1,int .i64 r.2]∧St w0 [Row 46 (K.int .u16) u1 r.1] w
theorem QaL.calls {N:Nat} {a1:Qaf} {v2:Value} {w0:World} {r:((List Int)×Int)} (hr3:RdRow (K.int .u16) w0 v2 a1.Qal) (H:QaL.f N a1=some r):
 Calls Tryz.prog 11 #[agg (([int .i8 a1.Qad,int .i8 a1.Qag,v2]:List Value)).toArray] w0 fun e w=>∃ v,e= .returned v∧QaL.post w0 r v w:=by
 unfold QaL.f at H
 have hs:St w0 [] w0:=St.refl w0
 refine calls_of_g (n:=38) Tryz.func11 rfl rfl ?_
 show G _ _ _ _ [_,_,_,_,_,_,_,_,_,_,_,_,_,_,_,_,_,_,_,_,_,_,_,_,_,_,_,_,_,_,_,_,_,_,_,_,_,_,_] _
 refine Qaj (Qan [0,1,2] rfl ?_)
 refine Qbw hs rfl rfl (cs:=(([int .i8 a1.Qad,int .i8 a1.Qag,v2]:List Value))) rfl rfl ?_
 intro b4 w hs
 refine Qab (v:=slice none 0 0) rfl rfl rfl ?_
 refine Qab (v:=int .i64 0) rfl rfl rfl ?_
 show G _ _ _ _ [_,_,_,_,_,_,_,_,_,_,_,_,_,_,_,_,_,_,_,_,_,_,_,_,_,_,_,_,_,_,_,_,_,_,_,_,_,_,_] _
 refine Qac (Qaj (Qaj (Qan [0,1,2] rfl ?_)))
 refine QaF rfl rfl (es:=(([int .i8 a1.Qad,int .i8 a1.Qag,v2]:List Value))) rfl rfl (fun _=>rfl) (n:=3) (fun _=>rfl) rfl (cells_all (hs.cells 0 rfl)) ?_
 obtain ⟨r6,Hr6,H⟩:=bind_get H
 refine Qaz (args:=[agg (([int .i8 a1.Qad,int .i8 a1.Qag,v2]:List Value)).toArray]) rfl rfl (QaA rfl (callFunc_enter Tryz.func17 rfl rfl) rfl) (QaX.calls (a1:=(⟨a1.Qad,a1.Qag,a1.Qal⟩:Qaf)) (hs.rd hr3) Hr6) ?_
 rintro _ w ⟨rfl,hs2⟩
 have hs:St _ [_] _:=hs.call hs2
 cases r6 with
 |true=>
  rw [if_pos rfl] at H
  refine Qab (v:=bool false) rfl rfl rfl ?_
  show G _ _ _ _ [_,_,_,_,_,_,_,_,_,_,_,_,_,_,_,_,_,_,_,_,_,_,_,_,_,_,_,_,_,_,_,_,_,_,_,_,_,_,_] _
  refine Qac (Qas rfl (QaK (Qaj (Qan [0,1,2] rfl ?_))))
  refine QaF rfl rfl (es:=(([int .i8 a1.Qad,int .i8 a1.Qag,v2]:List Value))) rfl rfl (fun _=>rfl) (n:=3) (fun _=>rfl) rfl (cells_all (hs.cells 0 rfl)) ?_
  obtain ⟨r7,Hr7,H⟩:=bind_get H
  refine Qaz (args:=[agg (([int .i8 a1.Qad,int .i8 a1.Qag,v2]:List Value)).toArray]) rfl rfl (QaA rfl (callFunc_enter Tryz.func39 rfl rfl) rfl) (Qau.calls (a1:=(⟨a1.Qad,a1.Qag,a1.Qal⟩:Qaf)) (hs.rd hr3) Hr7) ?_
  intro v8 w hs2
  have hs:St _ [_,_] _:=hs.call hs2
  refine Qab (v:=v8) rfl rfl rfl ?_
  show G _ _ _ _ [_,_,_,_,_,_,_,_,_,_,_,_,_,_,_,_,_,_,_,_,_,_,_,_,_,_,_,_,_,_,_,_,_,_,_,_,_,_,_] _
  refine Qac (Qaj (Qan [0,1,2] rfl ?_))
  refine Qab (v:=v8) rfl rfl rfl ?_
  obtain ⟨r10,Hr10,H⟩:=bind_get H
  refine Qaz (args:=[v8,Value.func (Fn.func 41) #[] #[]]) rfl rfl (QaA rfl (callFunc_enter Tryz.func40 rfl rfl) rfl) (Qao.calls (a1:=r7) (hs.row 0 rfl) Hr10) ?_
  rintro _ w ⟨rfl,hs2⟩
  have hs:St _ [_,_] _:=hs.call hs2
  refine Qab (v:=int .i64 r10) rfl rfl rfl (Qac (Qaj (Qaj (Qan [0,1] rfl ?_))))
  refine Qab (v:=int .i64 r10) rfl rfl rfl ?_
  refine QaI (B:=decide (r10< 0)) rfl rfl rfl ?_ ?_
  ·
   intro hb
   rw [if_pos (b_dec_t hb)] at H
   refine Qac (Qaq rfl (Qaj (Qan [0,1] rfl ?_)))
   refine Qab (v:=slice none 0 0) rfl rfl rfl ?_
   refine Qab (v:=int .i64 6) rfl rfl rfl ?_
   show G _ _ _ _ [_,_,_,_,_,_,_,_,_,_,_,_,_,_,_,_,_,_,_,_,_,_,_,_,_,_,_,_,_,_,_,_,_,_,_,_,_,_,_] _
   refine Qac ?_
   obtain rfl:=QsJ H
   refine QaB Tryz.func11 (v:=tuple #[slice none 0 0,int .i64 6]) (resN (l:=Tryz.f11.results.toList) (vs:=[slice none 0 0,int .i64 6]) rfl ⟨rfl,rfl,trivial⟩ (by simp)) ?_
   have hs:=hs.nil 46 (K.int .u16)
   have hs:=hs.pull 0 rfl
   have hs:St _ [_] _:=St.take (Γ':=[_,_]) hs
   exact ⟨_,rfl,(slice none 0 0),rfl,hs⟩
  intro hb
  rw [if_neg (b_dec_f hb)] at H
  show G _ _ _ _ [_,_,_,_,_,_,_,_,_,_,_,_,_,_,_,_,_,_,_,_,_,_,_,_,_,_,_,_,_,_,_,_,_,_,_,_,_,_,_] _
  refine Qac (Qas rfl (QaK (Qaj (Qan [0,1] rfl ?_))))
  refine QcC (κ:=(K.int .u16)) hs rfl rfl rfl rfl (fun _=>rfl) ?_
  intro v11 w hs
  refine Qab (v:=v11) rfl rfl rfl (Qac (Qaj ?_))
  obtain ⟨o1_,Ho,Hr1_⟩:=bind_get H
  refine QaR (J:=fun t w=>∃ v24:Value,∃ x25:(List Int),QaL.a0 N x25=some r∧Fr t (fun O=>([O 0,O 1,O 2,O 3,O 4,O 5,v24,O 7,O 8,O 9,O 10,O 11,O 12,O 13,O 14,O 15,O 16,O 17,O 18,O 19,O 20,O 21,O 22,O 23,O 24,O 25,O 26,O 27,O 28,O 29,O 30,O 31,O 32,O 33,O 34,O 35,O 36,O 37,O 38]:List Value))∧St w0 [Row 46 (K.int .u16) v24 x25] w) ?_ ?_
  ·
   rintro t w ⟨v24,x25,H,hf,hs⟩
   obtain ⟨O,rfl⟩:=hf.open
   show G _ _ _ _ [_,_,_,_,_,_,_,_,_,_,_,_,_,_,_,_,_,_,_,_,_,_,_,_,_,_,_,_,_,_,_,_,_,_,_,_,_,_,_] _
   unfold QaL.a0 at H
   refine Qaj (Qan [0,1] rfl ?_)
   refine Qab (v:=v24) rfl rfl rfl ?_
   obtain ⟨r27,Hr27,H⟩:=bind_get H
   have hs:St _ [_] _:=hs.pull 0 rfl
   have hs:=hs.pack 1
   refine Qaz (args:=[v24]) rfl rfl (QaA rfl (callFunc_enter Tryz.func42 rfl rfl) rfl) (QaM.calls (a1:=x25) hs Hr27) ?_
   rintro _ w ⟨rfl,hs⟩
   have hs:=St.unpack (Γ:=[_]) hs
   have hs:St _ [_] _:=hs
   show G _ _ _ _ [_,_,_,_,_,_,_,_,_,_,_,_,_,_,_,_,_,_,_,_,_,_,_,_,_,_,_,_,_,_,_,_,_,_,_,_,_,_,_] _
   refine Qac (Qaj (Qan [0,1,2] rfl ?_))
   refine Qab (v:=v24) rfl rfl rfl ?_
   refine Qab (v:=v24) rfl rfl rfl ?_
   refine Qab (v:=int .i64 0) rfl rfl rfl (Qac ?_)
   obtain rfl:=QsJ H
   refine QaB Tryz.func11 (v:=tuple #[v24,int .i64 0]) (resN (l:=Tryz.f11.results.toList) (vs:=[v24,int .i64 0]) rfl ⟨rfl,rfl,trivial⟩ (by simp)) ?_
   have hs:=hs.pull 0 rfl
   have hs:St _ [_] _:=St.take (Γ':=[]) hs
   exact ⟨_,rfl,v24,rfl,hs⟩
  intro ha1_
  have hs:=hs.pull 0 rfl
  have hs:=hs.pull 1 rfl
  have hs:St _ [_,_] _:=St.take (Γ':=[_]) hs
  refine Qba (I:=fun n_ t w=>∃ x13:Int,∃ v15:Value,∃ x16:(List Int),rounds (fun s=>QaL.b0 N r7 s.1 s.2) n_ (x13,x16)=some o1_∧Fr t (fun O=>([O 0,O 1,O 2,O 3,v8,int .i64 x13,v15,O 7,O 8,O 9,O 10,O 11,O 12,O 13,O 14,O 15,O 16,O 17,O 18,O 19,O 20,O 21,O 22,O 23,O 24,O 25,O 26,O 27,O 28,O 29,O 30,O 31,O 32,O 33,O 34,O 35,O 36,O 37,O 38]:List Value))∧St w0 [Row 82 Qa5 v8 r7,Row 46 (K.int .u16) v15 x16] w) N ⟨r10,v11,([]:List Int),Ho,rfl,hs⟩ ?_ ?_
  ·
   rintro _ _ ⟨x13,v15,x16,h,_⟩
   exact rounds_zero h
  intro n_ ih1_
  rintro t w ⟨x13,v15,x16,Ho,hf,hs⟩
  obtain ⟨O,rfl⟩:=hf.open
  show G _ _ _ _ [_,_,_,_,_,_,_,_,_,_,_,_,_,_,_,_,_,_,_,_,_,_,_,_,_,_,_,_,_,_,_,_,_,_,_,_,_,_,_] _
  obtain ⟨x4_,H,Hx1_⟩:=rounds_succ Ho
  have H:QaL.b0 N r7 x13 x16=some x4_:=H
  unfold QaL.b0 at H
  refine Qaj (Qaj (Qan [0,1,2,3,4,5] rfl ?_))
  refine Qab (v:=v8) rfl rfl rfl ?_
  refine Qab (v:=int .i64 x13) rfl rfl rfl ?_
  obtain ⟨g1,H⟩:=ite_get H
  refine QbQ Qa6 Qap (hs.row 0 rfl) rfl (fun _=>rfl) g1.1 g1.2 rfl rfl rfl rfl rfl ?_
  intro p17 hp17 lp17 op17
  show G _ _ _ _ [_,_,_,_,_,_,_,_,_,_,_,_,_,_,_,_,_,_,_,_,_,_,_,_,_,_,_,_,_,_,_,_,_,_,_,_,_,_,_] _
  refine Qab (v:=pointer (some (p17.add 2))) rfl rfl (Qcv rfl rfl rfl rfl rfl (m:=1) (fun _=>rfl) (by decide)) ?_
  refine Qaw rfl rfl (v:=int .i64 ((rdL r7 x13 Qap).QbW)) rfl rfl (fun _=>rfl) (CellsAt.sub hp17 2 1 (by first|rfl|(simp [QaE,Qcc,List.drop_append,List.take_append,encAI_len,encAB_len,encA_len,List.take_of_length_le,List.drop_eq_nil_of_le]))) ?_
  refine QaI (B:=decide (((rdL r7 x13 Qap).QbW)≥0)) rfl rfl rfl ?_ ?_
  ·
   intro hb
   rw [if_pos (b_dec_t hb)] at H
   show G _ _ _ _ [_,_,_,_,_,_,_,_,_,_,_,_,_,_,_,_,_,_,_,_,_,_,_,_,_,_,_,_,_,_,_,_,_,_,_,_,_,_,_] _
   refine Qac (Qaq rfl (QaK (Qaj ?_)))
   refine QbG (Qan [0,1,2,3,4,5,6,7,8] rfl ?_)
   refine Qab (v:=v15) rfl rfl rfl ?_
   refine Qab (v:=v8) rfl rfl rfl ?_
   refine Qab (v:=int .i64 x13) rfl rfl rfl ?_
   obtain ⟨g2,H⟩:=ite_get H
   refine QbQ Qa6 Qap (hs.row 0 rfl) rfl (fun _=>rfl) g2.1 g2.2 rfl rfl rfl rfl rfl ?_
   intro p18 hp18 lp18 op18
   refine Qab (v:=pointer (some (p18.add 3))) rfl rfl (Qcv rfl rfl rfl rfl rfl (m:=1) (fun _=>rfl) (by decide)) ?_
   refine Qaw rfl rfl (v:=int .u16 ((rdL r7 x13 Qap).Qcl)) rfl rfl (fun _=>rfl) (CellsAt.sub hp18 3 1 (by first|rfl|(simp [QaE,Qcc,List.drop_append,List.take_append,encAI_len,encAB_len,encA_len,List.take_of_length_le,List.drop_eq_nil_of_le]))) ?_
   show G _ _ _ _ [_,_,_,_,_,_,_,_,_,_,_,_,_,_,_,_,_,_,_,_,_,_,_,_,_,_,_,_,_,_,_,_,_,_,_,_,_,_,_] _
   refine Qcq (fkI .u16) (y:=(rdL r7 x13 Qap).Qcl) hs rfl rfl rfl rfl (fun _=>rfl) (zv:=(int .u16 0)) (fun _=>rfl) rfl (by decide) (by decide) rfl ?_
   intro v19 w hs
   show G _ _ _ _ [_,_,_,_,_,_,_,_,_,_,_,_,_,_,_,_,_,_,_,_,_,_,_,_,_,_,_,_,_,_,_,_,_,_,_,_,_,_,_] _
   have hs:St _ [_,_,_] _:=hs.pull 2 rfl
   obtain ⟨g,H⟩:=ite_get H
   refine Qcr (fkI .u16) (zv:=(int .u16 0)) (B:=2) hs (hs.row 1 rfl) rfl rfl rfl rfl rfl rfl rfl rfl rfl (by decide) rfl rfl (by decide) (by omega) ?_
   intro v21 w hs
   refine Qab (v:=v21) rfl rfl rfl (Qac ?_)
   refine Qa0 (Qan [0,1,2,3,4,5] rfl ?_)
   refine Qab (v:=v8) rfl rfl rfl ?_
   refine Qab (v:=int .i64 x13) rfl rfl rfl ?_
   obtain ⟨g3,H⟩:=ite_get H
   refine QbQ Qa6 Qap (hs.row 2 rfl) rfl (fun _=>rfl) g3.1 g3.2 rfl rfl rfl rfl rfl ?_
   intro p23 hp23 lp23 op23
   show G _ _ _ _ [_,_,_,_,_,_,_,_,_,_,_,_,_,_,_,_,_,_,_,_,_,_,_,_,_,_,_,_,_,_,_,_,_,_,_,_,_,_,_] _
   refine Qab (v:=pointer (some (p23.add 2))) rfl rfl (Qcv rfl rfl rfl rfl rfl (m:=1) (fun _=>rfl) (by decide)) ?_
   refine Qaw rfl rfl (v:=int .i64 ((rdL r7 x13 Qap).QbW)) rfl rfl (fun _=>rfl) (CellsAt.sub hp23 2 1 (by first|rfl|(simp [QaE,Qcc,List.drop_append,List.take_append,encAI_len,encAB_len,encA_len,List.take_of_length_le,List.drop_eq_nil_of_le]))) ?_
   refine Qab (v:=int .i64 ((rdL r7 x13 Qap).QbW)) rfl rfl rfl (Qac ?_)
   obtain rfl:=QsJ H
   have hs:=hs.pull 0 rfl
   have hs:=hs.pull 2 rfl
   have hs:St _ [_,_] _:=St.take (Γ':=[_]) hs
   exact ih1_ _ _ ⟨(rdL r7 x13 Qap).QbW,v21,x16++([(rdL r7 x13 Qap).Qcl]),Hx1_,rfl,hs⟩
  intro hb
  rw [if_neg (b_dec_f hb)] at H
  refine Qac (Qas rfl ?_)
  obtain rfl:=QsJ H
  subst Hx1_
  have hs:=hs.pull 1 rfl
  have hs:St _ [_] _:=St.take (Γ':=[_]) hs
  refine QbE rfl ?_
  exact ha1_ _ _ ⟨v15,x16,Hr1_,rfl,hs⟩
 |false=>
  rw [if_neg Bool.false_ne_true] at H
  refine Qab (v:=bool true) rfl rfl rfl ?_
  show G _ _ _ _ [_,_,_,_,_,_,_,_,_,_,_,_,_,_,_,_,_,_,_,_,_,_,_,_,_,_,_,_,_,_,_,_,_,_,_,_,_,_,_] _
  refine Qac (Qaq rfl (Qaj (Qan [0,1] rfl ?_)))
  refine Qab (v:=slice none 0 0) rfl rfl rfl ?_
  refine Qab (v:=int .i64 1) rfl rfl rfl (Qac ?_)
  obtain rfl:=QsJ H
  refine QaB Tryz.func11 (v:=tuple #[slice none 0 0,int .i64 1]) (resN (l:=Tryz.f11.results.toList) (vs:=[slice none 0 0,int .i64 1]) rfl ⟨rfl,rfl,trivial⟩ (by simp)) ?_
  have hs:=hs.nil 46 (K.int .u16)
  have hs:=hs.pull 0 rfl
  have hs:St _ [_] _:=St.take (Γ':=[_]) hs
  exact ⟨_,rfl,(slice none 0 0),rfl,hs⟩
def Qcg.post (w0:World) (r:Int) (v:Value) (w:World):Prop:=v=int .i64 r∧St w0 [] w
theorem Qcg.calls {N:Nat} {a1:Qaf} {b2:Nat} {v3:Value} {w0:World} {r:Int} (hr4:RdRow (K.int .u16) w0 v3 a1.Qal) (hp0:w0.heap[b2]?=some (.cells ((([int .i8 a1.Qad,int .i8 a1.Qag,v3]:List Value)):List Value).toArray 27 (0,0))) (H:Qcg.f N a1=some r):
 Calls Tryz.prog 43 #[pointer (some ⟨b2,0,none⟩)] w0 fun e w=>∃ v,e= .returned v∧Qcg.post w0 r v w:=by
 unfold Qcg.f at H
 have hs:St w0 [] w0:=St.refl w0
 refine calls_of_g (n:=6) Tryz.func43 rfl rfl ?_
 show G _ _ _ _ [_,_,_,_,_,_,_] _
 refine Qaj (Qan [0] rfl ?_)
 refine Qab (v:=int .i64 0) rfl rfl rfl ?_
 show G _ _ _ _ [_,_,_,_,_,_,_] _
 refine Qac (Qaj (Qan [0,1,2,3,4] rfl ?_))
 refine Qab (v:=pointer (some ⟨b2,0,none⟩)) rfl rfl rfl ?_
 obtain ⟨r6,Hr6,H⟩:=bind_get H
 refine Qaz (args:=[pointer (some ⟨b2,0,none⟩)]) rfl rfl (QaA rfl (callFunc_enter Tryz.func74 rfl rfl) rfl) (Qbp.calls (a1:=(⟨a1.Qad,a1.Qag,a1.Qal⟩:Qaf)) (hs.rd hr4) (hs.box hp0) Hr6) ?_
 rintro _ w ⟨rfl,hs2⟩
 have hs:St _ [] _:=hs.call hs2
 refine Qab (v:=int .i64 (i64w r6)) rfl rfl rfl ?_
 show G _ _ _ _ [_,_,_,_,_,_,_] _
 refine Qab (v:=int .i64 (i64w ((i64w r6)+1))) rfl rfl rfl ?_
 refine Qab (v:=int .i64 (i64w ((i64w r6)+1))) rfl rfl rfl (Qac ?_)
 obtain rfl:=QsJ H
 refine QaB Tryz.func43 (v:=int .i64 (i64w ((i64w r6)+1))) (res1 rfl rfl) ?_
 have hs:St _ [] _:=St.take (Γ':=[]) hs
 exact ⟨_,rfl,rfl,hs⟩
def QaT.post (w0:World) (r:((List Int)×Int)) (v:Value) (w:World):Prop:=∃ u1:Value,v=tuple #[u1,int .i64 r.2]∧St w0 [Row 46 (K.int .u16) u1 r.1] w
theorem QaT.calls {N:Nat} {a1:Qaf} {v2:Value} {w0:World} {r:((List Int)×Int)} (hr3:RdRow (K.int .u16) w0 v2 a1.Qal) (H:QaT.f N a1=some r):
 Calls Tryz.prog 12 #[agg (([int .i8 a1.Qad,int .i8 a1.Qag,v2]:List Value)).toArray] w0 fun e w=>∃ v,e= .returned v∧QaT.post w0 r v w:=by
 unfold QaT.f at H
 have hs:St w0 [] w0:=St.refl w0
 refine calls_of_g (n:=47) Tryz.func12 rfl rfl ?_
 show G _ _ _ _ [_,_,_,_,_,_,_,_,_,_,_,_,_,_,_,_,_,_,_,_,_,_,_,_,_,_,_,_,_,_,_,_,_,_,_,_,_,_,_,_,_,_,_,_,_,_,_,_] _
 refine Qaj (Qan [0,1,2] rfl ?_)
 refine Qbw hs rfl rfl (cs:=(([int .i8 a1.Qad,int .i8 a1.Qag,v2]:List Value))) rfl rfl ?_
 intro b4 w hs
 show G _ _ _ _ [_,_,_,_,_,_,_,_,_,_,_,_,_,_,_,_,_,_,_,_,_,_,_,_,_,_,_,_,_,_,_,_,_,_,_,_,_,_,_,_,_,_,_,_,_,_,_,_] _
 refine Qab (v:=slice none 0 0) rfl rfl rfl ?_
 refine Qab (v:=int .i64 0) rfl rfl rfl (Qac (Qaj (Qaj (Qan [0,1] rfl ?_))))
 obtain ⟨r6,Hr6,H⟩:=bind_get H
 refine Qaz (args:=[pointer (some ⟨b4,0,none⟩)]) rfl rfl (QaA rfl (callFunc_enter Tryz.func36 rfl rfl) rfl) (Qbr.calls (a1:=(⟨a1.Qad,a1.Qag,a1.Qal⟩:Qaf)) (hs.rd hr3) (hs.cells 0 rfl) Hr6) ?_
 rintro _ w ⟨rfl,hs2⟩
 have hs:St _ [_] _:=hs.call hs2
 cases r6 with
 |true=>
  rw [if_pos rfl] at H
  refine Qab (v:=bool false) rfl rfl rfl ?_
  show G _ _ _ _ [_,_,_,_,_,_,_,_,_,_,_,_,_,_,_,_,_,_,_,_,_,_,_,_,_,_,_,_,_,_,_,_,_,_,_,_,_,_,_,_,_,_,_,_,_,_,_,_] _
  refine Qac (Qas rfl (QaK (Qaj (Qan [0,1] rfl ?_))))
  obtain ⟨r7,Hr7,H⟩:=bind_get H
  refine Qaz (args:=[pointer (some ⟨b4,0,none⟩)]) rfl rfl (QaA rfl (callFunc_enter Tryz.func37 rfl rfl) rfl) (QaD.calls (a1:=(⟨a1.Qad,a1.Qag,a1.Qal⟩:Qaf)) (hs.rd hr3) (hs.cells 0 rfl) Hr7) ?_
  rintro _ w ⟨b8,v9,v10,v11,v12,rfl,hs2⟩
  have hs:St _ [_,_,_,_,_,_] _:=hs.call hs2
  refine Qab (v:=pointer (some ⟨b8,0,none⟩)) rfl rfl rfl (Qac (Qaj (Qan [0,1] rfl ?_)))
  obtain ⟨r18,Hr18,H⟩:=bind_get H
  refine Qaz (args:=[pointer (some ⟨b4,0,none⟩)]) rfl rfl (QaA rfl (callFunc_enter Tryz.func43 rfl rfl) rfl) (Qcg.calls (a1:=(⟨a1.Qad,a1.Qag,a1.Qal⟩:Qaf)) (hs.rd hr3) (hs.cells 5 rfl) Hr18) ?_
  rintro _ w ⟨rfl,hs2⟩
  have hs:St _ [_,_,_,_,_,_] _:=hs.call hs2
  show G _ _ _ _ [_,_,_,_,_,_,_,_,_,_,_,_,_,_,_,_,_,_,_,_,_,_,_,_,_,_,_,_,_,_,_,_,_,_,_,_,_,_,_,_,_,_,_,_,_,_,_,_] _
  refine Qab (v:=int .i64 r18) rfl rfl rfl (Qac (Qaj (Qaj (Qan [0,1,2,3,4,5,6,7] rfl ?_))))
  refine Qab (v:=pointer (some ⟨b8,0,none⟩)) rfl rfl rfl ?_
  refine Qab (v:=pointer (some ⟨b8,0,none⟩)) rfl rfl rfl ?_
  refine Qab (v:=pointer (some ⟨b8,0,none⟩)) rfl rfl rfl ?_
  refine Qaw rfl rfl (v:=v9) rfl rfl (fun _=>rfl) (cells_load (hs.cells 0 rfl) 0 1 rfl) ?_
  refine Qab (v:=int .i64 r18) rfl rfl rfl ?_
  obtain ⟨g1,H⟩:=ite_get H
  refine QbQ (fkI .i16) 0 (hs.row 1 rfl) rfl (fun _=>rfl) g1.1 g1.2 rfl rfl rfl rfl rfl ?_
  intro p19 hp19 lp19 op19
  show G _ _ _ _ [_,_,_,_,_,_,_,_,_,_,_,_,_,_,_,_,_,_,_,_,_,_,_,_,_,_,_,_,_,_,_,_,_,_,_,_,_,_,_,_,_,_,_,_,_,_,_,_] _
  refine Qaw rfl rfl (v:=int .i16 (rdL r7.Qcp r18 0)) rfl rfl (fun _=>rfl) hp19 ?_
  refine QaI (B:=decide ((rdL r7.Qcp r18 0)< 0)) rfl rfl rfl ?_ ?_
  ·
   intro hb
   rw [if_pos (b_dec_t hb)] at H
   refine Qac (Qaq rfl (Qaj (Qan [0,1,2] rfl ?_)))
   refine QcC (κ:=(K.int .u16)) hs rfl rfl rfl rfl (fun _=>rfl) ?_
   intro v20 w hs
   refine Qab (v:=v20) rfl rfl rfl ?_
   show G _ _ _ _ [_,_,_,_,_,_,_,_,_,_,_,_,_,_,_,_,_,_,_,_,_,_,_,_,_,_,_,_,_,_,_,_,_,_,_,_,_,_,_,_,_,_,_,_,_,_,_,_] _
   refine Qab (v:=int .i64 6) rfl rfl rfl (Qac ?_)
   obtain rfl:=QsJ H
   refine QaB Tryz.func12 (v:=tuple #[v20,int .i64 6]) (resN (l:=Tryz.f12.results.toList) (vs:=[v20,int .i64 6]) rfl ⟨rfl,rfl,trivial⟩ (by simp)) ?_
   have hs:=hs.pull 0 rfl
   have hs:St _ [_] _:=St.take (Γ':=[_,_,_,_,_,_]) hs
   exact ⟨_,rfl,v20,rfl,hs⟩
  intro hb
  rw [if_neg (b_dec_f hb)] at H
  refine Qac (Qas rfl (QaK (Qaj (Qan [0,1] rfl ?_))))
  refine QcC (κ:=(K.int .u16)) hs rfl rfl rfl rfl (fun _=>rfl) ?_
  intro v22 w hs
  show G _ _ _ _ [_,_,_,_,_,_,_,_,_,_,_,_,_,_,_,_,_,_,_,_,_,_,_,_,_,_,_,_,_,_,_,_,_,_,_,_,_,_,_,_,_,_,_,_,_,_,_,_] _
  refine Qab (v:=v22) rfl rfl rfl (Qac (Qaj ?_))
  obtain ⟨o1_,Ho,Hr1_⟩:=bind_get H
  refine QaR (J:=fun t w=>∃ v35:Value,∃ x36:(List Int),QaT.a0 N x36=some r∧Fr t (fun O=>([O 0,O 1,O 2,O 3,O 4,O 5,v35,O 7,O 8,O 9,O 10,O 11,O 12,O 13,O 14,O 15,O 16,O 17,O 18,O 19,O 20,O 21,O 22,O 23,O 24,O 25,O 26,O 27,O 28,O 29,O 30,O 31,O 32,O 33,O 34,O 35,O 36,O 37,O 38,O 39,O 40,O 41,O 42,O 43,O 44,O 45,O 46,O 47]:List Value))∧St w0 [Row 46 (K.int .u16) v35 x36] w) ?_ ?_
  ·
   rintro t w ⟨v35,x36,H,hf,hs⟩
   obtain ⟨O,rfl⟩:=hf.open
   show G _ _ _ _ [_,_,_,_,_,_,_,_,_,_,_,_,_,_,_,_,_,_,_,_,_,_,_,_,_,_,_,_,_,_,_,_,_,_,_,_,_,_,_,_,_,_,_,_,_,_,_,_] _
   unfold QaT.a0 at H
   refine Qaj (Qan [0,1,2] rfl ?_)
   refine Qab (v:=v35) rfl rfl rfl ?_
   refine Qab (v:=v35) rfl rfl rfl ?_
   refine Qab (v:=int .i64 0) rfl rfl rfl ?_
   show G _ _ _ _ [_,_,_,_,_,_,_,_,_,_,_,_,_,_,_,_,_,_,_,_,_,_,_,_,_,_,_,_,_,_,_,_,_,_,_,_,_,_,_,_,_,_,_,_,_,_,_,_] _
   refine Qac ?_
   obtain rfl:=QsJ H
   refine QaB Tryz.func12 (v:=tuple #[v35,int .i64 0]) (resN (l:=Tryz.f12.results.toList) (vs:=[v35,int .i64 0]) rfl ⟨rfl,rfl,trivial⟩ (by simp)) ?_
   have hs:=hs.pull 0 rfl
   have hs:St _ [_] _:=St.take (Γ':=[]) hs
   exact ⟨_,rfl,v35,rfl,hs⟩
  intro ha1_
  have hs:=hs.pull 0 rfl
  have hs:=hs.pull 1 rfl
  have hs:=hs.pull 5 rfl
  have hs:=hs.pull 5 rfl
  have hs:=hs.pull 5 rfl
  have hs:=hs.pull 5 rfl
  have hs:St _ [_,_,_,_,_,_] _:=St.take (Γ':=[_]) hs
  refine Qba (I:=fun n_ t w=>∃ x24:Int,∃ v26:Value,∃ x27:(List Int),rounds (fun s=>QaT.b0 N r7 s.1 s.2) n_ (x24,x27)=some o1_∧Fr t (fun O=>([O 0,O 1,O 2,O 3,pointer (some ⟨b8,0,none⟩),int .i64 x24,v26,O 7,O 8,O 9,O 10,O 11,O 12,O 13,O 14,O 15,O 16,O 17,O 18,O 19,O 20,O 21,O 22,O 23,O 24,O 25,O 26,O 27,O 28,O 29,O 30,O 31,O 32,O 33,O 34,O 35,O 36,O 37,O 38,O 39,O 40,O 41,O 42,O 43,O 44,O 45,O 46,O 47]:List Value))∧St w0 [Row 86 (K.int .i16) v9 r7.Qcp,Row 2 (K.int .i64) v10 r7.Qc2,Row 2 (K.int .i64) v11 r7.QcB,Row 46 (K.int .u16) v12 r7.QcJ,Cells b8 (([v9,v10,v11,v12]:List Value)) 74,Row 46 (K.int .u16) v26 x27] w) N ⟨r18,v22,([]:List Int),Ho,rfl,hs⟩ ?_ ?_
  ·
   rintro _ _ ⟨x24,v26,x27,h,_⟩
   exact rounds_zero h
  intro n_ ih1_
  rintro t w ⟨x24,v26,x27,Ho,hf,hs⟩
  obtain ⟨O,rfl⟩:=hf.open
  show G _ _ _ _ [_,_,_,_,_,_,_,_,_,_,_,_,_,_,_,_,_,_,_,_,_,_,_,_,_,_,_,_,_,_,_,_,_,_,_,_,_,_,_,_,_,_,_,_,_,_,_,_] _
  obtain ⟨x5_,H,Hx1_⟩:=rounds_succ Ho
  have H:QaT.b0 N r7 x24 x27=some x5_:=H
  unfold QaT.b0 at H
  refine Qaj (Qaj (Qan [0,1,2,3,4,5,6,7] rfl ?_))
  refine Qab (v:=pointer (some ⟨b8,0,none⟩)) rfl rfl rfl ?_
  refine Qab (v:=pointer (some ⟨b8,0,none⟩)) rfl rfl rfl ?_
  refine Qab (v:=pointer (some ⟨b8,0,none⟩)) rfl rfl rfl ?_
  refine Qaw rfl rfl (v:=v9) rfl rfl (fun _=>rfl) (cells_load (hs.cells 4 rfl) 0 1 rfl) ?_
  refine Qab (v:=int .i64 x24) rfl rfl rfl ?_
  obtain ⟨g2,H⟩:=ite_get H
  refine QbQ (fkI .i16) 0 (hs.row 0 rfl) rfl (fun _=>rfl) g2.1 g2.2 rfl rfl rfl rfl rfl ?_
  intro p28 hp28 lp28 op28
  show G _ _ _ _ [_,_,_,_,_,_,_,_,_,_,_,_,_,_,_,_,_,_,_,_,_,_,_,_,_,_,_,_,_,_,_,_,_,_,_,_,_,_,_,_,_,_,_,_,_,_,_,_] _
  refine Qaw rfl rfl (v:=int .i16 (rdL r7.Qcp x24 0)) rfl rfl (fun _=>rfl) hp28 ?_
  refine QaI (B:=decide ((rdL r7.Qcp x24 0)>0)) rfl rfl rfl ?_ ?_
  ·
   intro hb
   rw [if_pos (b_dec_t hb)] at H
   show G _ _ _ _ [_,_,_,_,_,_,_,_,_,_,_,_,_,_,_,_,_,_,_,_,_,_,_,_,_,_,_,_,_,_,_,_,_,_,_,_,_,_,_,_,_,_,_,_,_,_,_,_] _
   refine Qac (Qaq rfl (QaK ?_))
   refine QbG (Qaj (Qan [0,1,2,3,4,5,6,7,8,9,10] rfl ?_))
   refine Qab (v:=pointer (some ⟨b8,0,none⟩)) rfl rfl rfl ?_
   refine Qab (v:=pointer (some ⟨b8,0,none⟩)) rfl rfl rfl ?_
   refine Qab (v:=pointer (some ⟨b8,3,none⟩)) rfl rfl rfl ?_
   refine Qaw rfl rfl (v:=v12) rfl rfl (fun _=>rfl) (cells_load (hs.cells 4 rfl) 3 1 rfl) ?_
   refine Qab (v:=int .i64 x24) rfl rfl rfl ?_
   obtain ⟨g3,H⟩:=ite_get H
   refine QbQ (fkI .u16) 0 (hs.row 3 rfl) rfl (fun _=>rfl) g3.1 g3.2 rfl rfl rfl rfl rfl ?_
   intro p29 hp29 lp29 op29
   refine Qaw rfl rfl (v:=int .u16 (rdL r7.QcJ x24 0)) rfl rfl (fun _=>rfl) hp29 ?_
   show G _ _ _ _ [_,_,_,_,_,_,_,_,_,_,_,_,_,_,_,_,_,_,_,_,_,_,_,_,_,_,_,_,_,_,_,_,_,_,_,_,_,_,_,_,_,_,_,_,_,_,_,_] _
   refine Qcq (fkI .u16) (y:=rdL r7.QcJ x24 0) hs rfl rfl rfl rfl (fun _=>rfl) (zv:=(int .u16 0)) (fun _=>rfl) rfl (by decide) (by decide) rfl ?_
   intro v30 w hs
   refine Qab (v:=v26) rfl rfl rfl ?_
   obtain ⟨g,H⟩:=ite_get H
   refine Qcr (fkI .u16) (zv:=(int .u16 0)) (B:=2) hs (hs.row 6 rfl) rfl rfl rfl rfl rfl rfl rfl rfl rfl (by decide) rfl rfl (by decide) (by omega) ?_
   intro v32 w hs
   refine Qab (v:=v32) rfl rfl rfl ?_
   show G _ _ _ _ [_,_,_,_,_,_,_,_,_,_,_,_,_,_,_,_,_,_,_,_,_,_,_,_,_,_,_,_,_,_,_,_,_,_,_,_,_,_,_,_,_,_,_,_,_,_,_,_] _
   refine Qac (Qan [0,1,2,3,4,5,6,7] rfl ?_)
   refine Qab (v:=pointer (some ⟨b8,0,none⟩)) rfl rfl rfl ?_
   refine Qab (v:=pointer (some ⟨b8,0,none⟩)) rfl rfl rfl ?_
   refine Qab (v:=pointer (some ⟨b8,2,none⟩)) rfl rfl rfl ?_
   refine Qaw rfl rfl (v:=v11) rfl rfl (fun _=>rfl) (cells_load (hs.cells 5 rfl) 2 1 rfl) ?_
   refine Qab (v:=int .i64 x24) rfl rfl rfl ?_
   obtain ⟨g4,H⟩:=ite_get H
   refine QbQ (fkI .i64) 0 (hs.row 3 rfl) rfl (fun _=>rfl) g4.1 g4.2 rfl rfl rfl rfl rfl ?_
   intro p34 hp34 lp34 op34
   refine Qaw rfl rfl (v:=int .i64 (rdL r7.QcB x24 0)) rfl rfl (fun _=>rfl) hp34 ?_
   show G _ _ _ _ [_,_,_,_,_,_,_,_,_,_,_,_,_,_,_,_,_,_,_,_,_,_,_,_,_,_,_,_,_,_,_,_,_,_,_,_,_,_,_,_,_,_,_,_,_,_,_,_] _
   refine Qab (v:=int .i64 (rdL r7.QcB x24 0)) rfl rfl rfl (Qac ?_)
   refine Qa0 ?_
   obtain rfl:=QsJ H
   have hs:=hs.pull 0 rfl
   have hs:=hs.pull 5 rfl
   have hs:=hs.pull 5 rfl
   have hs:=hs.pull 5 rfl
   have hs:=hs.pull 5 rfl
   have hs:=hs.pull 5 rfl
   have hs:St _ [_,_,_,_,_,_] _:=St.take (Γ':=[_]) hs
   exact ih1_ _ _ ⟨rdL r7.QcB x24 0,v32,([rdL r7.QcJ x24 0])++x27,Hx1_,rfl,hs⟩
  intro hb
  rw [if_neg (b_dec_f hb)] at H
  refine Qac (Qas rfl ?_)
  obtain rfl:=QsJ H
  subst Hx1_
  have hs:=hs.pull 5 rfl
  have hs:St _ [_] _:=St.take (Γ':=[_,_,_,_,_]) hs
  refine QbE rfl ?_
  exact ha1_ _ _ ⟨v26,x27,Hr1_,rfl,hs⟩
 |false=>
  rw [if_neg Bool.false_ne_true] at H
  show G _ _ _ _ [_,_,_,_,_,_,_,_,_,_,_,_,_,_,_,_,_,_,_,_,_,_,_,_,_,_,_,_,_,_,_,_,_,_,_,_,_,_,_,_,_,_,_,_,_,_,_,_] _
  refine Qab (v:=bool true) rfl rfl rfl (Qac (Qaq rfl (Qaj (Qan [0,1,2] rfl ?_))))
  refine QcC (κ:=(K.int .u16)) hs rfl rfl rfl rfl (fun _=>rfl) ?_
  intro v38 w hs
  refine Qab (v:=v38) rfl rfl rfl ?_
  show G _ _ _ _ [_,_,_,_,_,_,_,_,_,_,_,_,_,_,_,_,_,_,_,_,_,_,_,_,_,_,_,_,_,_,_,_,_,_,_,_,_,_,_,_,_,_,_,_,_,_,_,_] _
  refine Qab (v:=int .i64 1) rfl rfl rfl (Qac ?_)
  obtain rfl:=QsJ H
  refine QaB Tryz.func12 (v:=tuple #[v38,int .i64 1]) (resN (l:=Tryz.f12.results.toList) (vs:=[v38,int .i64 1]) rfl ⟨rfl,rfl,trivial⟩ (by simp)) ?_
  have hs:=hs.pull 0 rfl
  have hs:St _ [_] _:=St.take (Γ':=[_]) hs
  exact ⟨_,rfl,v38,rfl,hs⟩
end Go.Proofs.YtblbfnngmeoipaaGreatDoorX
