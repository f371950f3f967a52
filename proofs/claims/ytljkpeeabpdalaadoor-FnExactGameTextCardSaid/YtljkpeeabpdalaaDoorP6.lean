import Derived.Test.YtljkpeeabpdalaaDoorP5
namespace Go.Proofs.YtljkpeeabpdalaaDoorX
open Go Go.RowKit Go.Proofs
open Go.Value (int pointer bool agg slice string tuple)
set_option maxHeartbeats 8000000
set_option maxRecDepth 100000
set_option linter.unusedVariables false
set_option linter.unusedSimpArgs false
def Qa8.post (w0:World) (r:Int) (v:Value) (w:World):Prop:=v=int .i64 r∧St w0 [] w
theorem Qa8.calls {N:Nat} {a1:(List Qas)} {a3:Int} {v2:Value} {w0:World} {r:Int} (hr0:RdRow QaC w0 v2 a1) (H:Qa8.f N a1 a3=some r):
 Calls Tryd.prog 14 #[v2,int .i64 a3] w0 fun e w=>∃ v,e= .returned v∧Qa8.post w0 r v w:=by
 unfold Qa8.f at H
 have hs:St w0 [] w0:=St.refl w0
 refine calls_of_g (n:=10) Tryd.func14 rfl rfl ?_
 show G _ _ _ _ [_,_,_,_,_,_,_,_,_,_,_,_] _
 refine Qad (Qaj [0] rfl ?_)
 refine Qaa (v:=int .i64 0) rfl rfl rfl (Qab (Qad (Qaj [0,1,2,3,4] rfl ?_)))
 refine Qaa (v:=int .i64 a3) rfl rfl rfl ?_
 show G _ _ _ _ [_,_,_,_,_,_,_,_,_,_,_,_] _
 refine Qaa (v:=v2) rfl rfl rfl ?_
 refine Qbi (hs.rd hr0) rfl rfl rfl rfl rfl ?_
 refine Qaa (v:=int .i64 (i64w (a3 - (a1.length:Int)))) rfl rfl rfl ?_
 show G _ _ _ _ [_,_,_,_,_,_,_,_,_,_,_,_] _
 refine Qaa (v:=int .i64 (i64w (a3 - (a1.length:Int)))) rfl rfl rfl (Qab (Qad (Qad (Qaj [0,1] rfl ?_))))
 refine Qaa (v:=int .i64 (i64w (a3 - (a1.length:Int)))) rfl rfl rfl ?_
 refine Qau (B:=decide ((i64w (a3 - (a1.length:Int)))< 0)) rfl rfl rfl ?_ ?_
 ·
  intro hb
  rw [if_pos (b_dec_t hb)] at H
  refine Qab (Qap rfl (Qad (Qaj [0] rfl ?_)))
  refine Qaa (v:=int .i64 (-1)) rfl rfl rfl ?_
  show G _ _ _ _ [_,_,_,_,_,_,_,_,_,_,_,_] _
  refine Qab ?_
  obtain rfl:=QsJ H
  refine Qax Tryd.func14 (v:=int .i64 (-1)) (res1 rfl rfl) ?_
  have hs:St _ [] _:=St.take (Γ':=[]) hs
  exact ⟨_,rfl,rfl,hs⟩
 intro hb
 rw [if_neg (b_dec_f hb)] at H
 show G _ _ _ _ [_,_,_,_,_,_,_,_,_,_,_,_] _
 refine Qab (Qag rfl (Qay (Qad (Qaj [0,1] rfl ?_))))
 refine Qaa (v:=int .i64 (i64w (a3 - (a1.length:Int)))) rfl rfl rfl ?_
 refine Qaa (v:=int .i64 (i64w (a3 - (a1.length:Int)))) rfl rfl rfl (Qab ?_)
 obtain rfl:=QsJ H
 refine Qax Tryd.func14 (v:=int .i64 (i64w (a3 - (a1.length:Int)))) (res1 rfl rfl) ?_
 have hs:St _ [] _:=St.take (Γ':=[]) hs
 exact ⟨_,rfl,rfl,hs⟩
def Qa0.post (w0:World) (r:Int) (v:Value) (w:World):Prop:=v=int .i64 r∧St w0 [] w
theorem Qa0.calls {N:Nat} {a1:QaI} {a4:Int} {v2:Value} {w0:World} {r:Int} (hr3:RdRow QaC w0 v2 a1.Qaf) (H:Qa0.f N a1 a4=some r):
 Calls Tryd.prog 5 #[agg (([int .i8 a1.Qac,int .i8 a1.Qak,v2]:List Value)).toArray,int .i64 a4] w0 fun e w=>∃ v,e= .returned v∧Qa0.post w0 r v w:=by
 unfold Qa0.f at H
 have hs:St w0 [] w0:=St.refl w0
 refine calls_of_g (n:=10) Tryd.func5 rfl rfl ?_
 show G _ _ _ _ [_,_,_,_,_,_,_,_,_,_,_,_] _
 refine Qad (Qaj [0,1] rfl ?_)
 refine Qbf hs rfl rfl (cs:=(([int .i8 a1.Qac,int .i8 a1.Qak,v2]:List Value))) rfl rfl ?_
 intro b5 w hs
 show G _ _ _ _ [_,_,_,_,_,_,_,_,_,_,_,_] _
 refine Qaa (v:=int .i64 0) rfl rfl rfl (Qab (Qad (Qaj [0,1,2,3,4] rfl ?_)))
 refine Qaa (v:=pointer (some ⟨b5,2,none⟩)) rfl rfl rfl ?_
 refine QaH rfl rfl (v:=v2) rfl rfl (fun _=>rfl) (cells_load (hs.cells 0 rfl) 2 1 rfl) ?_
 show G _ _ _ _ [_,_,_,_,_,_,_,_,_,_,_,_] _
 refine Qaa (v:=int .i64 a4) rfl rfl rfl ?_
 obtain ⟨r7,Hr7,H⟩:=bind_get H
 refine Qaz (args:=[v2,int .i64 a4]) rfl rfl (Qaw rfl (callFunc_enter Tryd.func14 rfl rfl) rfl) (Qa8.calls (a1:=a1.Qaf) (a3:=a4) (hs.rd hr3) Hr7) ?_
 rintro _ w ⟨rfl,hs2⟩
 have hs:St _ [_] _:=hs.call hs2
 refine Qaa (v:=int .i64 r7) rfl rfl rfl ?_
 show G _ _ _ _ [_,_,_,_,_,_,_,_,_,_,_,_] _
 refine Qab (Qad (Qad (Qaj [0,1] rfl ?_)))
 refine Qaa (v:=int .i64 r7) rfl rfl rfl ?_
 refine Qau (B:=decide (r7< 0)) rfl rfl rfl ?_ ?_
 ·
  intro hb
  rw [if_pos (b_dec_t hb)] at H
  refine Qab (Qap rfl (Qad (Qaj [0] rfl ?_)))
  refine Qaa (v:=int .i64 (-1)) rfl rfl rfl (Qab ?_)
  obtain rfl:=QsJ H
  refine Qax Tryd.func5 (v:=int .i64 (-1)) (res1 rfl rfl) ?_
  have hs:St _ [] _:=St.take (Γ':=[_]) hs
  exact ⟨_,rfl,rfl,hs⟩
 intro hb
 rw [if_neg (b_dec_f hb)] at H
 refine Qab (Qag rfl (Qay (Qad (Qaj [0,1] rfl ?_))))
 refine Qaa (v:=int .i64 r7) rfl rfl rfl ?_
 show G _ _ _ _ [_,_,_,_,_,_,_,_,_,_,_,_] _
 refine Qaa (v:=int .i64 r7) rfl rfl rfl (Qab ?_)
 obtain rfl:=QsJ H
 refine Qax Tryd.func5 (v:=int .i64 r7) (res1 rfl rfl) ?_
 have hs:St _ [] _:=St.take (Γ':=[_]) hs
 exact ⟨_,rfl,rfl,hs⟩
def Qbc.post (w0:World) (r:Qas) (v:Value) (w:World):Prop:=v=agg (Qat r).toArray∧St w0 [] w
theorem Qbc.calls {N:Nat} {a1:Qas} {w0:World} {r:Qas} (H:Qbc.f N a1=some r):
 Calls Tryd.prog 38 #[agg (Qat a1).toArray] w0 fun e w=>∃ v,e= .returned v∧Qbc.post w0 r v w:=by
 unfold Qbc.f at H
 have hs:St w0 [] w0:=St.refl w0
 refine calls_of_g (n:=10) Tryd.func38 rfl rfl ?_
 show G _ _ _ _ [_,_,_,_,_,_,_,_,_,_,_] _
 refine Qad (Qaj [0,1] rfl ?_)
 refine Qbf hs rfl rfl (cs:=(Qat a1)) rfl rfl ?_
 intro b2 w hs
 refine Qbe hs rfl rfl (z:=(agg #[int .u64 0,bool false])) (cs:=(Qat Qao)) rfl (fun _=>rfl) rfl ?_
 intro b4 w hs
 refine Qab (Qad (Qaj [0] rfl ?_))
 refine Qbe hs rfl rfl (z:=(agg #[int .u64 0,bool false])) (cs:=(Qat Qao)) rfl (fun _=>rfl) rfl ?_
 intro b6 w hs
 show G _ _ _ _ [_,_,_,_,_,_,_,_,_,_,_] _
 refine Qab (Qad (Qaj [0,1,2,3] rfl ?_))
 refine Qaa (v:=pointer (some ⟨b2,0,none⟩)) rfl rfl rfl ?_
 refine QaH rfl rfl (v:=int .u64 a1.QaE) rfl rfl (fun _=>rfl) (cells_load (hs.cells 2 rfl) 0 1 rfl) ?_
 refine Qaa (v:=pointer (some ⟨b6,0,none⟩)) rfl rfl rfl ?_
 show G _ _ _ _ [_,_,_,_,_,_,_,_,_,_,_] _
 refine Qbl hs rfl rfl (vs:=((encI .u64) a1.QaE)) (cs':=(Qat (⟨a1.QaE,Qao.QaS⟩:Qas))) rfl rfl rfl (n:=1) (fun _=>rfl) ((fkI .u64).len _) (by first|exact Nat.le_of_ble_eq_true rfl|simp [encAI_len,encAB_len,encA_len]) ((fkI .u64).one _) rfl ?_
 intro w hs
 refine Qab (Qad (Qaj [0,1,2,3] rfl ?_))
 refine Qaa (v:=pointer (some ⟨b2,1,none⟩)) rfl rfl rfl ?_
 refine QaH rfl rfl (v:=bool a1.QaS) rfl rfl (fun _=>rfl) (cells_load (hs.cells 2 rfl) 1 1 rfl) ?_
 refine Qaa (v:=pointer (some ⟨b6,1,none⟩)) rfl rfl rfl ?_
 show G _ _ _ _ [_,_,_,_,_,_,_,_,_,_,_] _
 refine Qbl hs rfl rfl (vs:=(encB a1.QaS)) (cs':=(Qat (⟨(⟨a1.QaE,Qao.QaS⟩:Qas).QaE,a1.QaS⟩:Qas))) rfl rfl rfl (n:=1) (fun _=>rfl) (fkB.len _) (by first|exact Nat.le_of_ble_eq_true rfl|simp [encAI_len,encAB_len,encA_len]) (fkB.one _) rfl ?_
 intro w hs
 refine Qab (Qad (Qaj [0,1] rfl ?_))
 refine Qa6 rfl rfl (es:=(Qat (⟨(⟨a1.QaE,Qao.QaS⟩:Qas).QaE,a1.QaS⟩:Qas))) rfl rfl (fun _=>rfl) (n:=2) (fun _=>rfl) (QaG.len _) (cells_all (hs.cells 0 rfl)) ?_
 have hs:St _ [_,_,_] _:=hs.pull 1 rfl
 refine Qbj (n:=2) hs (QaG.len _) rfl rfl (vs:=(Qat (⟨(⟨a1.QaE,Qao.QaS⟩:Qas).QaE,a1.QaS⟩:Qas))) rfl rfl rfl (fun _=>rfl) (QaG.len _) (QaG.one _) ?_
 intro w hs
 refine Qab ?_
 obtain rfl:=QsJ H
 refine Qax Tryd.func38 (v:=agg (Qat (⟨(⟨a1.QaE,Qao.QaS⟩:Qas).QaE,a1.QaS⟩:Qas)).toArray) (resC rfl ⟨⟨_,rfl,(run_loadVar_agg (es:=(Qat (⟨(⟨a1.QaE,Qao.QaS⟩:Qas).QaE,a1.QaS⟩:Qas))) rfl (congrArg (Result.ok · _) (QaG.len _).symm) (cells_all (hs.cells 0 rfl)))⟩,trivial⟩) ?_
 have hs:St _ [] _:=St.take (Γ':=[_,_,_]) hs
 exact ⟨_,rfl,rfl,hs⟩
def QaP.post (w0:World) (r:(List Qas)) (v:Value) (w:World):Prop:=St w0 [Row 55 QaC v r] w
theorem QaP.calls {N:Nat} {a1:(List Qas)} {v2:Value} {w0:World} {r:(List Qas)} (hr0:RdRow QaC w0 v2 a1) (H:QaP.f N a1=some r):
 Calls Tryd.prog 17 #[v2] w0 fun e w=>∃ v,e= .returned v∧QaP.post w0 r v w:=by
 unfold QaP.f at H
 have hs:St w0 [] w0:=St.refl w0
 refine calls_of_g (n:=22) Tryd.func17 rfl rfl ?_
 show G _ _ _ _ [_,_,_,_,_,_,_,_,_,_,_,_,_,_,_,_,_,_,_,_,_,_,_] _
 refine Qad (Qaj [0] rfl ?_)
 refine Qaa (v:=slice none 0 0) rfl rfl rfl ?_
 show G _ _ _ _ [_,_,_,_,_,_,_,_,_,_,_,_,_,_,_,_,_,_,_,_,_,_,_] _
 refine Qab (Qad (Qaj [0,1,2,3] rfl ?_))
 refine Qaa (v:=v2) rfl rfl rfl ?_
 refine Qbi (hs.rd hr0) rfl rfl rfl rfl rfl ?_
 obtain ⟨g,H⟩:=ite_get H
 refine Qb1 (κ:=QaC) (z:=Qao) (zc:=(Qat Qao)) (zv:=(agg #[int .u64 0,bool false])) (B:=16) hs rfl rfl rfl rfl rfl g.1 rfl rfl rfl rfl rfl (fun _=>⟨rfl,rfl⟩) rfl (by decide) (by have:=g.2;omega) ?_
 intro v3 w hs
 show G _ _ _ _ [_,_,_,_,_,_,_,_,_,_,_,_,_,_,_,_,_,_,_,_,_,_,_] _
 refine Qaa (v:=v3) rfl rfl rfl (Qab (Qad (Qad (Qaj [0] rfl ?_))))
 refine Qaa (v:=int .i64 0) rfl rfl rfl (Qab ?_)
 obtain ⟨o1_,Ho,Hr1_⟩:=bind_get H
 refine QaT (J:=fun t w=>∃ x14:(List Qas),QaP.a0 N x14=some r∧Fr t (fun O=>([O 0,O 1,O 2,v3,O 4,O 5,O 6,O 7,O 8,O 9,O 10,O 11,O 12,O 13,O 14,O 15,O 16,O 17,O 18,O 19,O 20,O 21,O 22]:List Value))∧St w0 [Row 55 QaC v3 x14] w) ?_ ?_
 ·
  rintro t w ⟨x14,H,hf,hs⟩
  obtain ⟨O,rfl⟩:=hf.open
  show G _ _ _ _ [_,_,_,_,_,_,_,_,_,_,_,_,_,_,_,_,_,_,_,_,_,_,_] _
  unfold QaP.a0 at H
  refine Qad (Qaj [0,1] rfl ?_)
  refine Qaa (v:=v3) rfl rfl rfl ?_
  refine Qaa (v:=v3) rfl rfl rfl (Qab ?_)
  obtain rfl:=QsJ H
  refine Qax Tryd.func17 (v:=v3) (res1 rfl rfl) ?_
  have hs:=hs.pull 0 rfl
  have hs:St _ [_] _:=St.take (Γ':=[]) hs
  exact ⟨_,rfl,hs⟩
 intro ha1_
 have hs:=hs.pull 0 rfl
 have hs:St _ [_] _:=St.take (Γ':=[]) hs
 refine Qa2 (I:=fun n_ t w=>∃ x9:(List Qas),∃ x10:Int,rounds (fun s=>QaP.b0 N a1 s.1 s.2) n_ (x9,x10)=some o1_∧Fr t (fun O=>([v2,O 1,O 2,v3,int .i64 x10,O 5,O 6,O 7,O 8,O 9,O 10,O 11,O 12,O 13,O 14,O 15,O 16,O 17,O 18,O 19,O 20,O 21,O 22]:List Value))∧St w0 [Row 55 QaC v3 x9] w) N ⟨List.replicate ((a1.length:Int)).toNat Qao,0,Ho,rfl,hs⟩ ?_ ?_
 ·
  rintro _ _ ⟨x9,x10,h,_⟩
  exact rounds_zero h
 intro n_ ih1_
 rintro t w ⟨x9,x10,Ho,hf,hs⟩
 obtain ⟨O,rfl⟩:=hf.open
 show G _ _ _ _ [_,_,_,_,_,_,_,_,_,_,_,_,_,_,_,_,_,_,_,_,_,_,_] _
 obtain ⟨x5_,H,Hx1_⟩:=rounds_succ Ho
 have H:QaP.b0 N a1 x9 x10=some x5_:=H
 unfold QaP.b0 at H
 refine Qad (Qad (Qaj [0,1,2,3] rfl ?_))
 refine Qaa (v:=int .i64 x10) rfl rfl rfl ?_
 show G _ _ _ _ [_,_,_,_,_,_,_,_,_,_,_,_,_,_,_,_,_,_,_,_,_,_,_] _
 refine Qaa (v:=v2) rfl rfl rfl ?_
 refine Qbi (hs.rd hr0) rfl rfl rfl rfl rfl ?_
 refine Qau (B:=decide (x10< (a1.length:Int))) rfl rfl rfl ?_ ?_
 ·
  intro hb
  rw [if_pos (b_dec_t hb)] at H
  refine Qab (Qap rfl (Qay (Qad ?_)))
  refine Qbd (Qaj [0,1,2,3,4,5,6,7,8] rfl ?_)
  refine Qaa (v:=v3) rfl rfl rfl ?_
  refine Qaa (v:=int .i64 x10) rfl rfl rfl ?_
  show G _ _ _ _ [_,_,_,_,_,_,_,_,_,_,_,_,_,_,_,_,_,_,_,_,_,_,_] _
  refine Qaa (v:=v2) rfl rfl rfl ?_
  refine Qaa (v:=int .i64 x10) rfl rfl rfl ?_
  obtain ⟨g3,H⟩:=ite_get H
  refine Qby QaG Qao (hs.rd hr0) rfl (fun _=>rfl) g3.1 g3.2 rfl rfl rfl rfl rfl ?_
  intro p11 hp11 lp11 op11
  show G _ _ _ _ [_,_,_,_,_,_,_,_,_,_,_,_,_,_,_,_,_,_,_,_,_,_,_] _
  refine Qa6 rfl rfl (es:=(Qat (rdL a1 x10 Qao))) rfl rfl (fun _=>rfl) (n:=2) (fun _=>rfl) (QaG.len _) hp11 ?_
  obtain ⟨r12,Hr12,H⟩:=bind_get H
  refine Qaz (args:=[agg (Qat (rdL a1 x10 Qao)).toArray]) rfl rfl (Qaw rfl (callFunc_enter Tryd.func38 rfl rfl) rfl) (Qbc.calls (a1:=rdL a1 x10 Qao) Hr12) ?_
  rintro _ w ⟨rfl,hs2⟩
  have hs:St _ [_] _:=hs.call hs2
  obtain ⟨g4,H⟩:=ite_get H
  refine Qby QaG Qao (hs.row 0 rfl) rfl (fun _=>rfl) g4.1 g4.2 rfl rfl rfl rfl rfl ?_
  intro p13 hp13 lp13 op13
  show G _ _ _ _ [_,_,_,_,_,_,_,_,_,_,_,_,_,_,_,_,_,_,_,_,_,_,_] _
  refine QbV (y:=r12) QaG g4.1 g4.2 op13 hs rfl rfl rfl rfl rfl (fun _=>rfl) ?_
  intro w hs
  refine Qab ?_
  refine QaB (Qaj [0,1,2] rfl ?_)
  refine Qaa (v:=int .i64 x10) rfl rfl rfl ?_
  refine Qaa (v:=int .i64 (i64w (x10+1))) rfl rfl rfl ?_
  refine Qaa (v:=int .i64 (i64w (x10+1))) rfl rfl rfl ?_
  show G _ _ _ _ [_,_,_,_,_,_,_,_,_,_,_,_,_,_,_,_,_,_,_,_,_,_,_] _
  refine Qab ?_
  obtain rfl:=QsJ H
  have hs:=hs.pull 0 rfl
  have hs:St _ [_] _:=St.take (Γ':=[]) hs
  exact ih1_ _ _ ⟨stL x9 x10 r12,i64w (x10+1),Hx1_,rfl,hs⟩
 intro hb
 rw [if_neg (b_dec_f hb)] at H
 show G _ _ _ _ [_,_,_,_,_,_,_,_,_,_,_,_,_,_,_,_,_,_,_,_,_,_,_] _
 refine Qab (Qag rfl ?_)
 obtain rfl:=QsJ H
 subst Hx1_
 have hs:=hs.pull 0 rfl
 have hs:St _ [_] _:=St.take (Γ':=[]) hs
 refine Qbh rfl ?_
 exact ha1_ _ _ ⟨x9,Hr1_,rfl,hs⟩
def QaV.post (w0:World) (r:Qar) (v:Value) (w:World):Prop:=∃ u1:Value,v=agg (([int .i8 r.Qac,int .i8 r.Qak,u1]:List Value)).toArray∧St w0 [Row 55 QaC u1 r.Qaf] w
theorem QaV.calls {N:Nat} {a1:QaI} {v2:Value} {w0:World} {r:Qar} (hr3:RdRow QaC w0 v2 a1.Qaf) (H:QaV.f N a1=some r):
 Calls Tryd.prog 7 #[agg (([int .i8 a1.Qac,int .i8 a1.Qak,v2]:List Value)).toArray] w0 fun e w=>∃ v,e= .returned v∧QaV.post w0 r v w:=by
 unfold QaV.f at H
 have hs:St w0 [] w0:=St.refl w0
 refine calls_of_g (n:=14) Tryd.func7 rfl rfl ?_
 show G _ _ _ _ [_,_,_,_,_,_,_,_,_,_,_,_,_,_,_] _
 refine Qad (Qaj [0,1] rfl ?_)
 refine Qbf hs rfl rfl (cs:=(([int .i8 a1.Qac,int .i8 a1.Qak,v2]:List Value))) rfl rfl ?_
 intro b4 w hs
 refine Qbe hs rfl rfl (z:=(agg #[int .i8 0,int .i8 0,slice none 0 0])) (cs:=(([int .i8 0,int .i8 0,slice none 0 0]:List Value))) rfl (fun _=>rfl) rfl ?_
 intro b6 w hs
 show G _ _ _ _ [_,_,_,_,_,_,_,_,_,_,_,_,_,_,_] _
 refine Qab (Qad (Qaj [0] rfl ?_))
 refine Qbe hs rfl rfl (z:=(agg #[int .i8 0,int .i8 0,slice none 0 0])) (cs:=(([int .i8 0,int .i8 0,slice none 0 0]:List Value))) rfl (fun _=>rfl) rfl ?_
 intro b8 w hs
 refine Qab (Qad (Qaj [0,1,2,3] rfl ?_))
 refine Qaa (v:=pointer (some ⟨b4,0,none⟩)) rfl rfl rfl ?_
 refine QaH rfl rfl (v:=int .i8 a1.Qac) rfl rfl (fun _=>rfl) (cells_load (hs.cells 2 rfl) 0 1 rfl) ?_
 show G _ _ _ _ [_,_,_,_,_,_,_,_,_,_,_,_,_,_,_] _
 refine Qaa (v:=pointer (some ⟨b8,0,none⟩)) rfl rfl rfl ?_
 refine Qbl hs rfl rfl (vs:=((encI .i8) a1.Qac)) (cs':=(([int .i8 a1.Qac,int .i8 0,slice none 0 0]:List Value))) rfl rfl rfl (n:=1) (fun _=>rfl) ((fkI .i8).len _) (by first|exact Nat.le_of_ble_eq_true rfl|simp [encAI_len,encAB_len,encA_len]) ((fkI .i8).one _) rfl ?_
 intro w hs
 refine Qab (Qad (Qaj [0,1,2,3] rfl ?_))
 refine Qaa (v:=pointer (some ⟨b4,1,none⟩)) rfl rfl rfl ?_
 refine QaH rfl rfl (v:=int .i8 a1.Qak) rfl rfl (fun _=>rfl) (cells_load (hs.cells 2 rfl) 1 1 rfl) ?_
 show G _ _ _ _ [_,_,_,_,_,_,_,_,_,_,_,_,_,_,_] _
 refine Qaa (v:=pointer (some ⟨b8,1,none⟩)) rfl rfl rfl ?_
 refine Qbl hs rfl rfl (vs:=((encI .i8) a1.Qak)) (cs':=(([int .i8 a1.Qac,int .i8 a1.Qak,slice none 0 0]:List Value))) rfl rfl rfl (n:=1) (fun _=>rfl) ((fkI .i8).len _) (by first|exact Nat.le_of_ble_eq_true rfl|simp [encAI_len,encAB_len,encA_len]) ((fkI .i8).one _) rfl ?_
 intro w hs
 refine Qab (Qad (Qaj [0,1,2,3,4] rfl ?_))
 refine Qaa (v:=pointer (some ⟨b4,2,none⟩)) rfl rfl rfl ?_
 refine QaH rfl rfl (v:=v2) rfl rfl (fun _=>rfl) (cells_load (hs.cells 2 rfl) 2 1 rfl) ?_
 show G _ _ _ _ [_,_,_,_,_,_,_,_,_,_,_,_,_,_,_] _
 obtain ⟨r10,Hr10,H⟩:=bind_get H
 refine Qaz (args:=[v2]) rfl rfl (Qaw rfl (callFunc_enter Tryd.func17 rfl rfl) rfl) (QaP.calls (a1:=a1.Qaf) (hs.rd hr3) Hr10) ?_
 intro v11 w hs2
 have hs:St _ [_,_,_,_] _:=hs.call hs2
 refine Qaa (v:=pointer (some ⟨b8,2,none⟩)) rfl rfl rfl ?_
 have hs:St _ [_,_,_,_] _:=hs.pull 1 rfl
 refine Qbl hs rfl rfl (vs:=[v11]) (cs':=(([int .i8 a1.Qac,int .i8 a1.Qak,v11]:List Value))) rfl rfl (slCells (hs.row 1 rfl)) (n:=1) (fun _=>rfl) rfl (by first|exact Nat.le_of_ble_eq_true rfl|simp [encAI_len,encAB_len,encA_len]) (by intro v hv;simp only [List.mem_cons,List.not_mem_nil,or_false] at hv;subst hv;exact slOne (hs.row 1 rfl)) rfl ?_
 intro w hs
 refine Qab (Qad (Qaj [0,1] rfl ?_))
 refine Qa6 rfl rfl (es:=(([int .i8 a1.Qac,int .i8 a1.Qak,v11]:List Value))) rfl rfl (fun _=>rfl) (n:=3) (fun _=>rfl) rfl (cells_all (hs.cells 0 rfl)) ?_
 show G _ _ _ _ [_,_,_,_,_,_,_,_,_,_,_,_,_,_,_] _
 have hs:St _ [_,_,_,_] _:=hs.pull 2 rfl
 refine Qbj (n:=3) hs rfl rfl rfl (vs:=(([int .i8 a1.Qac,int .i8 a1.Qak,v11]:List Value))) rfl rfl rfl (fun _=>rfl) rfl (by intro v hv;simp only [List.mem_append,List.mem_cons,List.not_mem_nil,or_false] at hv;repeat (first|(subst hv;first|rfl|exact slOne (hs.row 2 rfl))|(rcases hv with hv|hv))) ?_
 intro w hs
 refine Qab ?_
 obtain rfl:=QsJ H
 refine Qax Tryd.func7 (v:=agg (([int .i8 a1.Qac,int .i8 a1.Qak,v11]:List Value)).toArray) (resC rfl ⟨⟨_,rfl,(run_loadVar_agg (es:=(([int .i8 a1.Qac,int .i8 a1.Qak,v11]:List Value))) rfl rfl (cells_all (hs.cells 0 rfl)))⟩,trivial⟩) ?_
 have hs:=hs.pull 2 rfl
 have hs:St _ [_] _:=St.take (Γ':=[_,_,_]) hs
 exact ⟨_,rfl,v11,rfl,hs⟩
def Qa9.post (w0:World) (r:Bool) (v:Value) (w:World):Prop:=v=bool r∧St w0 [] w
theorem Qa9.calls {N:Nat} {a1:Int} {a2:Int} {a3:Int} {w0:World} {r:Bool} (H:Qa9.f N a1 a2 a3=some r):
 Calls Tryd.prog 51 #[int .i64 a1,int .i64 a2,int .i64 a3] w0 fun e w=>∃ v,e= .returned v∧Qa9.post w0 r v w:=by
 unfold Qa9.f at H
 have hs:St w0 [] w0:=St.refl w0
 refine calls_of_g (n:=12) Tryd.func51 rfl rfl ?_
 show G _ _ _ _ [_,_,_,_,_,_,_,_,_,_,_,_,_,_,_] _
 refine Qad (Qaj [0] rfl ?_)
 refine Qaa (v:=bool false) rfl rfl rfl (Qab (Qad (Qaj [0,1,2,3,4,5,6,7,8] rfl ?_)))
 refine Qaa (v:=int .i64 a1) rfl rfl rfl ?_
 show G _ _ _ _ [_,_,_,_,_,_,_,_,_,_,_,_,_,_,_] _
 refine Qaa (v:=int .i64 a2) rfl rfl rfl ?_
 refine Qau (B:=decide (a1≥a2)) rfl rfl rfl ?_ ?_
 ·
  intro hb
  rw [if_pos (b_dec_t hb)] at H
  show G _ _ _ _ [_,_,_,_,_,_,_,_,_,_,_,_,_,_,_] _
  refine Qaa (v:=bool true) rfl rfl rfl ?_
  refine Qaa (v:=int .i64 a1) rfl rfl rfl ?_
  refine Qaa (v:=int .i64 a3) rfl rfl rfl ?_
  show G _ _ _ _ [_,_,_,_,_,_,_,_,_,_,_,_,_,_,_] _
  refine Qaa (v:=bool (decide (a1≤a3))) rfl rfl rfl ?_
  refine Qaa (v:=bool (decide (a1≤a3))) rfl rfl rfl ?_
  refine Qaa (v:=bool (decide (a1≤a3))) rfl rfl rfl ?_
  show G _ _ _ _ [_,_,_,_,_,_,_,_,_,_,_,_,_,_,_] _
  refine Qab ?_
  obtain rfl:=QsJ H
  refine Qax Tryd.func51 (v:=bool (decide (a1≤a3))) (res1 rfl rfl) ?_
  have hs:St _ [] _:=St.take (Γ':=[]) hs
  exact ⟨_,rfl,rfl,hs⟩
 intro hb
 rw [if_neg (b_dec_f hb)] at H
 refine Qaa (v:=bool false) rfl rfl rfl ?_
 show G _ _ _ _ [_,_,_,_,_,_,_,_,_,_,_,_,_,_,_] _
 refine Qaq rfl rfl (Qaq rfl rfl (Qaq rfl rfl ?_))
 show G _ _ _ _ [_,_,_,_,_,_,_,_,_,_,_,_,_,_,_] _
 refine Qaa (v:=bool false) rfl rfl rfl ?_
 refine Qaa (v:=bool false) rfl rfl rfl (Qab ?_)
 obtain rfl:=QsJ H
 refine Qax Tryd.func51 (v:=bool false) (res1 rfl rfl) ?_
 have hs:St _ [] _:=St.take (Γ':=[]) hs
 exact ⟨_,rfl,rfl,hs⟩
def Qa5.post (w0:World) (r:Bool) (v:Value) (w:World):Prop:=v=bool r∧St w0 [] w
theorem Qa5.calls {N:Nat} {a1:Int} {a2:Int} {w0:World} {r:Bool} (H:Qa5.f N a1 a2=some r):
 Calls Tryd.prog 27 #[int .i64 a1,int .i64 a2] w0 fun e w=>∃ v,e= .returned v∧Qa5.post w0 r v w:=by
 unfold Qa5.f at H
 have hs:St w0 [] w0:=St.refl w0
 refine calls_of_g (n:=9) Tryd.func27 rfl rfl ?_
 show G _ _ _ _ [_,_,_,_,_,_,_,_,_,_,_] _
 refine Qad (Qaj [0] rfl ?_)
 refine Qaa (v:=bool false) rfl rfl rfl (Qab (Qad (Qaj [0,1,2,3,4,5,6] rfl ?_)))
 refine Qaa (v:=int .i64 a1) rfl rfl rfl ?_
 show G _ _ _ _ [_,_,_,_,_,_,_,_,_,_,_] _
 obtain ⟨r3,Hr3,H⟩:=bind_get H
 refine Qaz (args:=[int .i64 a1,int .i64 1,int .i64 60]) rfl rfl (Qaw rfl (callFunc_enter Tryd.func51 rfl rfl) rfl) (Qa9.calls (a1:=a1) (a2:=1) (a3:=60) Hr3) ?_
 rintro _ w ⟨rfl,hs2⟩
 have hs:St _ [] _:=hs.call hs2
 cases r3 with
 |true=>
  rw [if_pos rfl] at H
  refine Qaa (v:=bool true) rfl rfl rfl ?_
  refine Qaa (v:=int .i64 a2) rfl rfl rfl ?_
  show G _ _ _ _ [_,_,_,_,_,_,_,_,_,_,_] _
  obtain ⟨r4,Hr4,H⟩:=bind_get H
  refine Qaz (args:=[int .i64 a2,int .i64 0,int .i64 3]) rfl rfl (Qaw rfl (callFunc_enter Tryd.func51 rfl rfl) rfl) (Qa9.calls (a1:=a2) (a2:=0) (a3:=3) Hr4) ?_
  rintro _ w ⟨rfl,hs2⟩
  have hs:St _ [] _:=hs.call hs2
  refine Qaa (v:=bool r4) rfl rfl rfl ?_
  refine Qaa (v:=bool r4) rfl rfl rfl ?_
  show G _ _ _ _ [_,_,_,_,_,_,_,_,_,_,_] _
  refine Qab ?_
  obtain rfl:=QsJ H
  refine Qax Tryd.func27 (v:=bool r4) (res1 rfl rfl) ?_
  have hs:St _ [] _:=St.take (Γ':=[]) hs
  exact ⟨_,rfl,rfl,hs⟩
 |false=>
  rw [if_neg Bool.false_ne_true] at H
  refine Qaa (v:=bool false) rfl rfl rfl (Qaq rfl rfl ?_)
  show G _ _ _ _ [_,_,_,_,_,_,_,_,_,_,_] _
  refine Qaq rfl rfl ?_
  refine Qaa (v:=bool false) rfl rfl rfl ?_
  refine Qaa (v:=bool false) rfl rfl rfl ?_
  show G _ _ _ _ [_,_,_,_,_,_,_,_,_,_,_] _
  refine Qab ?_
  obtain rfl:=QsJ H
  refine Qax Tryd.func27 (v:=bool false) (res1 rfl rfl) ?_
  have hs:St _ [] _:=St.take (Γ':=[]) hs
  exact ⟨_,rfl,rfl,hs⟩
def Qa4.post (w0:World) (r:Int) (v:Value) (w:World):Prop:=v=int .u64 r∧St w0 [] w
theorem Qa4.calls {N:Nat} {a1:Int} {w0:World} {r:Int} (H:Qa4.f N a1=some r):
 Calls Tryd.prog 35 #[int .i64 a1] w0 fun e w=>∃ v,e= .returned v∧Qa4.post w0 r v w:=by
 unfold Qa4.f at H
 have hs:St w0 [] w0:=St.refl w0
 refine calls_of_g (n:=6) Tryd.func35 rfl rfl ?_
 show G _ _ _ _ [_,_,_,_,_,_,_] _
 refine Qad (Qaj [0] rfl ?_)
 refine Qaa (v:=int .u64 0) rfl rfl rfl ?_
 show G _ _ _ _ [_,_,_,_,_,_,_] _
 refine Qab (Qad (Qaj [0,1,2,3,4] rfl ?_))
 refine Qaa (v:=int .i64 a1) rfl rfl rfl ?_
 refine Qaa (v:=int .i64 (i64w (64 - a1))) rfl rfl rfl ?_
 refine Qaa (v:=int .u64 (u64w (i64w (64 - a1)))) rfl rfl rfl ?_
 show G _ _ _ _ [_,_,_,_,_,_,_] _
 obtain ⟨g1,H⟩:=ite_get H
 refine Qaa (v:=int .u64 (shrI .u64 18446744073709551615 (u64w (i64w (64 - a1))))) rfl rfl (QbM rfl rfl rfl g1) ?_
 refine Qaa (v:=int .u64 (shrI .u64 18446744073709551615 (u64w (i64w (64 - a1))))) rfl rfl rfl (Qab ?_)
 obtain rfl:=QsJ H
 refine Qax Tryd.func35 (v:=int .u64 (shrI .u64 18446744073709551615 (u64w (i64w (64 - a1))))) (res1 rfl rfl) ?_
 have hs:St _ [] _:=St.take (Γ':=[]) hs
 exact ⟨_,rfl,rfl,hs⟩
def QaO.post (w0:World) (r:Bool) (v:Value) (w:World):Prop:=v=bool r∧St w0 [] w
theorem QaO.calls {N:Nat} {a1:Qar} {b2:Nat} {v3:Value} {w0:World} {r:Bool} (hr4:RdRow QaC w0 v3 a1.Qaf) (hp0:w0.heap[b2]?=some (.cells ((([int .i8 a1.Qac,int .i8 a1.Qak,v3]:List Value)):List Value).toArray 30 (0,0))) (H:QaO.f N a1=some r):
 Calls Tryd.prog 15 #[pointer (some ⟨b2,0,none⟩)] w0 fun e w=>∃ v,e= .returned v∧QaO.post w0 r v w:=by
 unfold QaO.f at H
 have hs:St w0 [] w0:=St.refl w0
 refine calls_of_g (n:=48) Tryd.func15 rfl rfl ?_
 show G _ _ _ _ [_,_,_,_,_,_,_,_,_,_,_,_,_,_,_,_,_,_,_,_,_,_,_,_,_,_,_,_,_,_,_,_,_,_,_,_,_,_,_,_,_,_,_,_,_,_,_,_,_] _
 refine Qad (Qaj [0] rfl ?_)
 refine Qaa (v:=bool false) rfl rfl rfl ?_
 show G _ _ _ _ [_,_,_,_,_,_,_,_,_,_,_,_,_,_,_,_,_,_,_,_,_,_,_,_,_,_,_,_,_,_,_,_,_,_,_,_,_,_,_,_,_,_,_,_,_,_,_,_,_] _
 refine Qab (Qad (Qad ?_))
 refine Qbz (n:=20) rfl [0,1,2,3,4,5,6,7,8,9,10,11,12,13,14,15,16,17,18,19] [0,1,2,3,4,5,6,7,8,9,10,11,12,13,14,15,16,17,18,19] rfl rfl ?_
 intro rest w hh hbw hO
 have hs:=hs.samew hh hbw
 show G _ _ _ _ [_,_,_,_,_,_,_,_,_,_,_,_,_,_,_,_,_,_,_,_,_,_,_,_,_,_,_,_,_,_,_,_,_,_,_,_,_,_,_,_,_,_,_,_,_,_,_,_,_] _
 refine Qbn ?_
 intro T hT
 refine Qbo (m0:=0) hO rfl 1023 [0,1,2,3,4,5,6,7,8,9] [0,1,3,7,15,0,32,96,224,480,1023,2047,4095,8191,16383,32767,65535,131071,262143,524287] (by decide+kernel) (fun D t w=>∃ O:Nat→Value,t=[pointer (some ⟨b2,0,none⟩),O 1,bool false,O 3,cnd (D 0) (pointer (some ⟨b2,0,none⟩)) (O 4),cnd (D 1) (pointer (some ⟨b2,0,none⟩)) (O 5),cnd (D 2) (pointer (some ⟨b2,0,none⟩)) (O 6),cnd (D 3) (int .i8 a1.Qac) (O 7),cnd (D 4) (int .i64 (i64w a1.Qac)) (O 8),cnd (D 5) (pointer (some ⟨b2,0,none⟩)) (O 9),cnd (D 6) (pointer (some ⟨b2,0,none⟩)) (O 10),cnd (D 7) (pointer (some ⟨b2,1,none⟩)) (O 11),cnd (D 8) (int .i8 a1.Qak) (O 12),cnd (D 9) (int .i64 (i64w a1.Qak)) (O 13),O 14,O 15,O 16,O 17,O 18,O 19,O 20,O 21,O 22,O 23,O 24,O 25,O 26,O 27,O 28,O 29,O 30,O 31,O 32,O 33,O 34,O 35,O 36,O 37,O 38,O 39,O 40,O 41,O 42,O 43,O 44,O 45,O 46,O 47,O 48]∧St w0 [] w) ?_ ⟨?_,⟨?_,⟨?_,⟨?_,⟨?_,⟨?_,⟨?_,⟨?_,⟨?_,⟨?_,trivial⟩⟩⟩⟩⟩⟩⟩⟩⟩⟩ ?_
 ·exact ⟨fun i=>T.getD i undef,(by subst hT;rfl),hs⟩
 ·
  rintro D t w hD hp hcl ⟨O,ht,hs⟩ rest hk
  have hp:AllDone D []:=hp
  have q1_:=ny hcl 1 0 hD
  have q2_:=ny hcl 2 0 q1_
  have q3_:=ny hcl 3 0 q2_
  have q4_:=ny hcl 4 0 q3_
  simp only [hD,q1_,q2_,q3_,q4_,cq,oT] at ht hs
  subst ht
  refine Qaa (v:=pointer (some ⟨b2,0,none⟩)) rfl rfl rfl ?_
  show G _ _ _ _ [_,_,_,_,_,_,_,_,_,_,_,_,_,_,_,_,_,_,_,_,_,_,_,_,_,_,_,_,_,_,_,_,_,_,_,_,_,_,_,_,_,_,_,_,_,_,_,_,_] _
  refine hk _ _ ⟨O,?_,hs.cast ?_⟩<;>simp only [oT,lq,cq,Nat.reduceBEq,q1_,q2_,q3_,q4_]
 ·
  rintro D t w hD hp hcl ⟨O,ht,hs⟩ rest hk
  have hp:AllDone D [0]:=hp
  obtain ⟨p0_,_⟩:=hp
  have q2_:=ny hcl 2 0 hD
  have q3_:=ny hcl 3 0 q2_
  have q4_:=ny hcl 4 0 q3_
  simp only [hD,p0_,q2_,q3_,q4_,cq,oT] at ht hs
  subst ht
  refine Qaa (v:=pointer (some ⟨b2,0,none⟩)) rfl rfl rfl ?_
  show G _ _ _ _ [_,_,_,_,_,_,_,_,_,_,_,_,_,_,_,_,_,_,_,_,_,_,_,_,_,_,_,_,_,_,_,_,_,_,_,_,_,_,_,_,_,_,_,_,_,_,_,_,_] _
  refine hk _ _ ⟨O,?_,hs.cast ?_⟩<;>simp only [oT,lq,cq,Nat.reduceBEq,p0_,q2_,q3_,q4_]
 ·
  rintro D t w hD hp hcl ⟨O,ht,hs⟩ rest hk
  have hp:AllDone D [1]:=hp
  obtain ⟨p1_,_⟩:=hp
  obtain ⟨p0_,_⟩:=(show D 1=true→AllDone D [0] from hcl 1 (by decide)) p1_
  have q3_:=ny hcl 3 0 hD
  have q4_:=ny hcl 4 0 q3_
  simp only [hD,p0_,p1_,q3_,q4_,cq,oT] at ht hs
  subst ht
  refine Qaa (v:=pointer (some ⟨b2,0,none⟩)) rfl rfl rfl ?_
  show G _ _ _ _ [_,_,_,_,_,_,_,_,_,_,_,_,_,_,_,_,_,_,_,_,_,_,_,_,_,_,_,_,_,_,_,_,_,_,_,_,_,_,_,_,_,_,_,_,_,_,_,_,_] _
  refine hk _ _ ⟨O,?_,hs.cast ?_⟩<;>simp only [oT,lq,cq,Nat.reduceBEq,p0_,p1_,q3_,q4_]
 ·
  rintro D t w hD hp hcl ⟨O,ht,hs⟩ rest hk
  have hp:AllDone D [2]:=hp
  obtain ⟨p2_,_⟩:=hp
  obtain ⟨p1_,_⟩:=(show D 2=true→AllDone D [1] from hcl 2 (by decide)) p2_
  obtain ⟨p0_,_⟩:=(show D 1=true→AllDone D [0] from hcl 1 (by decide)) p1_
  have q4_:=ny hcl 4 0 hD
  simp only [hD,p0_,p1_,p2_,q4_,cq,oT] at ht hs
  subst ht
  refine QaH rfl rfl (v:=int .i8 a1.Qac) rfl rfl (fun _=>rfl) (cells_load (hs.box hp0) 0 1 rfl) ?_
  show G _ _ _ _ [_,_,_,_,_,_,_,_,_,_,_,_,_,_,_,_,_,_,_,_,_,_,_,_,_,_,_,_,_,_,_,_,_,_,_,_,_,_,_,_,_,_,_,_,_,_,_,_,_] _
  refine hk _ _ ⟨O,?_,hs.cast ?_⟩<;>simp only [oT,lq,cq,Nat.reduceBEq,p0_,p1_,p2_,q4_]
 ·
  rintro D t w hD hp hcl ⟨O,ht,hs⟩ rest hk
  have hp:AllDone D [3]:=hp
  obtain ⟨p3_,_⟩:=hp
  obtain ⟨p2_,_⟩:=(show D 3=true→AllDone D [2] from hcl 3 (by decide)) p3_
  obtain ⟨p1_,_⟩:=(show D 2=true→AllDone D [1] from hcl 2 (by decide)) p2_
  obtain ⟨p0_,_⟩:=(show D 1=true→AllDone D [0] from hcl 1 (by decide)) p1_
  simp only [hD,p0_,p1_,p2_,p3_,cq,oT] at ht hs
  subst ht
  refine Qaa (v:=int .i64 (i64w a1.Qac)) rfl rfl rfl ?_
  show G _ _ _ _ [_,_,_,_,_,_,_,_,_,_,_,_,_,_,_,_,_,_,_,_,_,_,_,_,_,_,_,_,_,_,_,_,_,_,_,_,_,_,_,_,_,_,_,_,_,_,_,_,_] _
  refine hk _ _ ⟨O,?_,hs.cast ?_⟩<;>simp only [oT,lq,cq,Nat.reduceBEq,p0_,p1_,p2_,p3_]
 ·
  rintro D t w hD hp hcl ⟨O,ht,hs⟩ rest hk
  have hp:AllDone D []:=hp
  have q6_:=ny hcl 6 0 hD
  have q7_:=ny hcl 7 0 q6_
  have q8_:=ny hcl 8 0 q7_
  have q9_:=ny hcl 9 0 q8_
  simp only [hD,q6_,q7_,q8_,q9_,cq,oT] at ht hs
  subst ht
  refine Qaa (v:=pointer (some ⟨b2,0,none⟩)) rfl rfl rfl ?_
  show G _ _ _ _ [_,_,_,_,_,_,_,_,_,_,_,_,_,_,_,_,_,_,_,_,_,_,_,_,_,_,_,_,_,_,_,_,_,_,_,_,_,_,_,_,_,_,_,_,_,_,_,_,_] _
  refine hk _ _ ⟨O,?_,hs.cast ?_⟩<;>simp only [oT,lq,cq,Nat.reduceBEq,q6_,q7_,q8_,q9_]
 ·
  rintro D t w hD hp hcl ⟨O,ht,hs⟩ rest hk
  have hp:AllDone D [5]:=hp
  obtain ⟨p5_,_⟩:=hp
  have q7_:=ny hcl 7 0 hD
  have q8_:=ny hcl 8 0 q7_
  have q9_:=ny hcl 9 0 q8_
  simp only [hD,p5_,q7_,q8_,q9_,cq,oT] at ht hs
  subst ht
  refine Qaa (v:=pointer (some ⟨b2,0,none⟩)) rfl rfl rfl ?_
  show G _ _ _ _ [_,_,_,_,_,_,_,_,_,_,_,_,_,_,_,_,_,_,_,_,_,_,_,_,_,_,_,_,_,_,_,_,_,_,_,_,_,_,_,_,_,_,_,_,_,_,_,_,_] _
  refine hk _ _ ⟨O,?_,hs.cast ?_⟩<;>simp only [oT,lq,cq,Nat.reduceBEq,p5_,q7_,q8_,q9_]
 ·
  rintro D t w hD hp hcl ⟨O,ht,hs⟩ rest hk
  have hp:AllDone D [6]:=hp
  obtain ⟨p6_,_⟩:=hp
  obtain ⟨p5_,_⟩:=(show D 6=true→AllDone D [5] from hcl 6 (by decide)) p6_
  have q8_:=ny hcl 8 0 hD
  have q9_:=ny hcl 9 0 q8_
  simp only [hD,p5_,p6_,q8_,q9_,cq,oT] at ht hs
  subst ht
  refine Qaa (v:=pointer (some ⟨b2,1,none⟩)) rfl rfl rfl ?_
  show G _ _ _ _ [_,_,_,_,_,_,_,_,_,_,_,_,_,_,_,_,_,_,_,_,_,_,_,_,_,_,_,_,_,_,_,_,_,_,_,_,_,_,_,_,_,_,_,_,_,_,_,_,_] _
  refine hk _ _ ⟨O,?_,hs.cast ?_⟩<;>simp only [oT,lq,cq,Nat.reduceBEq,p5_,p6_,q8_,q9_]
 ·
  rintro D t w hD hp hcl ⟨O,ht,hs⟩ rest hk
  have hp:AllDone D [7]:=hp
  obtain ⟨p7_,_⟩:=hp
  obtain ⟨p6_,_⟩:=(show D 7=true→AllDone D [6] from hcl 7 (by decide)) p7_
  obtain ⟨p5_,_⟩:=(show D 6=true→AllDone D [5] from hcl 6 (by decide)) p6_
  have q9_:=ny hcl 9 0 hD
  simp only [hD,p5_,p6_,p7_,q9_,cq,oT] at ht hs
  subst ht
  refine QaH rfl rfl (v:=int .i8 a1.Qak) rfl rfl (fun _=>rfl) (cells_load (hs.box hp0) 1 1 rfl) ?_
  show G _ _ _ _ [_,_,_,_,_,_,_,_,_,_,_,_,_,_,_,_,_,_,_,_,_,_,_,_,_,_,_,_,_,_,_,_,_,_,_,_,_,_,_,_,_,_,_,_,_,_,_,_,_] _
  refine hk _ _ ⟨O,?_,hs.cast ?_⟩<;>simp only [oT,lq,cq,Nat.reduceBEq,p5_,p6_,p7_,q9_]
 ·
  rintro D t w hD hp hcl ⟨O,ht,hs⟩ rest hk
  have hp:AllDone D [8]:=hp
  obtain ⟨p8_,_⟩:=hp
  obtain ⟨p7_,_⟩:=(show D 8=true→AllDone D [7] from hcl 8 (by decide)) p8_
  obtain ⟨p6_,_⟩:=(show D 7=true→AllDone D [6] from hcl 7 (by decide)) p7_
  obtain ⟨p5_,_⟩:=(show D 6=true→AllDone D [5] from hcl 6 (by decide)) p6_
  simp only [hD,p5_,p6_,p7_,p8_,cq,oT] at ht hs
  subst ht
  refine Qaa (v:=int .i64 (i64w a1.Qak)) rfl rfl rfl ?_
  show G _ _ _ _ [_,_,_,_,_,_,_,_,_,_,_,_,_,_,_,_,_,_,_,_,_,_,_,_,_,_,_,_,_,_,_,_,_,_,_,_,_,_,_,_,_,_,_,_,_,_,_,_,_] _
  refine hk _ _ ⟨O,?_,hs.cast ?_⟩<;>simp only [oT,lq,cq,Nat.reduceBEq,p5_,p6_,p7_,p8_]
 intro D t w rest hall hO1_ hI
 obtain ⟨O,ht,hs⟩:=hI
 have p0_:=hall 0 (by decide) rfl
 have p1_:=hall 1 (by decide) rfl
 have p2_:=hall 2 (by decide) rfl
 have p3_:=hall 3 (by decide) rfl
 have p4_:=hall 4 (by decide) rfl
 have p5_:=hall 5 (by decide) rfl
 have p6_:=hall 6 (by decide) rfl
 have p7_:=hall 7 (by decide) rfl
 have p8_:=hall 8 (by decide) rfl
 have p9_:=hall 9 (by decide) rfl
 simp only [p0_,p1_,p2_,p3_,p4_,p5_,p6_,p7_,p8_,p9_,cq,oT] at ht hs
 subst ht
 obtain ⟨rest,rfl,hO2_⟩:=ord_one (m:=1023) hO1_ rfl 10 (m':=2047) (by decide+kernel) rfl
 clear hO1_
 obtain ⟨r6,Hr6,H⟩:=bind_get H
 refine Qaz (args:=[int .i64 (i64w a1.Qac),int .i64 (i64w a1.Qak)]) rfl rfl (Qaw rfl (callFunc_enter Tryd.func27 rfl rfl) rfl) (Qa5.calls (a1:=i64w a1.Qac) (a2:=i64w a1.Qak) Hr6) ?_
 rintro _ w ⟨rfl,hs2⟩
 have hs:St _ [] _:=hs.call hs2
 cases r6 with
 |true=>
  rw [if_pos rfl] at H
  show G _ _ _ _ [_,_,_,_,_,_,_,_,_,_,_,_,_,_,_,_,_,_,_,_,_,_,_,_,_,_,_,_,_,_,_,_,_,_,_,_,_,_,_,_,_,_,_,_,_,_,_,_,_] _
  obtain ⟨rest,rfl,hO3_⟩:=ord_one (m:=2047) hO2_ rfl 11 (m':=4095) (by decide+kernel) rfl
  clear hO2_
  refine Qaa (v:=bool false) rfl rfl rfl ?_
  obtain ⟨rest,rfl,hO4_⟩:=ord_one (m:=4095) hO3_ rfl 12 (m':=8191) (by decide+kernel) rfl
  clear hO3_
  refine Qaa (v:=bool false) rfl rfl rfl ?_
  obtain ⟨rest,rfl,hO5_⟩:=ord_one (m:=8191) hO4_ rfl 13 (m':=16383) (by decide+kernel) rfl
  clear hO4_
  refine Qaa (v:=pointer (some ⟨b2,0,none⟩)) rfl rfl rfl ?_
  obtain ⟨rest,rfl,hO6_⟩:=ord_one (m:=16383) hO5_ rfl 14 (m':=32767) (by decide+kernel) rfl
  clear hO5_
  refine Qaa (v:=pointer (some ⟨b2,0,none⟩)) rfl rfl rfl ?_
  obtain ⟨rest,rfl,hO7_⟩:=ord_one (m:=32767) hO6_ rfl 15 (m':=65535) (by decide+kernel) rfl
  clear hO6_
  refine Qaa (v:=pointer (some ⟨b2,2,none⟩)) rfl rfl rfl ?_
  obtain ⟨rest,rfl,hO8_⟩:=ord_one (m:=65535) hO7_ rfl 16 (m':=131071) (by decide+kernel) rfl
  clear hO7_
  refine QaH rfl rfl (v:=v3) rfl rfl (fun _=>rfl) (cells_load (hs.box hp0) 2 1 rfl) ?_
  obtain ⟨rest,rfl,hO9_⟩:=ord_one (m:=131071) hO8_ rfl 17 (m':=262143) (by decide+kernel) rfl
  clear hO8_
  refine Qbi (hs.rd hr4) rfl rfl rfl rfl rfl ?_
  show G _ _ _ _ [_,_,_,_,_,_,_,_,_,_,_,_,_,_,_,_,_,_,_,_,_,_,_,_,_,_,_,_,_,_,_,_,_,_,_,_,_,_,_,_,_,_,_,_,_,_,_,_,_] _
  obtain ⟨rest,rfl,hO10_⟩:=ord_one (m:=262143) hO9_ rfl 18 (m':=524287) (by decide+kernel) rfl
  clear hO9_
  refine Qau (B:=decide ((a1.Qaf.length:Int)>60)) rfl rfl rfl ?_ ?_
  ·
   intro hb
   rw [if_pos (b_dec_t hb)] at H
   obtain ⟨rest,rfl,hO11_⟩:=ord_one (m:=524287) hO10_ rfl 19 (m':=1048575) (by decide+kernel) rfl
   clear hO10_
   refine Qaa (v:=bool true) rfl rfl rfl ?_
   show G _ _ _ _ [_,_,_,_,_,_,_,_,_,_,_,_,_,_,_,_,_,_,_,_,_,_,_,_,_,_,_,_,_,_,_,_,_,_,_,_,_,_,_,_,_,_,_,_,_,_,_,_,_] _
   obtain rfl:=ord_end hO11_ rfl (by decide+kernel)
   refine Qab (Qap rfl (Qad (Qaj [0] rfl ?_)))
   refine Qaa (v:=bool false) rfl rfl rfl (Qab ?_)
   obtain rfl:=QsJ H
   refine Qax Tryd.func15 (v:=bool false) (res1 rfl rfl) ?_
   have hs:St _ [] _:=St.take (Γ':=[]) hs
   exact ⟨_,rfl,rfl,hs⟩
  intro hb
  rw [if_neg (b_dec_f hb)] at H
  obtain ⟨rest,rfl,hO12_⟩:=ord_one (m:=524287) hO10_ rfl 19 (m':=1048575) (by decide+kernel) rfl
  clear hO10_
  refine Qaa (v:=bool false) rfl rfl rfl ?_
  obtain rfl:=ord_end hO12_ rfl (by decide+kernel)
  refine Qab (Qag rfl (Qay (Qad (Qad (Qaj [0] rfl ?_)))))
  refine Qaa (v:=int .i64 0) rfl rfl rfl ?_
  show G _ _ _ _ [_,_,_,_,_,_,_,_,_,_,_,_,_,_,_,_,_,_,_,_,_,_,_,_,_,_,_,_,_,_,_,_,_,_,_,_,_,_,_,_,_,_,_,_,_,_,_,_,_] _
  refine Qab ?_
  obtain ⟨o1_,Ho,Hr1_⟩:=bind_get H
  refine QaT (J:=fun t w=>QaO.a0 N=some r∧Fr t (fun O=>([O 0,O 1,O 2,O 3,O 4,O 5,O 6,O 7,O 8,O 9,O 10,O 11,O 12,O 13,O 14,O 15,O 16,O 17,O 18,O 19,O 20,O 21,O 22,O 23,O 24,O 25,O 26,O 27,O 28,O 29,O 30,O 31,O 32,O 33,O 34,O 35,O 36,O 37,O 38,O 39,O 40,O 41,O 42,O 43,O 44,O 45,O 46,O 47,O 48]:List Value))∧St w0 [] w) ?_ ?_
  ·
   rintro t w ⟨H,hf,hs⟩
   obtain ⟨O,rfl⟩:=hf.open
   show G _ _ _ _ [_,_,_,_,_,_,_,_,_,_,_,_,_,_,_,_,_,_,_,_,_,_,_,_,_,_,_,_,_,_,_,_,_,_,_,_,_,_,_,_,_,_,_,_,_,_,_,_,_] _
   unfold QaO.a0 at H
   refine Qad (Qaj [0] rfl ?_)
   refine Qaa (v:=bool true) rfl rfl rfl (Qab ?_)
   obtain rfl:=QsJ H
   refine Qax Tryd.func15 (v:=bool true) (res1 rfl rfl) ?_
   have hs:St _ [] _:=St.take (Γ':=[]) hs
   exact ⟨_,rfl,rfl,hs⟩
  intro ha1_
  have hs:St _ [] _:=St.take (Γ':=[]) hs
  refine Qa2 (I:=fun n_ t w=>∃ x7:Int,rounds (fun s=>QaO.b0 N a1 s) n_ x7=some o1_∧Fr t (fun O=>([pointer (some ⟨b2,0,none⟩),O 1,O 2,int .i64 x7,O 4,O 5,O 6,O 7,O 8,O 9,O 10,O 11,O 12,O 13,O 14,O 15,O 16,O 17,O 18,O 19,O 20,O 21,O 22,O 23,O 24,O 25,O 26,O 27,O 28,O 29,O 30,O 31,O 32,O 33,O 34,O 35,O 36,O 37,O 38,O 39,O 40,O 41,O 42,O 43,O 44,O 45,O 46,O 47,O 48]:List Value))∧St w0 [] w) N ⟨0,Ho,rfl,hs⟩ ?_ ?_
  ·
   rintro _ _ ⟨x7,h,_⟩
   exact rounds_zero h
  intro n_ ih1_
  rintro t w ⟨x7,Ho,hf,hs⟩
  obtain ⟨O,rfl⟩:=hf.open
  show G _ _ _ _ [_,_,_,_,_,_,_,_,_,_,_,_,_,_,_,_,_,_,_,_,_,_,_,_,_,_,_,_,_,_,_,_,_,_,_,_,_,_,_,_,_,_,_,_,_,_,_,_,_] _
  obtain ⟨x18_,H,Hx1_⟩:=rounds_succ Ho
  have H:QaO.b0 N a1 x7=some x18_:=H
  unfold QaO.b0 at H
  refine Qad (Qad (Qaj [0,1,2,3,4,5,6] rfl ?_))
  refine Qaa (v:=int .i64 x7) rfl rfl rfl ?_
  refine Qaa (v:=pointer (some ⟨b2,0,none⟩)) rfl rfl rfl ?_
  refine Qaa (v:=pointer (some ⟨b2,0,none⟩)) rfl rfl rfl ?_
  refine Qaa (v:=pointer (some ⟨b2,2,none⟩)) rfl rfl rfl ?_
  refine QaH rfl rfl (v:=v3) rfl rfl (fun _=>rfl) (cells_load (hs.box hp0) 2 1 rfl) ?_
  refine Qbi (hs.rd hr4) rfl rfl rfl rfl rfl ?_
  refine Qau (B:=decide (x7< (a1.Qaf.length:Int))) rfl rfl rfl ?_ ?_
  ·
   intro hb
   rw [if_pos (b_dec_t hb)] at H
   refine Qab (Qap rfl (Qay (Qad ?_)))
   refine Qbd (Qad ?_)
   refine Qbz (n:=16) rfl [0,1,2,3,4,5,6,7,8,9,10,11,12,13,14,15] [0,1,2,3,4,5,6,7,8,9,10,11,12,13,14,15] rfl rfl ?_
   intro rest w hh hbw hO
   have hs:=hs.samew hh hbw
   show G _ _ _ _ [_,_,_,_,_,_,_,_,_,_,_,_,_,_,_,_,_,_,_,_,_,_,_,_,_,_,_,_,_,_,_,_,_,_,_,_,_,_,_,_,_,_,_,_,_,_,_,_,_] _
   obtain ⟨gd14,H⟩:=ite_get H
   obtain ⟨ad15_,ad15_N,ad15_C,had15_⟩:=sl_at (hs.rd hr4) gd14.1 gd14.2
   obtain ⟨r8,Hr8,H⟩:=bind_get H
   refine Qbn ?_
   intro T hT
   refine Qbo (m0:=0) hO rfl 16383 [0,1,2,3,4,5,6,7,8,9,10,11,12,13] [0,1,3,7,0,31,63,127,0,256,768,1792,3840,7936,16383,32767] (by decide+kernel) (fun D t w=>∃ O:Nat→Value,t=[pointer (some ⟨b2,0,none⟩),O 1,O 2,int .i64 x7,O 4,O 5,O 6,O 7,O 8,O 9,O 10,O 11,O 12,O 13,O 14,O 15,O 16,O 17,O 18,O 19,O 20,O 21,O 22,O 23,int .i64 x7,pointer (some ⟨b2,0,none⟩),pointer (some ⟨b2,0,none⟩),pointer (some ⟨b2,2,none⟩),v3,int .i64 (a1.Qaf.length:Int),bool true,O 31,O 32,cnd (D 0) (pointer (some ⟨b2,0,none⟩)) (O 33),cnd (D 1) (pointer (some ⟨b2,0,none⟩)) (O 34),cnd (D 2) (pointer (some ⟨b2,2,none⟩)) (O 35),cnd (D 3) v3 (O 36),cnd (D 4) (int .i64 x7) (O 37),cnd (D 5) (pointer (some (ad15_.add (x7.toNat*2)))) (O 38),cnd (D 6) (pointer (some ((ad15_.add (x7.toNat*2)).add 0))) (O 39),cnd (D 7) (int .u64 ((rdL a1.Qaf x7 Qao).QaE)) (O 40),cnd (D 8) (pointer (some ⟨b2,0,none⟩)) (O 41),cnd (D 9) (pointer (some ⟨b2,0,none⟩)) (O 42),cnd (D 10) (pointer (some ⟨b2,0,none⟩)) (O 43),cnd (D 11) (int .i8 a1.Qac) (O 44),cnd (D 12) (int .i64 (i64w a1.Qac)) (O 45),cnd (D 13) (int .u64 r8) (O 46),O 47,O 48]∧St w0 [] w) ?_ ⟨?_,⟨?_,⟨?_,⟨?_,⟨?_,⟨?_,⟨?_,⟨?_,⟨?_,⟨?_,⟨?_,⟨?_,⟨?_,⟨?_,trivial⟩⟩⟩⟩⟩⟩⟩⟩⟩⟩⟩⟩⟩⟩ ?_
   ·exact ⟨fun i=>T.getD i undef,(by subst hT;rfl),hs⟩
   ·
    rintro D t w hD hp hcl ⟨O,ht,hs⟩ rest hk
    have hp:AllDone D []:=hp
    have q1_:=ny hcl 1 0 hD
    have q2_:=ny hcl 2 0 q1_
    have q3_:=ny hcl 3 0 q2_
    have q5_:=ny hcl 5 0 q3_
    have q6_:=ny hcl 6 0 q5_
    have q7_:=ny hcl 7 0 q6_
    simp only [hD,q1_,q2_,q3_,q5_,q6_,q7_,cq,oT] at ht hs
    subst ht
    refine Qaa (v:=pointer (some ⟨b2,0,none⟩)) rfl rfl rfl ?_
    show G _ _ _ _ [_,_,_,_,_,_,_,_,_,_,_,_,_,_,_,_,_,_,_,_,_,_,_,_,_,_,_,_,_,_,_,_,_,_,_,_,_,_,_,_,_,_,_,_,_,_,_,_,_] _
    refine hk _ _ ⟨O,?_,hs.cast ?_⟩<;>simp only [oT,lq,cq,Nat.reduceBEq,q1_,q2_,q3_,q5_,q6_,q7_]
   ·
    rintro D t w hD hp hcl ⟨O,ht,hs⟩ rest hk
    have hp:AllDone D [0]:=hp
    obtain ⟨p0_,_⟩:=hp
    have q2_:=ny hcl 2 0 hD
    have q3_:=ny hcl 3 0 q2_
    have q5_:=ny hcl 5 0 q3_
    have q6_:=ny hcl 6 0 q5_
    have q7_:=ny hcl 7 0 q6_
    simp only [hD,p0_,q2_,q3_,q5_,q6_,q7_,cq,oT] at ht hs
    subst ht
    refine Qaa (v:=pointer (some ⟨b2,0,none⟩)) rfl rfl rfl ?_
    show G _ _ _ _ [_,_,_,_,_,_,_,_,_,_,_,_,_,_,_,_,_,_,_,_,_,_,_,_,_,_,_,_,_,_,_,_,_,_,_,_,_,_,_,_,_,_,_,_,_,_,_,_,_] _
    refine hk _ _ ⟨O,?_,hs.cast ?_⟩<;>simp only [oT,lq,cq,Nat.reduceBEq,p0_,q2_,q3_,q5_,q6_,q7_]
   ·
    rintro D t w hD hp hcl ⟨O,ht,hs⟩ rest hk
    have hp:AllDone D [1]:=hp
    obtain ⟨p1_,_⟩:=hp
    obtain ⟨p0_,_⟩:=(show D 1=true→AllDone D [0] from hcl 1 (by decide)) p1_
    have q3_:=ny hcl 3 0 hD
    have q5_:=ny hcl 5 0 q3_
    have q6_:=ny hcl 6 0 q5_
    have q7_:=ny hcl 7 0 q6_
    simp only [hD,p0_,p1_,q3_,q5_,q6_,q7_,cq,oT] at ht hs
    subst ht
    refine Qaa (v:=pointer (some ⟨b2,2,none⟩)) rfl rfl rfl ?_
    show G _ _ _ _ [_,_,_,_,_,_,_,_,_,_,_,_,_,_,_,_,_,_,_,_,_,_,_,_,_,_,_,_,_,_,_,_,_,_,_,_,_,_,_,_,_,_,_,_,_,_,_,_,_] _
    refine hk _ _ ⟨O,?_,hs.cast ?_⟩<;>simp only [oT,lq,cq,Nat.reduceBEq,p0_,p1_,q3_,q5_,q6_,q7_]
   ·
    rintro D t w hD hp hcl ⟨O,ht,hs⟩ rest hk
    have hp:AllDone D [2]:=hp
    obtain ⟨p2_,_⟩:=hp
    obtain ⟨p1_,_⟩:=(show D 2=true→AllDone D [1] from hcl 2 (by decide)) p2_
    obtain ⟨p0_,_⟩:=(show D 1=true→AllDone D [0] from hcl 1 (by decide)) p1_
    have q5_:=ny hcl 5 0 hD
    have q6_:=ny hcl 6 0 q5_
    have q7_:=ny hcl 7 0 q6_
    simp only [hD,p0_,p1_,p2_,q5_,q6_,q7_,cq,oT] at ht hs
    subst ht
    refine QaH rfl rfl (v:=v3) rfl rfl (fun _=>rfl) (cells_load (hs.box hp0) 2 1 rfl) ?_
    show G _ _ _ _ [_,_,_,_,_,_,_,_,_,_,_,_,_,_,_,_,_,_,_,_,_,_,_,_,_,_,_,_,_,_,_,_,_,_,_,_,_,_,_,_,_,_,_,_,_,_,_,_,_] _
    refine hk _ _ ⟨O,?_,hs.cast ?_⟩<;>simp only [oT,lq,cq,Nat.reduceBEq,p0_,p1_,p2_,q5_,q6_,q7_]
   ·
    rintro D t w hD hp hcl ⟨O,ht,hs⟩ rest hk
    have hp:AllDone D []:=hp
    have q5_:=ny hcl 5 1 hD
    have q6_:=ny hcl 6 0 q5_
    have q7_:=ny hcl 7 0 q6_
    simp only [hD,q5_,q6_,q7_,cq,oT] at ht hs
    subst ht
    refine Qaa (v:=int .i64 x7) rfl rfl rfl ?_
    show G _ _ _ _ [_,_,_,_,_,_,_,_,_,_,_,_,_,_,_,_,_,_,_,_,_,_,_,_,_,_,_,_,_,_,_,_,_,_,_,_,_,_,_,_,_,_,_,_,_,_,_,_,_] _
    refine hk _ _ ⟨O,?_,hs.cast ?_⟩<;>simp only [oT,lq,cq,Nat.reduceBEq,q5_,q6_,q7_]
   ·
    rintro D t w hD hp hcl ⟨O,ht,hs⟩ rest hk
    have hp:AllDone D [3,4]:=hp
    obtain ⟨p3_,p4_,_⟩:=hp
    obtain ⟨p2_,_⟩:=(show D 3=true→AllDone D [2] from hcl 3 (by decide)) p3_
    obtain ⟨p1_,_⟩:=(show D 2=true→AllDone D [1] from hcl 2 (by decide)) p2_
    obtain ⟨p0_,_⟩:=(show D 1=true→AllDone D [0] from hcl 1 (by decide)) p1_
    have q6_:=ny hcl 6 0 hD
    have q7_:=ny hcl 7 0 q6_
    simp only [hD,p0_,p1_,p2_,p3_,p4_,q6_,q7_,cq,oT] at ht hs
    subst ht
    refine QbG (κ:=QaC) (m:=2) rfl (hs.rd hr4) rfl (fun _=>rfl) gd14.1 gd14.2 had15_ rfl rfl rfl rfl rfl ?_
    show G _ _ _ _ [_,_,_,_,_,_,_,_,_,_,_,_,_,_,_,_,_,_,_,_,_,_,_,_,_,_,_,_,_,_,_,_,_,_,_,_,_,_,_,_,_,_,_,_,_,_,_,_,_] _
    refine hk _ _ ⟨O,?_,hs.cast ?_⟩<;>simp only [oT,lq,cq,Nat.reduceBEq,p0_,p1_,p2_,p3_,p4_,q6_,q7_]
   ·
    rintro D t w hD hp hcl ⟨O,ht,hs⟩ rest hk
    have hp:AllDone D [5]:=hp
    obtain ⟨p5_,_⟩:=hp
    obtain ⟨p3_,p4_,_⟩:=(show D 5=true→AllDone D [3,4] from hcl 5 (by decide)) p5_
    obtain ⟨p2_,_⟩:=(show D 3=true→AllDone D [2] from hcl 3 (by decide)) p3_
    obtain ⟨p1_,_⟩:=(show D 2=true→AllDone D [1] from hcl 2 (by decide)) p2_
    obtain ⟨p0_,_⟩:=(show D 1=true→AllDone D [0] from hcl 1 (by decide)) p1_
    have q7_:=ny hcl 7 0 hD
    simp only [hD,p0_,p1_,p2_,p3_,p4_,p5_,q7_,cq,oT] at ht hs
    subst ht
    refine Qaa (v:=pointer (some ((ad15_.add (x7.toNat*2)).add 0))) rfl rfl (Qbw rfl rfl rfl rfl rfl (m:=1) (fun _=>rfl) (by decide)) ?_
    show G _ _ _ _ [_,_,_,_,_,_,_,_,_,_,_,_,_,_,_,_,_,_,_,_,_,_,_,_,_,_,_,_,_,_,_,_,_,_,_,_,_,_,_,_,_,_,_,_,_,_,_,_,_] _
    refine hk _ _ ⟨O,?_,hs.cast ?_⟩<;>simp only [oT,lq,cq,Nat.reduceBEq,p0_,p1_,p2_,p3_,p4_,p5_,q7_]
   ·
    rintro D t w hD hp hcl ⟨O,ht,hs⟩ rest hk
    have hp:AllDone D [6]:=hp
    obtain ⟨p6_,_⟩:=hp
    obtain ⟨p5_,_⟩:=(show D 6=true→AllDone D [5] from hcl 6 (by decide)) p6_
    obtain ⟨p3_,p4_,_⟩:=(show D 5=true→AllDone D [3,4] from hcl 5 (by decide)) p5_
    obtain ⟨p2_,_⟩:=(show D 3=true→AllDone D [2] from hcl 3 (by decide)) p3_
    obtain ⟨p1_,_⟩:=(show D 2=true→AllDone D [1] from hcl 2 (by decide)) p2_
    obtain ⟨p0_,_⟩:=(show D 1=true→AllDone D [0] from hcl 1 (by decide)) p1_
    simp only [hD,p0_,p1_,p2_,p3_,p4_,p5_,p6_,cq,oT] at ht hs
    subst ht
    refine QaH rfl rfl (v:=int .u64 ((rdL a1.Qaf x7 Qao).QaE)) rfl rfl (fun _=>rfl) (CellsAt.sub (cellsAt_of QaG Qao (hs.rd hr4) had15_ gd14.1 gd14.2) 0 1 (by first|rfl|(simp [Qat,List.drop_append,List.take_append,encAI_len,encAB_len,encA_len,List.take_of_length_le,List.drop_eq_nil_of_le]))) ?_
    show G _ _ _ _ [_,_,_,_,_,_,_,_,_,_,_,_,_,_,_,_,_,_,_,_,_,_,_,_,_,_,_,_,_,_,_,_,_,_,_,_,_,_,_,_,_,_,_,_,_,_,_,_,_] _
    refine hk _ _ ⟨O,?_,hs.cast ?_⟩<;>simp only [oT,lq,cq,Nat.reduceBEq,p0_,p1_,p2_,p3_,p4_,p5_,p6_]
   ·
    rintro D t w hD hp hcl ⟨O,ht,hs⟩ rest hk
    have hp:AllDone D []:=hp
    have q9_:=ny hcl 9 0 hD
    have q10_:=ny hcl 10 0 q9_
    have q11_:=ny hcl 11 0 q10_
    have q12_:=ny hcl 12 0 q11_
    have q13_:=ny hcl 13 0 q12_
    simp only [hD,q9_,q10_,q11_,q12_,q13_,cq,oT] at ht hs
    subst ht
    refine Qaa (v:=pointer (some ⟨b2,0,none⟩)) rfl rfl rfl ?_
    show G _ _ _ _ [_,_,_,_,_,_,_,_,_,_,_,_,_,_,_,_,_,_,_,_,_,_,_,_,_,_,_,_,_,_,_,_,_,_,_,_,_,_,_,_,_,_,_,_,_,_,_,_,_] _
    refine hk _ _ ⟨O,?_,hs.cast ?_⟩<;>simp only [oT,lq,cq,Nat.reduceBEq,q9_,q10_,q11_,q12_,q13_]
   ·
    rintro D t w hD hp hcl ⟨O,ht,hs⟩ rest hk
    have hp:AllDone D [8]:=hp
    obtain ⟨p8_,_⟩:=hp
    have q10_:=ny hcl 10 0 hD
    have q11_:=ny hcl 11 0 q10_
    have q12_:=ny hcl 12 0 q11_
    have q13_:=ny hcl 13 0 q12_
    simp only [hD,p8_,q10_,q11_,q12_,q13_,cq,oT] at ht hs
    subst ht
    refine Qaa (v:=pointer (some ⟨b2,0,none⟩)) rfl rfl rfl ?_
    show G _ _ _ _ [_,_,_,_,_,_,_,_,_,_,_,_,_,_,_,_,_,_,_,_,_,_,_,_,_,_,_,_,_,_,_,_,_,_,_,_,_,_,_,_,_,_,_,_,_,_,_,_,_] _
    refine hk _ _ ⟨O,?_,hs.cast ?_⟩<;>simp only [oT,lq,cq,Nat.reduceBEq,p8_,q10_,q11_,q12_,q13_]
   ·
    rintro D t w hD hp hcl ⟨O,ht,hs⟩ rest hk
    have hp:AllDone D [9]:=hp
    obtain ⟨p9_,_⟩:=hp
    obtain ⟨p8_,_⟩:=(show D 9=true→AllDone D [8] from hcl 9 (by decide)) p9_
    have q11_:=ny hcl 11 0 hD
    have q12_:=ny hcl 12 0 q11_
    have q13_:=ny hcl 13 0 q12_
    simp only [hD,p8_,p9_,q11_,q12_,q13_,cq,oT] at ht hs
    subst ht
    refine Qaa (v:=pointer (some ⟨b2,0,none⟩)) rfl rfl rfl ?_
    show G _ _ _ _ [_,_,_,_,_,_,_,_,_,_,_,_,_,_,_,_,_,_,_,_,_,_,_,_,_,_,_,_,_,_,_,_,_,_,_,_,_,_,_,_,_,_,_,_,_,_,_,_,_] _
    refine hk _ _ ⟨O,?_,hs.cast ?_⟩<;>simp only [oT,lq,cq,Nat.reduceBEq,p8_,p9_,q11_,q12_,q13_]
   ·
    rintro D t w hD hp hcl ⟨O,ht,hs⟩ rest hk
    have hp:AllDone D [10]:=hp
    obtain ⟨p10_,_⟩:=hp
    obtain ⟨p9_,_⟩:=(show D 10=true→AllDone D [9] from hcl 10 (by decide)) p10_
    obtain ⟨p8_,_⟩:=(show D 9=true→AllDone D [8] from hcl 9 (by decide)) p9_
    have q12_:=ny hcl 12 0 hD
    have q13_:=ny hcl 13 0 q12_
    simp only [hD,p8_,p9_,p10_,q12_,q13_,cq,oT] at ht hs
    subst ht
    refine QaH rfl rfl (v:=int .i8 a1.Qac) rfl rfl (fun _=>rfl) (cells_load (hs.box hp0) 0 1 rfl) ?_
    show G _ _ _ _ [_,_,_,_,_,_,_,_,_,_,_,_,_,_,_,_,_,_,_,_,_,_,_,_,_,_,_,_,_,_,_,_,_,_,_,_,_,_,_,_,_,_,_,_,_,_,_,_,_] _
    refine hk _ _ ⟨O,?_,hs.cast ?_⟩<;>simp only [oT,lq,cq,Nat.reduceBEq,p8_,p9_,p10_,q12_,q13_]
   ·
    rintro D t w hD hp hcl ⟨O,ht,hs⟩ rest hk
    have hp:AllDone D [11]:=hp
    obtain ⟨p11_,_⟩:=hp
    obtain ⟨p10_,_⟩:=(show D 11=true→AllDone D [10] from hcl 11 (by decide)) p11_
    obtain ⟨p9_,_⟩:=(show D 10=true→AllDone D [9] from hcl 10 (by decide)) p10_
    obtain ⟨p8_,_⟩:=(show D 9=true→AllDone D [8] from hcl 9 (by decide)) p9_
    have q13_:=ny hcl 13 0 hD
    simp only [hD,p8_,p9_,p10_,p11_,q13_,cq,oT] at ht hs
    subst ht
    refine Qaa (v:=int .i64 (i64w a1.Qac)) rfl rfl rfl ?_
    show G _ _ _ _ [_,_,_,_,_,_,_,_,_,_,_,_,_,_,_,_,_,_,_,_,_,_,_,_,_,_,_,_,_,_,_,_,_,_,_,_,_,_,_,_,_,_,_,_,_,_,_,_,_] _
    refine hk _ _ ⟨O,?_,hs.cast ?_⟩<;>simp only [oT,lq,cq,Nat.reduceBEq,p8_,p9_,p10_,p11_,q13_]
   ·
    rintro D t w hD hp hcl ⟨O,ht,hs⟩ rest hk
    have hp:AllDone D [12]:=hp
    obtain ⟨p12_,_⟩:=hp
    obtain ⟨p11_,_⟩:=(show D 12=true→AllDone D [11] from hcl 12 (by decide)) p12_
    obtain ⟨p10_,_⟩:=(show D 11=true→AllDone D [10] from hcl 11 (by decide)) p11_
    obtain ⟨p9_,_⟩:=(show D 10=true→AllDone D [9] from hcl 10 (by decide)) p10_
    obtain ⟨p8_,_⟩:=(show D 9=true→AllDone D [8] from hcl 9 (by decide)) p9_
    simp only [hD,p8_,p9_,p10_,p11_,p12_,cq,oT] at ht hs
    subst ht
    refine Qaz (args:=[int .i64 (i64w a1.Qac)]) rfl rfl (Qaw rfl (callFunc_enter Tryd.func35 rfl rfl) rfl) (Qa4.calls (a1:=i64w a1.Qac) Hr8) ?_
    rintro _ w ⟨rfl,hs2⟩
    have hs:St _ [] _:=hs.call hs2
    show G _ _ _ _ [_,_,_,_,_,_,_,_,_,_,_,_,_,_,_,_,_,_,_,_,_,_,_,_,_,_,_,_,_,_,_,_,_,_,_,_,_,_,_,_,_,_,_,_,_,_,_,_,_] _
    refine hk _ _ ⟨O,?_,hs.cast ?_⟩<;>simp only [oT,lq,cq,Nat.reduceBEq,p8_,p9_,p10_,p11_,p12_]
   intro D t w rest hall hO13_ hI
   obtain ⟨O,ht,hs⟩:=hI
   have p0_:=hall 0 (by decide) rfl
   have p1_:=hall 1 (by decide) rfl
   have p2_:=hall 2 (by decide) rfl
   have p3_:=hall 3 (by decide) rfl
   have p4_:=hall 4 (by decide) rfl
   have p5_:=hall 5 (by decide) rfl
   have p6_:=hall 6 (by decide) rfl
   have p7_:=hall 7 (by decide) rfl
   have p8_:=hall 8 (by decide) rfl
   have p9_:=hall 9 (by decide) rfl
   have p10_:=hall 10 (by decide) rfl
   have p11_:=hall 11 (by decide) rfl
   have p12_:=hall 12 (by decide) rfl
   have p13_:=hall 13 (by decide) rfl
   simp only [p0_,p1_,p2_,p3_,p4_,p5_,p6_,p7_,p8_,p9_,p10_,p11_,p12_,p13_,cq,oT] at ht hs
   subst ht
   obtain ⟨rest,rfl,hO16_⟩:=ord_one (m:=16383) hO13_ rfl 14 (m':=32767) (by decide+kernel) rfl
   clear hO13_
   refine Qaa (v:=int .u64 (bAndNot .u64 ((rdL a1.Qaf x7 Qao).QaE) r8)) rfl rfl rfl ?_
   obtain ⟨rest,rfl,hO17_⟩:=ord_one (m:=32767) hO16_ rfl 15 (m':=65535) (by decide+kernel) rfl
   clear hO16_
   refine Qau (B:=(bAndNot .u64 ((rdL a1.Qaf x7 Qao).QaE) r8) !=0) rfl rfl rfl ?_ ?_
   ·
    intro hb
    rw [if_neg (b_bne_t hb)] at H
    show G _ _ _ _ [_,_,_,_,_,_,_,_,_,_,_,_,_,_,_,_,_,_,_,_,_,_,_,_,_,_,_,_,_,_,_,_,_,_,_,_,_,_,_,_,_,_,_,_,_,_,_,_,_] _
    obtain rfl:=ord_end hO17_ rfl (by decide+kernel)
    refine Qab (Qap rfl (Qad (Qaj [0] rfl ?_)))
    refine Qaa (v:=bool false) rfl rfl rfl (Qab ?_)
    obtain rfl:=QsJ H
    subst Hx1_
    have H:=QsJ Hr1_
    subst H
    refine Qax Tryd.func15 (v:=bool false) (res1 rfl rfl) ?_
    have hs:St _ [] _:=St.take (Γ':=[]) hs
    exact ⟨_,rfl,rfl,hs⟩
   intro hb
   rw [if_pos (b_bne_f hb)] at H
   show G _ _ _ _ [_,_,_,_,_,_,_,_,_,_,_,_,_,_,_,_,_,_,_,_,_,_,_,_,_,_,_,_,_,_,_,_,_,_,_,_,_,_,_,_,_,_,_,_,_,_,_,_,_] _
   obtain rfl:=ord_end hO17_ rfl (by decide+kernel)
   refine Qab (Qag rfl (Qay ?_))
   refine QaB (Qaj [0,1,2] rfl ?_)
   refine Qaa (v:=int .i64 x7) rfl rfl rfl ?_
   refine Qaa (v:=int .i64 (i64w (x7+1))) rfl rfl rfl ?_
   refine Qaa (v:=int .i64 (i64w (x7+1))) rfl rfl rfl (Qab ?_)
   obtain rfl:=QsJ H
   have hs:St _ [] _:=St.take (Γ':=[]) hs
   exact ih1_ _ _ ⟨i64w (x7+1),Hx1_,rfl,hs⟩
  intro hb
  rw [if_neg (b_dec_f hb)] at H
  show G _ _ _ _ [_,_,_,_,_,_,_,_,_,_,_,_,_,_,_,_,_,_,_,_,_,_,_,_,_,_,_,_,_,_,_,_,_,_,_,_,_,_,_,_,_,_,_,_,_,_,_,_,_] _
  refine Qab (Qag rfl ?_)
  obtain rfl:=QsJ H
  subst Hx1_
  have hs:St _ [] _:=St.take (Γ':=[]) hs
  refine Qbh rfl ?_
  exact ha1_ _ _ ⟨Hr1_,rfl,hs⟩
 |false=>
  rw [if_neg Bool.false_ne_true] at H
  obtain ⟨rest,rfl,hO19_⟩:=ord_one (m:=2047) hO2_ rfl 11 (m':=4095) (by decide+kernel) rfl
  clear hO2_
  refine Qaa (v:=bool true) rfl rfl rfl ?_
  obtain ⟨rest,rfl,hO20_⟩:=ord_one (m:=4095) hO19_ rfl 12 (m':=8191) (by decide+kernel) rfl
  clear hO19_
  refine Qaa (v:=bool true) rfl rfl rfl ?_
  obtain ⟨rest,rfl,hO21_⟩:=ord_one (m:=8191) hO20_ rfl 13 (m':=16383) (by decide+kernel) rfl
  clear hO20_
  refine Qaq rfl rfl ?_
  obtain ⟨rest,rfl,hO22_⟩:=ord_one (m:=16383) hO21_ rfl 14 (m':=32767) (by decide+kernel) rfl
  clear hO21_
  refine Qaq rfl rfl ?_
  obtain ⟨rest,rfl,hO23_⟩:=ord_one (m:=32767) hO22_ rfl 15 (m':=65535) (by decide+kernel) rfl
  clear hO22_
  refine Qaq rfl rfl ?_
  obtain ⟨rest,rfl,hO24_⟩:=ord_one (m:=65535) hO23_ rfl 16 (m':=131071) (by decide+kernel) rfl
  clear hO23_
  refine Qaq rfl rfl ?_
  show G _ _ _ _ [_,_,_,_,_,_,_,_,_,_,_,_,_,_,_,_,_,_,_,_,_,_,_,_,_,_,_,_,_,_,_,_,_,_,_,_,_,_,_,_,_,_,_,_,_,_,_,_,_] _
  obtain ⟨rest,rfl,hO25_⟩:=ord_one (m:=131071) hO24_ rfl 17 (m':=262143) (by decide+kernel) rfl
  clear hO24_
  refine Qaq rfl rfl ?_
  obtain ⟨rest,rfl,hO26_⟩:=ord_one (m:=262143) hO25_ rfl 18 (m':=524287) (by decide+kernel) rfl
  clear hO25_
  refine Qaq rfl rfl ?_
  obtain ⟨rest,rfl,hO27_⟩:=ord_one (m:=524287) hO26_ rfl 19 (m':=1048575) (by decide+kernel) rfl
  clear hO26_
  refine Qaa (v:=bool true) rfl rfl rfl ?_
  show G _ _ _ _ [_,_,_,_,_,_,_,_,_,_,_,_,_,_,_,_,_,_,_,_,_,_,_,_,_,_,_,_,_,_,_,_,_,_,_,_,_,_,_,_,_,_,_,_,_,_,_,_,_] _
  obtain rfl:=ord_end hO27_ rfl (by decide+kernel)
  refine Qab (Qap rfl (Qad (Qaj [0] rfl ?_)))
  refine Qaa (v:=bool false) rfl rfl rfl (Qab ?_)
  obtain rfl:=QsJ H
  refine Qax Tryd.func15 (v:=bool false) (res1 rfl rfl) ?_
  have hs:St _ [] _:=St.take (Γ':=[]) hs
  exact ⟨_,rfl,rfl,hs⟩
def QaA.post (w0:World) (r:ByteArray) (v:Value) (w:World):Prop:=v=string r∧St w0 [] w
theorem QaA.step {N:Nat} {self:Int→Option ByteArray} (ih:∀ (a1:Int) (w0:World) (r:ByteArray),self a1=some r→Calls Tryd.prog 36 #[int .i64 a1] w0 fun e w=>∃ v,e= .returned v∧QaA.post w0 r v w) (a1:Int) (w0:World) (r:ByteArray) (H:QaA.body N self a1=some r):
 Calls Tryd.prog 36 #[int .i64 a1] w0 fun e w=>∃ v,e= .returned v∧QaA.post w0 r v w:=by
 unfold QaA.body at H
 have hs:St w0 [] w0:=St.refl w0
 refine calls_of_g (n:=20) Tryd.func36 rfl rfl ?_
 show G _ _ _ _ [_,_,_,_,_,_,_,_,_,_,_,_,_,_,_,_,_,_,_,_,_] _
 refine Qad (Qaj [0] rfl ?_)
 refine Qaa (v:=string (⟨#[]⟩:ByteArray)) rfl rfl rfl (Qab (Qad (Qad (Qaj [0,1] rfl ?_))))
 refine Qaa (v:=int .i64 a1) rfl rfl rfl ?_
 refine Qau (B:=decide (a1< 10)) rfl rfl rfl ?_ ?_
 ·
  intro hb
  rw [if_pos (b_dec_t hb)] at H
  refine Qab (Qap rfl (Qad (Qaj [0,1,2,3,4,5,6] rfl ?_)))
  refine Qaa (v:=int .i64 a1) rfl rfl rfl ?_
  refine Qaa (v:=int .i64 (a1.tmod 10)) rfl rfl rfl ?_
  show G _ _ _ _ [_,_,_,_,_,_,_,_,_,_,_,_,_,_,_,_,_,_,_,_,_] _
  refine Qaa (v:=int .i64 (i64w (48+(a1.tmod 10)))) rfl rfl rfl ?_
  refine Qaa (v:=int .u8 (u8w (i64w (48+(a1.tmod 10))))) rfl rfl rfl ?_
  show G _ _ _ _ [_,_,_,_,_,_,_,_,_,_,_,_,_,_,_,_,_,_,_,_,_] _
  refine QbH (fkI .u8) (y:=u8w (i64w (48+(a1.tmod 10)))) hs rfl rfl rfl rfl (fun _=>rfl) (zv:=(int .u8 0)) (fun _=>rfl) rfl (by decide) (by decide) rfl ?_
  intro v2 w hs
  show G _ _ _ _ [_,_,_,_,_,_,_,_,_,_,_,_,_,_,_,_,_,_,_,_,_] _
  refine Qaa (v:=string (bsOf ([u8w (i64w (48+(a1.tmod 10)))]))) rfl rfl (Qbt rfl rfl rfl rfl rfl (hs.row 0 rfl)) ?_
  refine Qaa (v:=string (bsOf ([u8w (i64w (48+(a1.tmod 10)))]))) rfl rfl rfl (Qab ?_)
  obtain rfl:=QsJ H
  refine Qax Tryd.func36 (v:=string (bsOf ([u8w (i64w (48+(a1.tmod 10)))]))) (res1 rfl rfl) ?_
  have hs:St _ [] _:=St.take (Γ':=[_]) hs
  exact ⟨_,rfl,rfl,hs⟩
 intro hb
 rw [if_neg (b_dec_f hb)] at H
 show G _ _ _ _ [_,_,_,_,_,_,_,_,_,_,_,_,_,_,_,_,_,_,_,_,_] _
 refine Qab (Qag rfl (Qay (Qad ?_)))
 obtain ⟨r4,Hr4,H⟩:=bind_get H
 obtain ⟨gs1,H⟩:=ite_get H
 refine Qbn ?_
 intro T hT
 refine QbL (n:=11) rfl [0,1,2,3,4,5,6,7,8,9,10] [0,1,2,3,4,5,6,7,8,9,10] rfl rfl (Inv:=fun D t w=>∃ v5:Value,∃ O:Nat→Value,t=[int .i64 a1,O 1,cnd (D 10) (string (r4++(bsOf ([u8w (i64w (48+(a1.tmod 10)))])))) (string (⟨#[]⟩:ByteArray)),int .i64 a1,bool false,O 5,O 6,O 7,O 8,O 9,O 10,cnd (D 0) (int .i64 a1) (O 11),cnd (D 1) (int .i64 (i64w (a1.tdiv 10))) (O 12),cnd (D 2) (string r4) (O 13),cnd (D 3) (int .i64 a1) (O 14),cnd (D 4) (int .i64 (a1.tmod 10)) (O 15),cnd (D 5) (int .i64 (i64w (48+(a1.tmod 10)))) (O 16),cnd (D 6) (int .u8 (u8w (i64w (48+(a1.tmod 10))))) (O 17),cnd (D 7) v5 (O 18),cnd (D 8) (string (bsOf ([u8w (i64w (48+(a1.tmod 10)))]))) (O 19),cnd (D 9) (string (r4++(bsOf ([u8w (i64w (48+(a1.tmod 10)))])))) (O 20)]∧St w0 [Asc (D 7) (Row 5 (K.int .u8) v5 ([u8w (i64w (48+(a1.tmod 10)))]))] w) ?_ ⟨⟨⟨⟨⟨⟨⟨⟨⟨⟨⟨trivial,?_⟩,?_⟩,?_⟩,?_⟩,?_⟩,?_⟩,?_⟩,?_⟩,?_⟩,?_⟩,?_⟩ ?_
 ·
  intro w hh hbw
  have hs:=hs.samew hh hbw
  have hs:=hs.emp
  exact ⟨undef,fun i=>T.getD i undef,(by subst hT;rfl),hs⟩
 ·
  rintro D t w hD hp hcl ⟨v5,O,ht,hs⟩ rest hk
  have q1_:=nz hcl 1 0 hD
  have q2_:=nz hcl 2 0 q1_
  have q9_:=nz hcl 9 0 q2_
  have q10_:=nz hcl 10 0 q9_
  simp only [hD,q1_,q2_,q9_,q10_,cq,oT] at ht hs
  subst ht
  refine Qaa (v:=int .i64 a1) rfl rfl rfl ?_
  show G _ _ _ _ [_,_,_,_,_,_,_,_,_,_,_,_,_,_,_,_,_,_,_,_,_] _
  refine hk _ _ ⟨v5,O,?_,hs.cast ?_⟩<;>simp only [oT,lq,cq,Nat.reduceBEq,q1_,q2_,q9_,q10_]
 ·
  rintro D t w hD hp hcl ⟨v5,O,ht,hs⟩ rest hk
  obtain ⟨p0_,_⟩:=hp
  have q2_:=nz hcl 2 0 hD
  have q9_:=nz hcl 9 0 q2_
  have q10_:=nz hcl 10 0 q9_
  simp only [hD,p0_,q2_,q9_,q10_,cq,oT] at ht hs
  subst ht
  refine Qaa (v:=int .i64 (i64w (a1.tdiv 10))) rfl rfl rfl ?_
  show G _ _ _ _ [_,_,_,_,_,_,_,_,_,_,_,_,_,_,_,_,_,_,_,_,_] _
  refine hk _ _ ⟨v5,O,?_,hs.cast ?_⟩<;>simp only [oT,lq,cq,Nat.reduceBEq,p0_,q2_,q9_,q10_]
 ·
  rintro D t w hD hp hcl ⟨v5,O,ht,hs⟩ rest hk
  obtain ⟨p1_,_⟩:=hp
  obtain ⟨p0_,_⟩:=(hcl.get 1 (by decide)) p1_
  have q9_:=nz hcl 9 0 hD
  have q10_:=nz hcl 10 0 q9_
  simp only [hD,p0_,p1_,q9_,q10_,cq,oT] at ht hs
  subst ht
  refine Qaz (args:=[int .i64 (i64w (a1.tdiv 10))]) rfl rfl (Qaw rfl (callFunc_enter Tryd.func36 rfl rfl) rfl) (ih _ _ _ Hr4) ?_
  rintro _ w ⟨rfl,hs2⟩
  have hs:St _ [_] _:=hs.call hs2
  show G _ _ _ _ [_,_,_,_,_,_,_,_,_,_,_,_,_,_,_,_,_,_,_,_,_] _
  refine hk _ _ ⟨v5,O,?_,hs.cast ?_⟩<;>simp only [oT,lq,cq,Nat.reduceBEq,p0_,p1_,q9_,q10_]
 ·
  rintro D t w hD hp hcl ⟨v5,O,ht,hs⟩ rest hk
  have q4_:=nz hcl 4 0 hD
  have q5_:=nz hcl 5 0 q4_
  have q6_:=nz hcl 6 0 q5_
  have q7_:=nz hcl 7 0 q6_
  have q8_:=nz hcl 8 0 q7_
  have q9_:=nz hcl 9 1 q8_
  have q10_:=nz hcl 10 0 q9_
  simp only [hD,q4_,q5_,q6_,q7_,q8_,q9_,q10_,cq,oT] at ht hs
  subst ht
  refine Qaa (v:=int .i64 a1) rfl rfl rfl ?_
  show G _ _ _ _ [_,_,_,_,_,_,_,_,_,_,_,_,_,_,_,_,_,_,_,_,_] _
  refine hk _ _ ⟨v5,O,?_,hs.cast ?_⟩<;>simp only [oT,lq,cq,Nat.reduceBEq,q4_,q5_,q6_,q7_,q8_,q9_,q10_]
 ·
  rintro D t w hD hp hcl ⟨v5,O,ht,hs⟩ rest hk
  obtain ⟨p3_,_⟩:=hp
  have q5_:=nz hcl 5 0 hD
  have q6_:=nz hcl 6 0 q5_
  have q7_:=nz hcl 7 0 q6_
  have q8_:=nz hcl 8 0 q7_
  have q9_:=nz hcl 9 1 q8_
  have q10_:=nz hcl 10 0 q9_
  simp only [hD,p3_,q5_,q6_,q7_,q8_,q9_,q10_,cq,oT] at ht hs
  subst ht
  refine Qaa (v:=int .i64 (a1.tmod 10)) rfl rfl rfl ?_
  show G _ _ _ _ [_,_,_,_,_,_,_,_,_,_,_,_,_,_,_,_,_,_,_,_,_] _
  refine hk _ _ ⟨v5,O,?_,hs.cast ?_⟩<;>simp only [oT,lq,cq,Nat.reduceBEq,p3_,q5_,q6_,q7_,q8_,q9_,q10_]
 ·
  rintro D t w hD hp hcl ⟨v5,O,ht,hs⟩ rest hk
  obtain ⟨p4_,_⟩:=hp
  obtain ⟨p3_,_⟩:=(hcl.get 4 (by decide)) p4_
  have q6_:=nz hcl 6 0 hD
  have q7_:=nz hcl 7 0 q6_
  have q8_:=nz hcl 8 0 q7_
  have q9_:=nz hcl 9 1 q8_
  have q10_:=nz hcl 10 0 q9_
  simp only [hD,p3_,p4_,q6_,q7_,q8_,q9_,q10_,cq,oT] at ht hs
  subst ht
  refine Qaa (v:=int .i64 (i64w (48+(a1.tmod 10)))) rfl rfl rfl ?_
  show G _ _ _ _ [_,_,_,_,_,_,_,_,_,_,_,_,_,_,_,_,_,_,_,_,_] _
  refine hk _ _ ⟨v5,O,?_,hs.cast ?_⟩<;>simp only [oT,lq,cq,Nat.reduceBEq,p3_,p4_,q6_,q7_,q8_,q9_,q10_]
 ·
  rintro D t w hD hp hcl ⟨v5,O,ht,hs⟩ rest hk
  obtain ⟨p5_,_⟩:=hp
  obtain ⟨p4_,_⟩:=(hcl.get 5 (by decide)) p5_
  obtain ⟨p3_,_⟩:=(hcl.get 4 (by decide)) p4_
  have q7_:=nz hcl 7 0 hD
  have q8_:=nz hcl 8 0 q7_
  have q9_:=nz hcl 9 1 q8_
  have q10_:=nz hcl 10 0 q9_
  simp only [hD,p3_,p4_,p5_,q7_,q8_,q9_,q10_,cq,oT] at ht hs
  subst ht
  refine Qaa (v:=int .u8 (u8w (i64w (48+(a1.tmod 10))))) rfl rfl rfl ?_
  show G _ _ _ _ [_,_,_,_,_,_,_,_,_,_,_,_,_,_,_,_,_,_,_,_,_] _
  refine hk _ _ ⟨v5,O,?_,hs.cast ?_⟩<;>simp only [oT,lq,cq,Nat.reduceBEq,p3_,p4_,p5_,q7_,q8_,q9_,q10_]
 ·
  rintro D t w hD hp hcl ⟨v5,O,ht,hs⟩ rest hk
  obtain ⟨p6_,_⟩:=hp
  obtain ⟨p5_,_⟩:=(hcl.get 6 (by decide)) p6_
  obtain ⟨p4_,_⟩:=(hcl.get 5 (by decide)) p5_
  obtain ⟨p3_,_⟩:=(hcl.get 4 (by decide)) p4_
  have q8_:=nz hcl 8 0 hD
  have q9_:=nz hcl 9 1 q8_
  have q10_:=nz hcl 10 0 q9_
  simp only [hD,p3_,p4_,p5_,p6_,q8_,q9_,q10_,cq,oT] at ht hs
  subst ht
  refine QbH (fkI .u8) (y:=u8w (i64w (48+(a1.tmod 10)))) hs rfl rfl rfl rfl (fun _=>rfl) (zv:=(int .u8 0)) (fun _=>rfl) rfl (by decide) (by decide) rfl ?_
  intro v5 w hs
  show G _ _ _ _ [_,_,_,_,_,_,_,_,_,_,_,_,_,_,_,_,_,_,_,_,_] _
  have hs:=hs.fill 0 rfl
  refine hk _ _ ⟨v5,O,?_,hs.cast ?_⟩<;>simp only [oT,lq,cq,Nat.reduceBEq,p3_,p4_,p5_,p6_,q8_,q9_,q10_]
 ·
  rintro D t w hD hp hcl ⟨v5,O,ht,hs⟩ rest hk
  obtain ⟨p7_,_⟩:=hp
  obtain ⟨p6_,_⟩:=(hcl.get 7 (by decide)) p7_
  obtain ⟨p5_,_⟩:=(hcl.get 6 (by decide)) p6_
  obtain ⟨p4_,_⟩:=(hcl.get 5 (by decide)) p5_
  obtain ⟨p3_,_⟩:=(hcl.get 4 (by decide)) p4_
  have q9_:=nz hcl 9 1 hD
  have q10_:=nz hcl 10 0 q9_
  simp only [hD,p3_,p4_,p5_,p6_,p7_,q9_,q10_,cq,oT] at ht hs
  subst ht
  refine Qaa (v:=string (bsOf ([u8w (i64w (48+(a1.tmod 10)))]))) rfl rfl (Qbt rfl rfl rfl rfl rfl (hs.row 0 rfl)) ?_
  show G _ _ _ _ [_,_,_,_,_,_,_,_,_,_,_,_,_,_,_,_,_,_,_,_,_] _
  refine hk _ _ ⟨v5,O,?_,hs.cast ?_⟩<;>simp only [oT,lq,cq,Nat.reduceBEq,p3_,p4_,p5_,p6_,p7_,q9_,q10_]
 ·
  rintro D t w hD hp hcl ⟨v5,O,ht,hs⟩ rest hk
  obtain ⟨p2_,p8_,_⟩:=hp
  obtain ⟨p7_,_⟩:=(hcl.get 8 (by decide)) p8_
  obtain ⟨p6_,_⟩:=(hcl.get 7 (by decide)) p7_
  obtain ⟨p5_,_⟩:=(hcl.get 6 (by decide)) p6_
  obtain ⟨p4_,_⟩:=(hcl.get 5 (by decide)) p5_
  obtain ⟨p3_,_⟩:=(hcl.get 4 (by decide)) p4_
  obtain ⟨p1_,_⟩:=(hcl.get 2 (by decide)) p2_
  obtain ⟨p0_,_⟩:=(hcl.get 1 (by decide)) p1_
  have q10_:=nz hcl 10 0 hD
  simp only [hD,p0_,p1_,p2_,p3_,p4_,p5_,p6_,p7_,p8_,q10_,cq,oT] at ht hs
  subst ht
  refine Qaa (v:=string (r4++(bsOf ([u8w (i64w (48+(a1.tmod 10)))])))) rfl rfl (Qbg rfl rfl rfl gs1) ?_
  show G _ _ _ _ [_,_,_,_,_,_,_,_,_,_,_,_,_,_,_,_,_,_,_,_,_] _
  refine hk _ _ ⟨v5,O,?_,hs.cast ?_⟩<;>simp only [oT,lq,cq,Nat.reduceBEq,p0_,p1_,p2_,p3_,p4_,p5_,p6_,p7_,p8_,q10_]
 ·
  rintro D t w hD hp hcl ⟨v5,O,ht,hs⟩ rest hk
  obtain ⟨p9_,p2_,p0_,p1_,_,p3_,p4_,p5_,p6_,p7_,p8_,_,_⟩:=hp
  simp only [hD,p0_,p1_,p2_,p3_,p4_,p5_,p6_,p7_,p8_,p9_,cq,oT] at ht hs
  subst ht
  refine Qaa (v:=string (r4++(bsOf ([u8w (i64w (48+(a1.tmod 10)))])))) rfl rfl rfl ?_
  show G _ _ _ _ [_,_,_,_,_,_,_,_,_,_,_,_,_,_,_,_,_,_,_,_,_] _
  refine hk _ _ ⟨v5,O,?_,hs.cast ?_⟩<;>simp only [oT,lq,cq,Nat.reduceBEq,p0_,p1_,p2_,p3_,p4_,p5_,p6_,p7_,p8_,p9_]
 intro D t w hall hI
 obtain ⟨v5,O,ht,hs⟩:=hI
 have p0_:=hall 0 (by decide)
 have p1_:=hall 1 (by decide)
 have p2_:=hall 2 (by decide)
 have p3_:=hall 3 (by decide)
 have p4_:=hall 4 (by decide)
 have p5_:=hall 5 (by decide)
 have p6_:=hall 6 (by decide)
 have p7_:=hall 7 (by decide)
 have p8_:=hall 8 (by decide)
 have p9_:=hall 9 (by decide)
 have p10_:=hall 10 (by decide)
 simp only [p0_,p1_,p2_,p3_,p4_,p5_,p6_,p7_,p8_,p9_,p10_,cq,oT] at ht hs
 subst ht
 obtain rfl:=QsJ H
 refine Qax Tryd.func36 (v:=string (r4++(bsOf ([u8w (i64w (48+(a1.tmod 10)))])))) (res1 rfl rfl) ?_
 have hs:St _ [] _:=St.take (Γ':=[_]) hs
 exact ⟨_,rfl,rfl,hs⟩
theorem QaA.rec {N:Nat}:∀ (k:Nat) (a1:Int) (w0:World) (r:ByteArray) (H:QaA.g N k a1=some r),Calls Tryd.prog 36 #[int .i64 a1] w0 fun e w=>∃ v,e= .returned v∧QaA.post w0 r v w
 |0,a1,w0,r,H=>by cases H
 |k+1,a1,w0,r,H=>QaA.step (fun a1 w0 r H=>QaA.rec k a1 w0 r H) a1 w0 r H
theorem QaA.ih {N:Nat}:∀ (a1:Int) (w0:World) (r:ByteArray),QaA.f N a1=some r→Calls Tryd.prog 36 #[int .i64 a1] w0 fun e w=>∃ v,e= .returned v∧QaA.post w0 r v w:=fun a1 w0 r H=>QaA.rec N a1 w0 r H
theorem QaA.calls {N:Nat} {a1:Int} {w0:World} {r:ByteArray} (H:QaA.f N a1=some r):
 Calls Tryd.prog 36 #[int .i64 a1] w0 fun e w=>∃ v,e= .returned v∧QaA.post w0 r v w:=QaA.rec N a1 w0 r H
end Go.Proofs.YtljkpeeabpdalaaDoorX
