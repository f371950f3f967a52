import Derived.Test.YtgoninfjneepfaaGreatDoorP13
namespace Go.Proofs.YtgoninfjneepfaaGreatDoorX
open Go Go.RowKit Go.Proofs
open Go.Value (int pointer bool agg slice string tuple)
set_option maxHeartbeats 8000000
set_option maxRecDepth 100000
set_option linter.unusedVariables false
set_option linter.unusedSimpArgs false
def QaK.post (w0:World) (r:Int) (v:Value) (w:World):Prop:=v=int .i64 r∧St w0 [] w
theorem QaK.calls {N:Nat} {a1:(List Int)} {v2:Value} {w0:World} {r:Int} (hr0:RdRow (K.int .i64) w0 v2 a1) (H:QaK.f N a1=some r):
 Calls Tryz.prog 63 #[v2] w0 fun e w=>∃ v,e= .returned v∧QaK.post w0 r v w:=by
 unfold QaK.f at H
 have hs:St w0 [] w0:=St.refl w0
 refine calls_of_g (n:=32) Tryz.func63 rfl rfl ?_
 show G _ _ _ _ [_,_,_,_,_,_,_,_,_,_,_,_,_,_,_,_,_,_,_,_,_,_,_,_,_,_,_,_,_,_,_,_,_] _
 refine Qad (Qag [0] rfl ?_)
 refine Qaa (v:=int .i64 0) rfl rfl rfl (Qab (Qad (Qag [0] rfl ?_)))
 refine Qaa (v:=int .i64 (-1)) rfl rfl rfl ?_
 show G _ _ _ _ [_,_,_,_,_,_,_,_,_,_,_,_,_,_,_,_,_,_,_,_,_,_,_,_,_,_,_,_,_,_,_,_,_] _
 refine Qab (Qad (Qad (Qag [0] rfl ?_)))
 refine Qaa (v:=int .i64 0) rfl rfl rfl (Qab ?_)
 obtain ⟨o1_,Ho,Hr1_⟩:=bind_get H
 refine Qax (J:=fun t w=>∃ x10:Int,QaK.a0 N x10=some r∧Fr t (fun O=>([O 0,O 1,O 2,int .i64 x10,O 4,O 5,O 6,O 7,O 8,O 9,O 10,O 11,O 12,O 13,O 14,O 15,O 16,O 17,O 18,O 19,O 20,O 21,O 22,O 23,O 24,O 25,O 26,O 27,O 28,O 29,O 30,O 31,O 32]:List Value))∧St w0 [] w) ?_ ?_
 ·
  rintro t w ⟨x10,H,hf,hs⟩
  obtain ⟨O,rfl⟩:=hf.open
  show G _ _ _ _ [_,_,_,_,_,_,_,_,_,_,_,_,_,_,_,_,_,_,_,_,_,_,_,_,_,_,_,_,_,_,_,_,_] _
  unfold QaK.a0 at H
  refine Qad (Qag [0,1] rfl ?_)
  refine Qaa (v:=int .i64 x10) rfl rfl rfl ?_
  refine Qaa (v:=int .i64 x10) rfl rfl rfl (Qab ?_)
  obtain rfl:=QsJ H
  refine Qas Tryz.func63 (v:=int .i64 x10) (res1 rfl rfl) ?_
  have hs:St _ [] _:=St.take (Γ':=[]) hs
  exact ⟨_,rfl,rfl,hs⟩
 intro ha1_
 have hs:St _ [] _:=St.take (Γ':=[]) hs
 refine QaL (I:=fun n_ t w=>∃ x3:Int,∃ x4:Int,rounds (fun s=>QaK.b0 N a1 s.1 s.2) n_ (x3,x4)=some o1_∧Fr t (fun O=>([v2,O 1,O 2,int .i64 x3,int .i64 x4,O 5,O 6,O 7,O 8,O 9,O 10,O 11,O 12,O 13,O 14,O 15,O 16,O 17,O 18,O 19,O 20,O 21,O 22,O 23,O 24,O 25,O 26,O 27,O 28,O 29,O 30,O 31,O 32]:List Value))∧St w0 [] w) N ⟨(-1),0,Ho,rfl,hs⟩ ?_ ?_
 ·
  rintro _ _ ⟨x3,x4,h,_⟩
  exact rounds_zero h
 intro n_ ih1_
 rintro t w ⟨x3,x4,Ho,hf,hs⟩
 obtain ⟨O,rfl⟩:=hf.open
 show G _ _ _ _ [_,_,_,_,_,_,_,_,_,_,_,_,_,_,_,_,_,_,_,_,_,_,_,_,_,_,_,_,_,_,_,_,_] _
 obtain ⟨x5_,H,Hx1_⟩:=rounds_succ Ho
 have H:QaK.b0 N a1 x3 x4=some x5_:=H
 unfold QaK.b0 at H
 refine Qad (Qad (Qag [0,1,2,3] rfl ?_))
 refine Qaa (v:=int .i64 x4) rfl rfl rfl ?_
 refine Qaa (v:=v2) rfl rfl rfl ?_
 refine Qbc (hs.rd hr0) rfl rfl rfl rfl rfl ?_
 refine Qap (B:=decide (x4< (a1.length:Int))) rfl rfl rfl ?_ ?_
 ·
  intro hb
  rw [if_pos (b_dec_t hb)] at H
  refine Qab (Qah rfl (Qay (Qad ?_)))
  refine Qax (J:=(fun t w=>∃ x9:Int,QaK.j2 N x4 x9=some x5_∧Fr t (fun O=>([v2,O 1,O 2,int .i64 x9,int .i64 x4,O 5,O 6,O 7,O 8,O 9,O 10,O 11,O 12,O 13,O 14,O 15,O 16,O 17,O 18,O 19,O 20,O 21,O 22,O 23,O 24,O 25,O 26,O 27,O 28,O 29,O 30,O 31,O 32]:List Value))∧St w0 [] w)) ?_ ?_
  ·
   rintro t w ⟨x9,H,hf,hs⟩
   obtain ⟨O,rfl⟩:=hf.open
   show G _ _ _ _ [_,_,_,_,_,_,_,_,_,_,_,_,_,_,_,_,_,_,_,_,_,_,_,_,_,_,_,_,_,_,_,_,_] _
   unfold QaK.j2 at H
   refine Qag [0,1,2] rfl ?_
   refine Qaa (v:=int .i64 x4) rfl rfl rfl ?_
   refine Qaa (v:=int .i64 (i64w (x4+1))) rfl rfl rfl ?_
   refine Qaa (v:=int .i64 (i64w (x4+1))) rfl rfl rfl ?_
   show G _ _ _ _ [_,_,_,_,_,_,_,_,_,_,_,_,_,_,_,_,_,_,_,_,_,_,_,_,_,_,_,_,_,_,_,_,_] _
   refine Qab ?_
   obtain rfl:=QsJ H
   have hs:St _ [] _:=St.take (Γ':=[]) hs
   exact ih1_ _ _ ⟨x9,i64w (x4+1),Hx1_,rfl,hs⟩
  intro ha
  refine Qad (Qag [0,1,2,3,4,5,6,7,8,9,10,11,12,13,14,15,16] rfl ?_)
  refine Qaa (v:=v2) rfl rfl rfl ?_
  refine Qaa (v:=int .i64 x4) rfl rfl rfl ?_
  obtain ⟨g1,H⟩:=ite_get H
  refine Qbb (fkI .i64) 0 (hs.rd hr0) rfl (fun _=>rfl) g1.1 g1.2 rfl rfl rfl rfl rfl ?_
  intro p5 hp5 lp5 op5
  refine Qat rfl rfl (v:=int .i64 (rdL a1 x4 0)) rfl rfl (fun _=>rfl) hp5 ?_
  show G _ _ _ _ [_,_,_,_,_,_,_,_,_,_,_,_,_,_,_,_,_,_,_,_,_,_,_,_,_,_,_,_,_,_,_,_,_] _
  refine Qap (B:=decide ((rdL a1 x4 0)≥0)) rfl rfl rfl ?_ ?_
  ·
   intro hb
   rw [if_pos (b_dec_t hb)] at H
   refine Qaa (v:=bool true) rfl rfl rfl ?_
   refine Qaa (v:=int .i64 x3) rfl rfl rfl ?_
   refine Qap (B:=decide (x3< 0)) rfl rfl rfl ?_ ?_
   ·
    intro hb
    rw [if_pos (b_dec_t hb)] at H
    refine Qaa (v:=bool true) rfl rfl rfl (Qac rfl rfl (Qac rfl rfl (Qac rfl rfl ?_)))
    show G _ _ _ _ [_,_,_,_,_,_,_,_,_,_,_,_,_,_,_,_,_,_,_,_,_,_,_,_,_,_,_,_,_,_,_,_,_] _
    refine Qac rfl rfl (Qac rfl rfl (Qac rfl rfl ?_))
    refine Qaa (v:=bool true) rfl rfl rfl ?_
    show G _ _ _ _ [_,_,_,_,_,_,_,_,_,_,_,_,_,_,_,_,_,_,_,_,_,_,_,_,_,_,_,_,_,_,_,_,_] _
    refine Qaa (v:=bool true) rfl rfl rfl (Qab (Qah rfl (Qag [0,1,2,3,4] rfl ?_)))
    refine Qaa (v:=v2) rfl rfl rfl ?_
    refine Qaa (v:=int .i64 x4) rfl rfl rfl ?_
    obtain ⟨g2,H⟩:=ite_get H
    refine Qbb (fkI .i64) 0 (hs.rd hr0) rfl (fun _=>rfl) g2.1 g2.2 rfl rfl rfl rfl rfl ?_
    intro p6 hp6 lp6 op6
    refine Qat rfl rfl (v:=int .i64 (rdL a1 x4 0)) rfl rfl (fun _=>rfl) hp6 ?_
    show G _ _ _ _ [_,_,_,_,_,_,_,_,_,_,_,_,_,_,_,_,_,_,_,_,_,_,_,_,_,_,_,_,_,_,_,_,_] _
    refine Qaa (v:=int .i64 (rdL a1 x4 0)) rfl rfl rfl (Qab ?_)
    refine QaE ?_
    have hs:St _ [] _:=St.take (Γ':=[]) hs
    exact ha _ _ ⟨rdL a1 x4 0,H,rfl,hs⟩
   intro hb
   rw [if_neg (b_dec_f hb)] at H
   show G _ _ _ _ [_,_,_,_,_,_,_,_,_,_,_,_,_,_,_,_,_,_,_,_,_,_,_,_,_,_,_,_,_,_,_,_,_] _
   refine Qaa (v:=bool false) rfl rfl rfl ?_
   refine Qaa (v:=v2) rfl rfl rfl ?_
   refine Qaa (v:=int .i64 x4) rfl rfl rfl ?_
   obtain ⟨g3,H⟩:=ite_get H
   refine Qbb (fkI .i64) 0 (hs.rd hr0) rfl (fun _=>rfl) g3.1 g3.2 rfl rfl rfl rfl rfl ?_
   intro p7 hp7 lp7 op7
   refine Qat rfl rfl (v:=int .i64 (rdL a1 x4 0)) rfl rfl (fun _=>rfl) hp7 ?_
   refine Qaa (v:=int .i64 x3) rfl rfl rfl ?_
   refine Qaa (v:=bool (decide ((rdL a1 x4 0)< x3))) rfl rfl rfl ?_
   show G _ _ _ _ [_,_,_,_,_,_,_,_,_,_,_,_,_,_,_,_,_,_,_,_,_,_,_,_,_,_,_,_,_,_,_,_,_] _
   refine Qap (B:=decide ((rdL a1 x4 0)< x3)) rfl rfl rfl ?_ ?_
   ·
    intro hb
    rw [if_pos (b_dec_t hb)] at H
    show G _ _ _ _ [_,_,_,_,_,_,_,_,_,_,_,_,_,_,_,_,_,_,_,_,_,_,_,_,_,_,_,_,_,_,_,_,_] _
    refine Qaa (v:=bool true) rfl rfl rfl (Qab (Qah rfl (Qag [0,1,2,3,4] rfl ?_)))
    refine Qaa (v:=v2) rfl rfl rfl ?_
    refine Qaa (v:=int .i64 x4) rfl rfl rfl ?_
    obtain ⟨g4,H⟩:=ite_get H
    refine Qbb (fkI .i64) 0 (hs.rd hr0) rfl (fun _=>rfl) g4.1 g4.2 rfl rfl rfl rfl rfl ?_
    intro p8 hp8 lp8 op8
    refine Qat rfl rfl (v:=int .i64 (rdL a1 x4 0)) rfl rfl (fun _=>rfl) hp8 ?_
    show G _ _ _ _ [_,_,_,_,_,_,_,_,_,_,_,_,_,_,_,_,_,_,_,_,_,_,_,_,_,_,_,_,_,_,_,_,_] _
    refine Qaa (v:=int .i64 (rdL a1 x4 0)) rfl rfl rfl (Qab ?_)
    refine QaE ?_
    have hs:St _ [] _:=St.take (Γ':=[]) hs
    exact ha _ _ ⟨rdL a1 x4 0,H,rfl,hs⟩
   intro hb
   rw [if_neg (b_dec_f hb)] at H
   refine Qaa (v:=bool false) rfl rfl rfl (Qab (Qal rfl (Qay ?_)))
   refine QaE ?_
   have hs:St _ [] _:=St.take (Γ':=[]) hs
   exact ha _ _ ⟨x3,H,rfl,hs⟩
  intro hb
  rw [if_neg (b_dec_f hb)] at H
  refine Qaa (v:=bool false) rfl rfl rfl (Qac rfl rfl (Qac rfl rfl (Qac rfl rfl (Qac rfl rfl (Qac rfl rfl (Qac rfl rfl ?_))))))
  show G _ _ _ _ [_,_,_,_,_,_,_,_,_,_,_,_,_,_,_,_,_,_,_,_,_,_,_,_,_,_,_,_,_,_,_,_,_] _
  refine Qac rfl rfl (Qac rfl rfl (Qac rfl rfl (Qac rfl rfl ?_)))
  show G _ _ _ _ [_,_,_,_,_,_,_,_,_,_,_,_,_,_,_,_,_,_,_,_,_,_,_,_,_,_,_,_,_,_,_,_,_] _
  refine Qaa (v:=bool false) rfl rfl rfl (Qab (Qal rfl (Qay ?_)))
  refine QaE ?_
  have hs:St _ [] _:=St.take (Γ':=[]) hs
  exact ha _ _ ⟨x3,H,rfl,hs⟩
 intro hb
 rw [if_neg (b_dec_f hb)] at H
 show G _ _ _ _ [_,_,_,_,_,_,_,_,_,_,_,_,_,_,_,_,_,_,_,_,_,_,_,_,_,_,_,_,_,_,_,_,_] _
 refine Qab (Qal rfl ?_)
 obtain rfl:=QsJ H
 subst Hx1_
 have hs:St _ [] _:=St.take (Γ':=[]) hs
 refine Qa7 rfl ?_
 exact ha1_ _ _ ⟨x3,Hr1_,rfl,hs⟩
def QaN.post (w0:World) (r:(List Int)) (v:Value) (w:World):Prop:=St w0 [Row 2 (K.int .i64) v r] w
theorem QaN.calls {N:Nat} {a1:(List Int)} {a3:(Ar Int 4)} {a4:Int} {a5:Int} {a6:Bool} {v2:Value} {w0:World} {r:(List Int)} (hr0:RdRow (K.int .i16) w0 v2 a1) (H:QaN.f N a1 a3 a4 a5 a6=some r):
 Calls Tryz.prog 46 #[v2,agg ((encA (encI .i16)) a3).toArray,int .i64 a4,int .i64 a5,bool a6] w0 fun e w=>∃ v,e= .returned v∧QaN.post w0 r v w:=by
 unfold QaN.f at H
 have hs:St w0 [] w0:=St.refl w0
 refine calls_of_g (n:=33) Tryz.func46 rfl rfl ?_
 show G _ _ _ _ [_,_,_,_,_,_,_,_,_,_,_,_,_,_,_,_,_,_,_,_,_,_,_,_,_,_,_,_,_,_,_,_,_,_,_,_,_,_] _
 refine Qad (Qag [0,1] rfl ?_)
 refine Qbq hs rfl rfl (cs:=((encA (encI .i16)) a3)) rfl rfl ?_
 intro b7 w hs
 refine Qaa (v:=slice none 0 0) rfl rfl rfl (Qab (Qad (Qag [0,1,2,3,4] rfl ?_)))
 refine Qaa (v:=v2) rfl rfl rfl ?_
 refine QaG rfl rfl (es:=((encA (encI .i16)) a3)) rfl rfl (fun _=>rfl) (n:=4) (fun _=>rfl) ((fkA (n:=4) (he:=(fkI .i16).len) (h1:=(fkI .i16).one)).len _) (cells_all (hs.cells 0 rfl)) ?_
 show G _ _ _ _ [_,_,_,_,_,_,_,_,_,_,_,_,_,_,_,_,_,_,_,_,_,_,_,_,_,_,_,_,_,_,_,_,_,_,_,_,_,_] _
 refine Qaa (v:=int .i64 a5) rfl rfl rfl ?_
 obtain ⟨r9,Hr9,H⟩:=bind_get H
 refine QaB (args:=[v2,agg ((encA (encI .i16)) a3).toArray,int .i64 a5]) rfl rfl (QaC rfl (callFunc_enter Tryz.func62 rfl rfl) rfl) (Qaj.calls (a1:=a1) (a3:=a3) (a4:=a5) (hs.rd hr0) Hr9) ?_
 rintro v10 w ⟨_,ms11,rfl,hs2⟩
 have hs:St _ [_,_] _:=hs.call hs2
 refine Qaa (v:=v10) rfl rfl rfl (Qab (Qad (Qag [0,1] rfl ?_)))
 refine QbV (κ:=(K.int .i64)) hs rfl rfl rfl rfl (fun _=>rfl) ?_
 intro v13 w hs
 show G _ _ _ _ [_,_,_,_,_,_,_,_,_,_,_,_,_,_,_,_,_,_,_,_,_,_,_,_,_,_,_,_,_,_,_,_,_,_,_,_,_,_] _
 refine Qaa (v:=v13) rfl rfl rfl (Qab (Qad (Qad (Qag [0,1] rfl ?_))))
 refine Qaa (v:=int .i64 a4) rfl rfl rfl ?_
 refine Qaa (v:=int .i64 a4) rfl rfl rfl (Qab ?_)
 obtain ⟨o1_,Ho,Hr1_⟩:=bind_get H
 refine Qax (J:=fun t w=>∃ v28:Value,∃ x29:(List Int),QaN.a0 N x29=some r∧Fr t (fun O=>([O 0,O 1,O 2,O 3,O 4,O 5,O 6,O 7,O 8,O 9,O 10,O 11,v28,O 13,O 14,O 15,O 16,O 17,O 18,O 19,O 20,O 21,O 22,O 23,O 24,O 25,O 26,O 27,O 28,O 29,O 30,O 31,O 32,O 33,O 34,O 35,O 36,O 37]:List Value))∧St w0 [Row 2 (K.int .i64) v28 x29] w) ?_ ?_
 ·
  rintro t w ⟨v28,x29,H,hf,hs⟩
  obtain ⟨O,rfl⟩:=hf.open
  show G _ _ _ _ [_,_,_,_,_,_,_,_,_,_,_,_,_,_,_,_,_,_,_,_,_,_,_,_,_,_,_,_,_,_,_,_,_,_,_,_,_,_] _
  unfold QaN.a0 at H
  refine Qad (Qag [0,1] rfl ?_)
  refine Qaa (v:=v28) rfl rfl rfl ?_
  refine Qaa (v:=v28) rfl rfl rfl (Qab ?_)
  obtain rfl:=QsJ H
  refine Qas Tryz.func46 (v:=v28) (res1 rfl rfl) ?_
  have hs:=hs.pull 0 rfl
  have hs:St _ [_] _:=St.take (Γ':=[]) hs
  exact ⟨_,rfl,hs⟩
 intro ha1_
 have hs:=hs.pull 0 rfl
 have hs:=hs.pull 1 rfl
 have hs:St _ [_,_] _:=St.take (Γ':=[_]) hs
 refine QaL (I:=fun n_ t w=>∃ v16:Value,∃ x17:(List Int),∃ x18:Int,rounds (fun s=>QaN.b0 N a5 r9 a6 s.1 s.2) n_ (x17,x18)=some o1_∧Fr t (fun O=>([O 0,O 1,O 2,int .i64 a5,bool a6,O 5,O 6,O 7,O 8,O 9,O 10,v10,v16,int .i64 x18,O 14,O 15,O 16,O 17,O 18,O 19,O 20,O 21,O 22,O 23,O 24,O 25,O 26,O 27,O 28,O 29,O 30,O 31,O 32,O 33,O 34,O 35,O 36,O 37]:List Value))∧St w0 [Rows2 44 kHS (RowO 2 (K.int .i64)) v10 ms11 r9,Row 2 (K.int .i64) v16 x17] w) N ⟨v13,([]:List Int),a4,Ho,rfl,hs⟩ ?_ ?_
 ·
  rintro _ _ ⟨v16,x17,x18,h,_⟩
  exact rounds_zero h
 intro n_ ih1_
 rintro t w ⟨v16,x17,x18,Ho,hf,hs⟩
 obtain ⟨O,rfl⟩:=hf.open
 show G _ _ _ _ [_,_,_,_,_,_,_,_,_,_,_,_,_,_,_,_,_,_,_,_,_,_,_,_,_,_,_,_,_,_,_,_,_,_,_,_,_,_] _
 obtain ⟨x2_,H,Hx1_⟩:=rounds_succ Ho
 have H:QaN.b0 N a5 r9 a6 x17 x18=some x2_:=H
 unfold QaN.b0 at H
 refine Qad (Qad (Qag [0,1,2] rfl ?_))
 refine Qaa (v:=int .i64 x18) rfl rfl rfl ?_
 refine Qaa (v:=int .i64 a5) rfl rfl rfl ?_
 refine Qap (B:=decide (x18≤a5)) rfl rfl rfl ?_ ?_
 ·
  intro hb
  rw [if_pos (b_dec_t hb)] at H
  refine Qab (Qah rfl (Qay (Qad ?_)))
  refine Qax (J:=(fun t w=>∃ v25:Value,∃ x26:(List Int),QaN.j2 N x18 x26=some x2_∧Fr t (fun O=>([O 0,O 1,O 2,int .i64 a5,bool a6,O 5,O 6,O 7,O 8,O 9,O 10,v10,v25,int .i64 x18,O 14,O 15,O 16,O 17,O 18,O 19,O 20,O 21,O 22,O 23,O 24,O 25,O 26,O 27,O 28,O 29,O 30,O 31,O 32,O 33,O 34,O 35,O 36,O 37]:List Value))∧St w0 [Rows2 44 kHS (RowO 2 (K.int .i64)) v10 ms11 r9,Row 2 (K.int .i64) v25 x26] w)) ?_ ?_
  ·
   rintro t w ⟨v25,x26,H,hf,hs⟩
   obtain ⟨O,rfl⟩:=hf.open
   show G _ _ _ _ [_,_,_,_,_,_,_,_,_,_,_,_,_,_,_,_,_,_,_,_,_,_,_,_,_,_,_,_,_,_,_,_,_,_,_,_,_,_] _
   unfold QaN.j2 at H
   refine Qag [0,1,2] rfl ?_
   refine Qaa (v:=int .i64 x18) rfl rfl rfl ?_
   refine Qaa (v:=int .i64 (i64w (x18+1))) rfl rfl rfl ?_
   refine Qaa (v:=int .i64 (i64w (x18+1))) rfl rfl rfl (Qab ?_)
   obtain rfl:=QsJ H
   have hs:=hs.pull 1 rfl
   have hs:=hs.pull 1 rfl
   have hs:St _ [_,_] _:=St.take (Γ':=[]) hs
   exact ih1_ _ _ ⟨v25,x26,i64w (x18+1),Hx1_,rfl,hs⟩
  intro ha
  refine Qad (Qag [0,1,2,3,4,5,6,7] rfl ?_)
  refine Qaa (v:=v10) rfl rfl rfl ?_
  refine Qaa (v:=int .i64 x18) rfl rfl rfl ?_
  obtain ⟨g1,H⟩:=ite_get H
  refine Qbb fkHS zHS (hs.r2row 0 rfl) rfl (fun _=>rfl) g1.1 (hs.r2lt 0 rfl g1.2) rfl rfl rfl rfl rfl ?_
  intro p19 hp19 lp19 op19
  refine Qat rfl rfl (v:=slice (rdL ms11 x18 zHS).a (rdL ms11 x18 zHS).n (rdL ms11 x18 zHS).c) rfl rfl (fun _=>rfl) hp19 ?_
  show G _ _ _ _ [_,_,_,_,_,_,_,_,_,_,_,_,_,_,_,_,_,_,_,_,_,_,_,_,_,_,_,_,_,_,_,_,_,_,_,_,_,_] _
  obtain ⟨r20,Hr20,H⟩:=bind_get H
  refine QaB (args:=[slice (rdL ms11 x18 zHS).a (rdL ms11 x18 zHS).n (rdL ms11 x18 zHS).c]) rfl rfl (QaC rfl (callFunc_enter Tryz.func63 rfl rfl) rfl) (QaK.calls (a1:=rdL r9 x18 []) (hs.r2rd 0 rfl g1.1 g1.2) Hr20) ?_
  rintro _ w ⟨rfl,hs2⟩
  have hs:St _ [_,_] _:=hs.call hs2
  refine Qaa (v:=bool (decide (r20≥0))) rfl rfl rfl ?_
  refine Qaa (v:=bool a6) rfl rfl rfl ?_
  refine Qap (B:=(decide (r20≥0))==a6) rfl rfl rfl ?_ ?_
  ·
   intro hb
   rw [if_pos (b_beq_t hb)] at H
   refine Qab (Qah rfl (Qag [0,1,2,3,4] rfl ?_))
   refine Qaa (v:=v16) rfl rfl rfl ?_
   refine Qaa (v:=int .i64 x18) rfl rfl rfl ?_
   show G _ _ _ _ [_,_,_,_,_,_,_,_,_,_,_,_,_,_,_,_,_,_,_,_,_,_,_,_,_,_,_,_,_,_,_,_,_,_,_,_,_,_] _
   refine QbZ (fkI .i64) (y:=x18) hs rfl rfl rfl rfl (fun _=>rfl) (zv:=(int .i64 0)) (fun _=>rfl) rfl (by decide) (by decide) rfl ?_
   intro v21 w hs
   show G _ _ _ _ [_,_,_,_,_,_,_,_,_,_,_,_,_,_,_,_,_,_,_,_,_,_,_,_,_,_,_,_,_,_,_,_,_,_,_,_,_,_] _
   have hs:St _ [_,_,_] _:=hs.pull 2 rfl
   obtain ⟨g,H⟩:=ite_get H
   refine QbU (fkI .i64) (zv:=(int .i64 0)) (B:=8) hs (hs.row 1 rfl) rfl rfl rfl rfl rfl rfl rfl rfl rfl (by decide) rfl rfl (by decide) (by omega) ?_
   intro v23 w hs
   refine Qaa (v:=v23) rfl rfl rfl (Qab ?_)
   refine QaE ?_
   have hs:=hs.pull 0 rfl
   have hs:=hs.pull 2 rfl
   have hs:St _ [_,_] _:=St.take (Γ':=[_]) hs
   exact ha _ _ ⟨v23,x17++([x18]),H,rfl,hs⟩
  intro hb
  rw [if_neg (b_beq_f hb)] at H
  show G _ _ _ _ [_,_,_,_,_,_,_,_,_,_,_,_,_,_,_,_,_,_,_,_,_,_,_,_,_,_,_,_,_,_,_,_,_,_,_,_,_,_] _
  refine Qab (Qal rfl (Qay ?_))
  refine QaE ?_
  have hs:=hs.pull 1 rfl
  have hs:=hs.pull 1 rfl
  have hs:St _ [_,_] _:=St.take (Γ':=[]) hs
  exact ha _ _ ⟨v16,x17,H,rfl,hs⟩
 intro hb
 rw [if_neg (b_dec_f hb)] at H
 show G _ _ _ _ [_,_,_,_,_,_,_,_,_,_,_,_,_,_,_,_,_,_,_,_,_,_,_,_,_,_,_,_,_,_,_,_,_,_,_,_,_,_] _
 refine Qab (Qal rfl ?_)
 obtain rfl:=QsJ H
 subst Hx1_
 have hs:=hs.pull 1 rfl
 have hs:St _ [_] _:=St.take (Γ':=[_]) hs
 refine Qa7 rfl ?_
 exact ha1_ _ _ ⟨v16,x17,Hr1_,rfl,hs⟩
def Qbv.post (w0:World) (r:((List Int)×Int)) (v:Value) (w:World):Prop:=∃ u1:Value,v=tuple #[u1,int .i64 r.2]∧St w0 [Row 2 (K.int .i64) u1 r.1] w
theorem Qbv.calls {N:Nat} {a1:(List Int)} {a3:(Ar Int 4)} {a4:Int} {v2:Value} {w0:World} {r:((List Int)×Int)} (hr0:RdRow (K.int .i16) w0 v2 a1) (H:Qbv.f N a1 a3 a4=some r):
 Calls Tryz.prog 18 #[v2,agg ((encA (encI .i16)) a3).toArray,int .i64 a4] w0 fun e w=>∃ v,e= .returned v∧Qbv.post w0 r v w:=by
 unfold Qbv.f at H
 have hs:St w0 [] w0:=St.refl w0
 refine calls_of_g (n:=18) Tryz.func18 rfl rfl ?_
 show G _ _ _ _ [_,_,_,_,_,_,_,_,_,_,_,_,_,_,_,_,_,_,_,_,_] _
 refine Qad (Qag [0,1,2] rfl ?_)
 refine Qbq hs rfl rfl (cs:=((encA (encI .i16)) a3)) rfl rfl ?_
 intro b5 w hs
 refine Qaa (v:=slice none 0 0) rfl rfl rfl ?_
 show G _ _ _ _ [_,_,_,_,_,_,_,_,_,_,_,_,_,_,_,_,_,_,_,_,_] _
 refine Qaa (v:=int .i64 0) rfl rfl rfl (Qab (Qad (Qad (Qag [0,1,2,3,4] rfl ?_))))
 refine Qaa (v:=v2) rfl rfl rfl ?_
 refine QaG rfl rfl (es:=((encA (encI .i16)) a3)) rfl rfl (fun _=>rfl) (n:=4) (fun _=>rfl) ((fkA (n:=4) (he:=(fkI .i16).len) (h1:=(fkI .i16).one)).len _) (cells_all (hs.cells 0 rfl)) ?_
 show G _ _ _ _ [_,_,_,_,_,_,_,_,_,_,_,_,_,_,_,_,_,_,_,_,_] _
 refine Qaa (v:=int .i64 a4) rfl rfl rfl ?_
 obtain ⟨r7,Hr7,H⟩:=bind_get H
 refine QaB (args:=[v2,agg ((encA (encI .i16)) a3).toArray,int .i64 a4]) rfl rfl (QaC rfl (callFunc_enter Tryz.func45 rfl rfl) rfl) (QbA.calls (a1:=a1) (a3:=a3) (a4:=a4) (hs.rd hr0) Hr7) ?_
 rintro _ w ⟨rfl,hs2⟩
 have hs:St _ [_] _:=hs.call hs2
 refine Qaa (v:=int .i64 r7) rfl rfl rfl ?_
 show G _ _ _ _ [_,_,_,_,_,_,_,_,_,_,_,_,_,_,_,_,_,_,_,_,_] _
 refine Qab (Qad (Qag [0,1] rfl ?_))
 refine Qaa (v:=int .i64 r7) rfl rfl rfl ?_
 refine Qap (B:=r7 !=0) rfl rfl rfl ?_ ?_
 ·
  intro hb
  rw [if_neg (b_bne_t hb)] at H
  show G _ _ _ _ [_,_,_,_,_,_,_,_,_,_,_,_,_,_,_,_,_,_,_,_,_] _
  refine Qab (Qah rfl (Qad (Qag [0,1,2,3] rfl ?_)))
  refine QbV (κ:=(K.int .i64)) hs rfl rfl rfl rfl (fun _=>rfl) ?_
  intro v8 w hs
  refine Qaa (v:=int .i64 r7) rfl rfl rfl ?_
  refine Qaa (v:=v8) rfl rfl rfl ?_
  show G _ _ _ _ [_,_,_,_,_,_,_,_,_,_,_,_,_,_,_,_,_,_,_,_,_] _
  refine Qaa (v:=int .i64 r7) rfl rfl rfl (Qab ?_)
  obtain rfl:=QsJ H
  refine Qas Tryz.func18 (v:=tuple #[v8,int .i64 r7]) (resN (l:=Tryz.f18.results.toList) (vs:=[v8,int .i64 r7]) rfl ⟨rfl,rfl,trivial⟩ (by simp)) ?_
  have hs:=hs.pull 0 rfl
  have hs:St _ [_] _:=St.take (Γ':=[_]) hs
  exact ⟨_,rfl,v8,rfl,hs⟩
 intro hb
 rw [if_pos (b_bne_f hb)] at H
 refine Qab (Qal rfl (Qay (Qad (Qag [0,1,2,3,4,5] rfl ?_))))
 refine Qaa (v:=v2) rfl rfl rfl ?_
 show G _ _ _ _ [_,_,_,_,_,_,_,_,_,_,_,_,_,_,_,_,_,_,_,_,_] _
 refine QaG rfl rfl (es:=((encA (encI .i16)) a3)) rfl rfl (fun _=>rfl) (n:=4) (fun _=>rfl) ((fkA (n:=4) (he:=(fkI .i16).len) (h1:=(fkI .i16).one)).len _) (cells_all (hs.cells 0 rfl)) ?_
 refine Qaa (v:=int .i64 a4) rfl rfl rfl ?_
 obtain ⟨r10,Hr10,H⟩:=bind_get H
 refine QaB (args:=[v2,agg ((encA (encI .i16)) a3).toArray,int .i64 0,int .i64 a4,bool true]) rfl rfl (QaC rfl (callFunc_enter Tryz.func46 rfl rfl) rfl) (QaN.calls (a1:=a1) (a3:=a3) (a4:=0) (a5:=a4) (a6:=true) (hs.rd hr0) Hr10) ?_
 intro v11 w hs2
 have hs:St _ [_,_] _:=hs.call hs2
 show G _ _ _ _ [_,_,_,_,_,_,_,_,_,_,_,_,_,_,_,_,_,_,_,_,_] _
 refine Qaa (v:=v11) rfl rfl rfl ?_
 refine Qaa (v:=int .i64 0) rfl rfl rfl (Qab ?_)
 obtain rfl:=QsJ H
 refine Qas Tryz.func18 (v:=tuple #[v11,int .i64 0]) (resN (l:=Tryz.f18.results.toList) (vs:=[v11,int .i64 0]) rfl ⟨rfl,rfl,trivial⟩ (by simp)) ?_
 have hs:=hs.pull 0 rfl
 have hs:St _ [_] _:=St.take (Γ':=[_]) hs
 exact ⟨_,rfl,v11,rfl,hs⟩
def QbF.post (w0:World) (r:((List Int)×Int)) (v:Value) (w:World):Prop:=∃ u1:Value,v=tuple #[u1,int .i64 r.2]∧St w0 [Row 2 (K.int .i64) u1 r.1] w
theorem QbF.calls {N:Nat} {a1:(List Int)} {a3:(Ar Int 4)} {a4:Int} {v2:Value} {w0:World} {Q:((List Int)×Int)→Prop} (hr0:RdRow (K.int .i16) w0 v2 a1) (H:QbF.f N a1 a3 a4 Q):
 Calls Tryz.prog 19 #[v2,agg ((encA (encI .i16)) a3).toArray,int .i64 a4] w0 fun e w=>∃ v,e= .returned v∧∃ r,Q r∧QbF.post w0 r v w:=by
 unfold QbF.f at H
 have hs:St w0 [] w0:=St.refl w0
 refine calls_of_g (n:=17) Tryz.func19 rfl rfl ?_
 show G _ _ _ _ [_,_,_,_,_,_,_,_,_,_,_,_,_,_,_,_,_,_,_,_] _
 refine Qad (Qag [0,1,2] rfl ?_)
 refine Qbq hs rfl rfl (cs:=((encA (encI .i16)) a3)) rfl rfl ?_
 intro b5 w hs
 refine Qaa (v:=slice none 0 0) rfl rfl rfl ?_
 show G _ _ _ _ [_,_,_,_,_,_,_,_,_,_,_,_,_,_,_,_,_,_,_,_] _
 refine Qaa (v:=int .i64 0) rfl rfl rfl (Qab (Qad (Qad (Qag [0,1,2,3,4] rfl ?_))))
 refine Qaa (v:=v2) rfl rfl rfl ?_
 refine QaG rfl rfl (es:=((encA (encI .i16)) a3)) rfl rfl (fun _=>rfl) (n:=4) (fun _=>rfl) ((fkA (n:=4) (he:=(fkI .i16).len) (h1:=(fkI .i16).one)).len _) (cells_all (hs.cells 0 rfl)) ?_
 show G _ _ _ _ [_,_,_,_,_,_,_,_,_,_,_,_,_,_,_,_,_,_,_,_] _
 refine Qaa (v:=int .i64 a4) rfl rfl rfl ?_
 obtain ⟨r7,Hr7,H⟩:=H
 refine QaB (args:=[v2,agg ((encA (encI .i16)) a3).toArray,int .i64 a4]) rfl rfl (QaC rfl (callFunc_enter Tryz.func43 rfl rfl) rfl) (Qbk.calls (a1:=a1) (a3:=a3) (a4:=a4) (hs.rd hr0) Hr7) ?_
 rintro _ w ⟨rfl,hs2⟩
 have hs:St _ [_] _:=hs.call hs2
 refine Qaa (v:=int .i64 r7) rfl rfl rfl ?_
 show G _ _ _ _ [_,_,_,_,_,_,_,_,_,_,_,_,_,_,_,_,_,_,_,_] _
 refine Qab (Qad (Qag [0,1] rfl ?_))
 refine Qaa (v:=int .i64 r7) rfl rfl rfl ?_
 refine Qap (B:=r7 !=0) rfl rfl rfl ?_ ?_
 ·
  intro hb
  rw [if_neg (b_bne_t hb)] at H
  show G _ _ _ _ [_,_,_,_,_,_,_,_,_,_,_,_,_,_,_,_,_,_,_,_] _
  refine Qab (Qah rfl (Qad (Qag [0,1,2] rfl ?_)))
  refine Qaa (v:=int .i64 r7) rfl rfl rfl ?_
  refine Qaa (v:=slice none 0 0) rfl rfl rfl ?_
  refine Qaa (v:=int .i64 r7) rfl rfl rfl ?_
  show G _ _ _ _ [_,_,_,_,_,_,_,_,_,_,_,_,_,_,_,_,_,_,_,_] _
  refine Qab ?_
  refine Qas Tryz.func19 (v:=tuple #[slice none 0 0,int .i64 r7]) (resN (l:=Tryz.f19.results.toList) (vs:=[slice none 0 0,int .i64 r7]) rfl ⟨rfl,rfl,trivial⟩ (by simp)) ?_
  have hs:=hs.nil 2 (K.int .i64)
  have hs:=hs.pull 0 rfl
  have hs:St _ [_] _:=St.take (Γ':=[_]) hs
  exact ⟨_,rfl,_,H,(slice none 0 0),rfl,hs⟩
 intro hb
 rw [if_pos (b_bne_f hb)] at H
 refine Qab (Qal rfl (Qay (Qad (Qag [0,1,2,3,4,5] rfl ?_))))
 refine Qaa (v:=v2) rfl rfl rfl ?_
 show G _ _ _ _ [_,_,_,_,_,_,_,_,_,_,_,_,_,_,_,_,_,_,_,_] _
 refine QaG rfl rfl (es:=((encA (encI .i16)) a3)) rfl rfl (fun _=>rfl) (n:=4) (fun _=>rfl) ((fkA (n:=4) (he:=(fkI .i16).len) (h1:=(fkI .i16).one)).len _) (cells_all (hs.cells 0 rfl)) ?_
 refine Qaa (v:=int .i64 a4) rfl rfl rfl ?_
 refine QaB (args:=[v2,agg ((encA (encI .i16)) a3).toArray,int .i64 a4,bool false]) rfl rfl (QaC rfl (callFunc_enter Tryz.func44 rfl rfl) rfl) (Qau.calls (a1:=a1) (a3:=a3) (a4:=a4) (a5:=false) (hs.rd hr0) H) ?_
 rintro v9 w ⟨r8,H,hs2⟩
 try dsimp only at H
 have hs:St _ [_,_] _:=hs.call hs2
 show G _ _ _ _ [_,_,_,_,_,_,_,_,_,_,_,_,_,_,_,_,_,_,_,_] _
 refine Qaa (v:=v9) rfl rfl rfl ?_
 refine Qaa (v:=int .i64 0) rfl rfl rfl (Qab ?_)
 refine Qas Tryz.func19 (v:=tuple #[v9,int .i64 0]) (resN (l:=Tryz.f19.results.toList) (vs:=[v9,int .i64 0]) rfl ⟨rfl,rfl,trivial⟩ (by simp)) ?_
 have hs:=hs.pull 0 rfl
 have hs:St _ [_] _:=St.take (Γ':=[_]) hs
 exact ⟨_,rfl,_,H,v9,rfl,hs⟩
def Qa4.post (w0:World) (r:Bool) (v:Value) (w:World):Prop:=v=bool r∧St w0 [] w
theorem Qa4.calls {N:Nat} {a1:(List Int)} {a3:(List Int)} {v2:Value} {v4:Value} {w0:World} {r:Bool} (hr0:RdRow (K.int .i64) w0 v2 a1) (hr1:RdRow (K.int .i64) w0 v4 a3) (H:Qa4.f N a1 a3=some r):
 Calls Tryz.prog 47 #[v2,v4] w0 fun e w=>∃ v,e= .returned v∧Qa4.post w0 r v w:=by
 unfold Qa4.f at H
 have hs:St w0 [] w0:=St.refl w0
 refine calls_of_g (n:=24) Tryz.func47 rfl rfl ?_
 show G _ _ _ _ [_,_,_,_,_,_,_,_,_,_,_,_,_,_,_,_,_,_,_,_,_,_,_,_,_,_] _
 refine Qad (Qag [0] rfl ?_)
 refine Qaa (v:=bool false) rfl rfl rfl (Qab (Qad (Qad (Qag [0,1,2,3,4] rfl ?_))))
 refine Qaa (v:=v2) rfl rfl rfl ?_
 refine Qbc (hs.rd hr0) rfl rfl rfl rfl rfl ?_
 refine Qaa (v:=v4) rfl rfl rfl ?_
 refine Qbc (hs.rd hr1) rfl rfl rfl rfl rfl ?_
 show G _ _ _ _ [_,_,_,_,_,_,_,_,_,_,_,_,_,_,_,_,_,_,_,_,_,_,_,_,_,_] _
 refine Qap (B:=(a1.length:Int) !=(a3.length:Int)) rfl rfl rfl ?_ ?_
 ·
  intro hb
  rw [if_neg (b_bne_t hb)] at H
  show G _ _ _ _ [_,_,_,_,_,_,_,_,_,_,_,_,_,_,_,_,_,_,_,_,_,_,_,_,_,_] _
  refine Qab (Qah rfl (Qad (Qag [0] rfl ?_)))
  refine Qaa (v:=bool false) rfl rfl rfl (Qab ?_)
  obtain rfl:=QsJ H
  refine Qas Tryz.func47 (v:=bool false) (res1 rfl rfl) ?_
  have hs:St _ [] _:=St.take (Γ':=[]) hs
  exact ⟨_,rfl,rfl,hs⟩
 intro hb
 rw [if_pos (b_bne_f hb)] at H
 refine Qab (Qal rfl (Qay (Qad (Qad (Qag [0] rfl ?_)))))
 refine Qaa (v:=int .i64 0) rfl rfl rfl (Qab ?_)
 obtain ⟨o1_,Ho,Hr1_⟩:=bind_get H
 refine Qax (J:=fun t w=>Qa4.a0 N=some r∧Fr t (fun O=>([O 0,O 1,O 2,O 3,O 4,O 5,O 6,O 7,O 8,O 9,O 10,O 11,O 12,O 13,O 14,O 15,O 16,O 17,O 18,O 19,O 20,O 21,O 22,O 23,O 24,O 25]:List Value))∧St w0 [] w) ?_ ?_
 ·
  rintro t w ⟨H,hf,hs⟩
  obtain ⟨O,rfl⟩:=hf.open
  show G _ _ _ _ [_,_,_,_,_,_,_,_,_,_,_,_,_,_,_,_,_,_,_,_,_,_,_,_,_,_] _
  unfold Qa4.a0 at H
  refine Qad (Qag [0] rfl ?_)
  refine Qaa (v:=bool true) rfl rfl rfl (Qab ?_)
  obtain rfl:=QsJ H
  refine Qas Tryz.func47 (v:=bool true) (res1 rfl rfl) ?_
  have hs:St _ [] _:=St.take (Γ':=[]) hs
  exact ⟨_,rfl,rfl,hs⟩
 intro ha1_
 have hs:St _ [] _:=St.take (Γ':=[]) hs
 refine QaL (I:=fun n_ t w=>∃ x5:Int,rounds (fun s=>Qa4.b0 N a1 a3 s) n_ x5=some o1_∧Fr t (fun O=>([v2,v4,O 2,O 3,O 4,int .i64 x5,O 6,O 7,O 8,O 9,O 10,O 11,O 12,O 13,O 14,O 15,O 16,O 17,O 18,O 19,O 20,O 21,O 22,O 23,O 24,O 25]:List Value))∧St w0 [] w) N ⟨0,Ho,rfl,hs⟩ ?_ ?_
 ·
  rintro _ _ ⟨x5,h,_⟩
  exact rounds_zero h
 intro n_ ih1_
 rintro t w ⟨x5,Ho,hf,hs⟩
 obtain ⟨O,rfl⟩:=hf.open
 show G _ _ _ _ [_,_,_,_,_,_,_,_,_,_,_,_,_,_,_,_,_,_,_,_,_,_,_,_,_,_] _
 obtain ⟨x7_,H,Hx1_⟩:=rounds_succ Ho
 have H:Qa4.b0 N a1 a3 x5=some x7_:=H
 unfold Qa4.b0 at H
 refine Qad (Qad (Qag [0,1,2,3] rfl ?_))
 refine Qaa (v:=int .i64 x5) rfl rfl rfl ?_
 refine Qaa (v:=v2) rfl rfl rfl ?_
 refine Qbc (hs.rd hr0) rfl rfl rfl rfl rfl ?_
 show G _ _ _ _ [_,_,_,_,_,_,_,_,_,_,_,_,_,_,_,_,_,_,_,_,_,_,_,_,_,_] _
 refine Qap (B:=decide (x5< (a1.length:Int))) rfl rfl rfl ?_ ?_
 ·
  intro hb
  rw [if_pos (b_dec_t hb)] at H
  refine Qab (Qah rfl (Qay (Qad ?_)))
  refine Qbh (Qad ?_)
  refine Qb2 (n:=9) rfl [0,1,2,3,4,5,6,7,8] [0,1,2,3,4,5,6,7,8] rfl rfl ?_
  intro rest w hh hbw hO
  have hs:=hs.samew hh hbw
  show G _ _ _ _ [_,_,_,_,_,_,_,_,_,_,_,_,_,_,_,_,_,_,_,_,_,_,_,_,_,_] _
  obtain ⟨gd2,H⟩:=ite_get H
  obtain ⟨ad3_,ad3_N,ad3_C,had3_⟩:=sl_at (hs.rd hr0) gd2.1 gd2.2
  obtain ⟨gd4,H⟩:=ite_get H
  obtain ⟨ad5_,ad5_N,ad5_C,had5_⟩:=sl_at (hs.rd hr1) gd4.1 gd4.2
  refine Qbe ?_
  intro T hT
  refine QbB (m0:=0) hO rfl 255 [0,1,2,3,4,5,6,7] [0,0,3,7,0,0,48,112,255] (by decide+kernel) (fun D t w=>∃ O:Nat→Value,t=[v2,v4,O 2,O 3,O 4,int .i64 x5,O 6,O 7,O 8,O 9,O 10,int .i64 x5,v2,int .i64 (a1.length:Int),bool true,O 15,O 16,cnd (D 0) v2 (O 17),cnd (D 1) (int .i64 x5) (O 18),cnd (D 2) (pointer (some (ad3_.add (x5.toNat*1)))) (O 19),cnd (D 3) (int .i64 (rdL a1 x5 0)) (O 20),cnd (D 4) v4 (O 21),cnd (D 5) (int .i64 x5) (O 22),cnd (D 6) (pointer (some (ad5_.add (x5.toNat*1)))) (O 23),cnd (D 7) (int .i64 (rdL a3 x5 0)) (O 24),O 25]∧St w0 [] w) ?_ ⟨?_,⟨?_,⟨?_,⟨?_,⟨?_,⟨?_,⟨?_,⟨?_,trivial⟩⟩⟩⟩⟩⟩⟩⟩ ?_
  ·exact ⟨fun i=>T.getD i undef,(by subst hT;rfl),hs⟩
  ·
   rintro D t w hD hp hcl ⟨O,ht,hs⟩ rest hk
   have hp:AllDone D []:=hp
   have q2_:=ny hcl 2 0 hD
   have q3_:=ny hcl 3 0 q2_
   simp only [hD,q2_,q3_,cq,oT] at ht hs
   subst ht
   refine Qaa (v:=v2) rfl rfl rfl ?_
   show G _ _ _ _ [_,_,_,_,_,_,_,_,_,_,_,_,_,_,_,_,_,_,_,_,_,_,_,_,_,_] _
   refine hk _ _ ⟨O,?_,hs.cast ?_⟩<;>simp only [oT,lq,cq,Nat.reduceBEq,q2_,q3_]
  ·
   rintro D t w hD hp hcl ⟨O,ht,hs⟩ rest hk
   have hp:AllDone D []:=hp
   have q2_:=ny hcl 2 1 hD
   have q3_:=ny hcl 3 0 q2_
   simp only [hD,q2_,q3_,cq,oT] at ht hs
   subst ht
   refine Qaa (v:=int .i64 x5) rfl rfl rfl ?_
   show G _ _ _ _ [_,_,_,_,_,_,_,_,_,_,_,_,_,_,_,_,_,_,_,_,_,_,_,_,_,_] _
   refine hk _ _ ⟨O,?_,hs.cast ?_⟩<;>simp only [oT,lq,cq,Nat.reduceBEq,q2_,q3_]
  ·
   rintro D t w hD hp hcl ⟨O,ht,hs⟩ rest hk
   have hp:AllDone D [0,1]:=hp
   obtain ⟨p0_,p1_,_⟩:=hp
   have q3_:=ny hcl 3 0 hD
   simp only [hD,p0_,p1_,q3_,cq,oT] at ht hs
   subst ht
   refine Qby (κ:=(K.int .i64)) (m:=1) rfl (hs.rd hr0) rfl (fun _=>rfl) gd2.1 gd2.2 had3_ rfl rfl rfl rfl rfl ?_
   show G _ _ _ _ [_,_,_,_,_,_,_,_,_,_,_,_,_,_,_,_,_,_,_,_,_,_,_,_,_,_] _
   refine hk _ _ ⟨O,?_,hs.cast ?_⟩<;>simp only [oT,lq,cq,Nat.reduceBEq,p0_,p1_,q3_]
  ·
   rintro D t w hD hp hcl ⟨O,ht,hs⟩ rest hk
   have hp:AllDone D [2]:=hp
   obtain ⟨p2_,_⟩:=hp
   obtain ⟨p0_,p1_,_⟩:=(show D 2=true→AllDone D [0,1] from hcl 2 (by decide)) p2_
   simp only [hD,p0_,p1_,p2_,cq,oT] at ht hs
   subst ht
   refine Qat rfl rfl (v:=int .i64 (rdL a1 x5 0)) rfl rfl (fun _=>rfl) (cellsAt_of (fkI .i64) 0 (hs.rd hr0) had3_ gd2.1 gd2.2) ?_
   show G _ _ _ _ [_,_,_,_,_,_,_,_,_,_,_,_,_,_,_,_,_,_,_,_,_,_,_,_,_,_] _
   refine hk _ _ ⟨O,?_,hs.cast ?_⟩<;>simp only [oT,lq,cq,Nat.reduceBEq,p0_,p1_,p2_]
  ·
   rintro D t w hD hp hcl ⟨O,ht,hs⟩ rest hk
   have hp:AllDone D []:=hp
   have q6_:=ny hcl 6 0 hD
   have q7_:=ny hcl 7 0 q6_
   simp only [hD,q6_,q7_,cq,oT] at ht hs
   subst ht
   refine Qaa (v:=v4) rfl rfl rfl ?_
   show G _ _ _ _ [_,_,_,_,_,_,_,_,_,_,_,_,_,_,_,_,_,_,_,_,_,_,_,_,_,_] _
   refine hk _ _ ⟨O,?_,hs.cast ?_⟩<;>simp only [oT,lq,cq,Nat.reduceBEq,q6_,q7_]
  ·
   rintro D t w hD hp hcl ⟨O,ht,hs⟩ rest hk
   have hp:AllDone D []:=hp
   have q6_:=ny hcl 6 1 hD
   have q7_:=ny hcl 7 0 q6_
   simp only [hD,q6_,q7_,cq,oT] at ht hs
   subst ht
   refine Qaa (v:=int .i64 x5) rfl rfl rfl ?_
   show G _ _ _ _ [_,_,_,_,_,_,_,_,_,_,_,_,_,_,_,_,_,_,_,_,_,_,_,_,_,_] _
   refine hk _ _ ⟨O,?_,hs.cast ?_⟩<;>simp only [oT,lq,cq,Nat.reduceBEq,q6_,q7_]
  ·
   rintro D t w hD hp hcl ⟨O,ht,hs⟩ rest hk
   have hp:AllDone D [4,5]:=hp
   obtain ⟨p4_,p5_,_⟩:=hp
   have q7_:=ny hcl 7 0 hD
   simp only [hD,p4_,p5_,q7_,cq,oT] at ht hs
   subst ht
   refine Qby (κ:=(K.int .i64)) (m:=1) rfl (hs.rd hr1) rfl (fun _=>rfl) gd4.1 gd4.2 had5_ rfl rfl rfl rfl rfl ?_
   show G _ _ _ _ [_,_,_,_,_,_,_,_,_,_,_,_,_,_,_,_,_,_,_,_,_,_,_,_,_,_] _
   refine hk _ _ ⟨O,?_,hs.cast ?_⟩<;>simp only [oT,lq,cq,Nat.reduceBEq,p4_,p5_,q7_]
  ·
   rintro D t w hD hp hcl ⟨O,ht,hs⟩ rest hk
   have hp:AllDone D [6]:=hp
   obtain ⟨p6_,_⟩:=hp
   obtain ⟨p4_,p5_,_⟩:=(show D 6=true→AllDone D [4,5] from hcl 6 (by decide)) p6_
   simp only [hD,p4_,p5_,p6_,cq,oT] at ht hs
   subst ht
   refine Qat rfl rfl (v:=int .i64 (rdL a3 x5 0)) rfl rfl (fun _=>rfl) (cellsAt_of (fkI .i64) 0 (hs.rd hr1) had5_ gd4.1 gd4.2) ?_
   show G _ _ _ _ [_,_,_,_,_,_,_,_,_,_,_,_,_,_,_,_,_,_,_,_,_,_,_,_,_,_] _
   refine hk _ _ ⟨O,?_,hs.cast ?_⟩<;>simp only [oT,lq,cq,Nat.reduceBEq,p4_,p5_,p6_]
  intro D t w rest hall hO1_ hI
  obtain ⟨O,ht,hs⟩:=hI
  have p0_:=hall 0 (by decide) rfl
  have p1_:=hall 1 (by decide) rfl
  have p2_:=hall 2 (by decide) rfl
  have p3_:=hall 3 (by decide) rfl
  have p4_:=hall 4 (by decide) rfl
  have p5_:=hall 5 (by decide) rfl
  have p6_:=hall 6 (by decide) rfl
  have p7_:=hall 7 (by decide) rfl
  simp only [p0_,p1_,p2_,p3_,p4_,p5_,p6_,p7_,cq,oT] at ht hs
  subst ht
  obtain ⟨rest,rfl,hO6_⟩:=ord_one (m:=255) hO1_ rfl 8 (m':=511) (by decide+kernel) rfl
  clear hO1_
  refine Qap (B:=(rdL a1 x5 0) !=(rdL a3 x5 0)) rfl rfl rfl ?_ ?_
  ·
   intro hb
   rw [if_neg (b_bne_t hb)] at H
   show G _ _ _ _ [_,_,_,_,_,_,_,_,_,_,_,_,_,_,_,_,_,_,_,_,_,_,_,_,_,_] _
   obtain rfl:=ord_end hO6_ rfl (by decide+kernel)
   refine Qab (Qah rfl (Qad (Qag [0] rfl ?_)))
   refine Qaa (v:=bool false) rfl rfl rfl (Qab ?_)
   obtain rfl:=QsJ H
   subst Hx1_
   have H:=QsJ Hr1_
   subst H
   refine Qas Tryz.func47 (v:=bool false) (res1 rfl rfl) ?_
   have hs:St _ [] _:=St.take (Γ':=[]) hs
   exact ⟨_,rfl,rfl,hs⟩
  intro hb
  rw [if_pos (b_bne_f hb)] at H
  show G _ _ _ _ [_,_,_,_,_,_,_,_,_,_,_,_,_,_,_,_,_,_,_,_,_,_,_,_,_,_] _
  obtain rfl:=ord_end hO6_ rfl (by decide+kernel)
  refine Qab (Qal rfl (Qay ?_))
  refine QaE (Qag [0,1,2] rfl ?_)
  refine Qaa (v:=int .i64 x5) rfl rfl rfl ?_
  refine Qaa (v:=int .i64 (i64w (x5+1))) rfl rfl rfl ?_
  refine Qaa (v:=int .i64 (i64w (x5+1))) rfl rfl rfl (Qab ?_)
  obtain rfl:=QsJ H
  have hs:St _ [] _:=St.take (Γ':=[]) hs
  exact ih1_ _ _ ⟨i64w (x5+1),Hx1_,rfl,hs⟩
 intro hb
 rw [if_neg (b_dec_f hb)] at H
 refine Qab (Qal rfl ?_)
 obtain rfl:=QsJ H
 subst Hx1_
 have hs:St _ [] _:=St.take (Γ':=[]) hs
 refine Qa7 rfl ?_
 exact ha1_ _ _ ⟨Hr1_,rfl,hs⟩
def QbH.post (w0:World) (r:Bool) (v:Value) (w:World):Prop:=v=bool r∧St w0 [] w
theorem QbH.calls {N:Nat} {a1:(List Int)} {a3:(List Int)} {v2:Value} {v4:Value} {w0:World} {r:Bool} (hr0:RdRow (K.int .i64) w0 v2 a1) (hr1:RdRow (K.int .i64) w0 v4 a3) (H:QbH.f N a1 a3=some r):
 Calls Tryz.prog 20 #[v2,v4] w0 fun e w=>∃ v,e= .returned v∧QbH.post w0 r v w:=by
 unfold QbH.f at H
 have hs:St w0 [] w0:=St.refl w0
 refine calls_of_g (n:=6) Tryz.func20 rfl rfl ?_
 show G _ _ _ _ [_,_,_,_,_,_,_,_] _
 refine Qad (Qag [0] rfl ?_)
 refine Qaa (v:=bool false) rfl rfl rfl (Qab (Qad (Qag [0,1,2,3] rfl ?_)))
 refine Qaa (v:=v2) rfl rfl rfl ?_
 show G _ _ _ _ [_,_,_,_,_,_,_,_] _
 refine Qaa (v:=v4) rfl rfl rfl ?_
 obtain ⟨r5,Hr5,H⟩:=bind_get H
 refine QaB (args:=[v2,v4]) rfl rfl (QaC rfl (callFunc_enter Tryz.func47 rfl rfl) rfl) (Qa4.calls (a1:=a1) (a3:=a3) (hs.rd hr0) (hs.rd hr1) Hr5) ?_
 rintro _ w ⟨rfl,hs2⟩
 have hs:St _ [] _:=hs.call hs2
 refine Qaa (v:=bool r5) rfl rfl rfl ?_
 show G _ _ _ _ [_,_,_,_,_,_,_,_] _
 refine Qab ?_
 obtain rfl:=QsJ H
 refine Qas Tryz.func20 (v:=bool r5) (res1 rfl rfl) ?_
 have hs:St _ [] _:=St.take (Γ':=[]) hs
 exact ⟨_,rfl,rfl,hs⟩
def Qa6.post (w0:World) (r:Bool) (v:Value) (w:World):Prop:=v=bool r∧St w0 [] w
theorem Qa6.calls {N:Nat} {a1:(List Int)} {a3:Int} {v2:Value} {w0:World} {r:Bool} (hr0:RdRow (K.int .i64) w0 v2 a1) (H:Qa6.f N a1 a3=some r):
 Calls Tryz.prog 21 #[v2,int .i64 a3] w0 fun e w=>∃ v,e= .returned v∧Qa6.post w0 r v w:=by
 unfold Qa6.f at H
 have hs:St w0 [] w0:=St.refl w0
 refine calls_of_g (n:=16) Tryz.func21 rfl rfl ?_
 show G _ _ _ _ [_,_,_,_,_,_,_,_,_,_,_,_,_,_,_,_,_,_] _
 refine Qad (Qag [0] rfl ?_)
 refine Qaa (v:=bool false) rfl rfl rfl ?_
 show G _ _ _ _ [_,_,_,_,_,_,_,_,_,_,_,_,_,_,_,_,_,_] _
 refine Qab (Qad (Qad (Qag [0] rfl ?_)))
 refine Qaa (v:=int .i64 0) rfl rfl rfl (Qab ?_)
 obtain ⟨o1_,Ho,Hr1_⟩:=bind_get H
 refine Qax (J:=fun t w=>Qa6.a0 N=some r∧Fr t (fun O=>([O 0,O 1,O 2,O 3,O 4,O 5,O 6,O 7,O 8,O 9,O 10,O 11,O 12,O 13,O 14,O 15,O 16,O 17]:List Value))∧St w0 [] w) ?_ ?_
 ·
  rintro t w ⟨H,hf,hs⟩
  obtain ⟨O,rfl⟩:=hf.open
  show G _ _ _ _ [_,_,_,_,_,_,_,_,_,_,_,_,_,_,_,_,_,_] _
  unfold Qa6.a0 at H
  refine Qad (Qag [0] rfl ?_)
  refine Qaa (v:=bool false) rfl rfl rfl ?_
  show G _ _ _ _ [_,_,_,_,_,_,_,_,_,_,_,_,_,_,_,_,_,_] _
  refine Qab ?_
  obtain rfl:=QsJ H
  refine Qas Tryz.func21 (v:=bool false) (res1 rfl rfl) ?_
  have hs:St _ [] _:=St.take (Γ':=[]) hs
  exact ⟨_,rfl,rfl,hs⟩
 intro ha1_
 have hs:St _ [] _:=St.take (Γ':=[]) hs
 refine QaL (I:=fun n_ t w=>∃ x4:Int,rounds (fun s=>Qa6.b0 N a1 a3 s) n_ x4=some o1_∧Fr t (fun O=>([v2,int .i64 a3,O 2,O 3,O 4,int .i64 x4,O 6,O 7,O 8,O 9,O 10,O 11,O 12,O 13,O 14,O 15,O 16,O 17]:List Value))∧St w0 [] w) N ⟨0,Ho,rfl,hs⟩ ?_ ?_
 ·
  rintro _ _ ⟨x4,h,_⟩
  exact rounds_zero h
 intro n_ ih1_
 rintro t w ⟨x4,Ho,hf,hs⟩
 obtain ⟨O,rfl⟩:=hf.open
 show G _ _ _ _ [_,_,_,_,_,_,_,_,_,_,_,_,_,_,_,_,_,_] _
 obtain ⟨x2_,H,Hx1_⟩:=rounds_succ Ho
 have H:Qa6.b0 N a1 a3 x4=some x2_:=H
 unfold Qa6.b0 at H
 refine Qad (Qad (Qag [0,1,2,3] rfl ?_))
 refine Qaa (v:=int .i64 x4) rfl rfl rfl ?_
 refine Qaa (v:=v2) rfl rfl rfl ?_
 show G _ _ _ _ [_,_,_,_,_,_,_,_,_,_,_,_,_,_,_,_,_,_] _
 refine Qbc (hs.rd hr0) rfl rfl rfl rfl rfl ?_
 refine Qap (B:=decide (x4< (a1.length:Int))) rfl rfl rfl ?_ ?_
 ·
  intro hb
  rw [if_pos (b_dec_t hb)] at H
  show G _ _ _ _ [_,_,_,_,_,_,_,_,_,_,_,_,_,_,_,_,_,_] _
  refine Qab (Qah rfl (Qay (Qad ?_)))
  refine Qbh (Qad (Qag [0,1,2,3,4,5] rfl ?_))
  refine Qaa (v:=v2) rfl rfl rfl ?_
  refine Qaa (v:=int .i64 x4) rfl rfl rfl ?_
  obtain ⟨g1,H⟩:=ite_get H
  refine Qbb (fkI .i64) 0 (hs.rd hr0) rfl (fun _=>rfl) g1.1 g1.2 rfl rfl rfl rfl rfl ?_
  intro p5 hp5 lp5 op5
  show G _ _ _ _ [_,_,_,_,_,_,_,_,_,_,_,_,_,_,_,_,_,_] _
  refine Qat rfl rfl (v:=int .i64 (rdL a1 x4 0)) rfl rfl (fun _=>rfl) hp5 ?_
  refine Qaa (v:=int .i64 a3) rfl rfl rfl ?_
  refine Qap (B:=(rdL a1 x4 0)==a3) rfl rfl rfl ?_ ?_
  ·
   intro hb
   rw [if_pos (b_beq_t hb)] at H
   refine Qab (Qah rfl (Qad (Qag [0] rfl ?_)))
   refine Qaa (v:=bool true) rfl rfl rfl (Qab ?_)
   obtain rfl:=QsJ H
   subst Hx1_
   have H:=QsJ Hr1_
   subst H
   refine Qas Tryz.func21 (v:=bool true) (res1 rfl rfl) ?_
   have hs:St _ [] _:=St.take (Γ':=[]) hs
   exact ⟨_,rfl,rfl,hs⟩
  intro hb
  rw [if_neg (b_beq_f hb)] at H
  show G _ _ _ _ [_,_,_,_,_,_,_,_,_,_,_,_,_,_,_,_,_,_] _
  refine Qab (Qal rfl (Qay ?_))
  refine QaE (Qag [0,1,2] rfl ?_)
  refine Qaa (v:=int .i64 x4) rfl rfl rfl ?_
  refine Qaa (v:=int .i64 (i64w (x4+1))) rfl rfl rfl ?_
  refine Qaa (v:=int .i64 (i64w (x4+1))) rfl rfl rfl ?_
  show G _ _ _ _ [_,_,_,_,_,_,_,_,_,_,_,_,_,_,_,_,_,_] _
  refine Qab ?_
  obtain rfl:=QsJ H
  have hs:St _ [] _:=St.take (Γ':=[]) hs
  exact ih1_ _ _ ⟨i64w (x4+1),Hx1_,rfl,hs⟩
 intro hb
 rw [if_neg (b_dec_f hb)] at H
 refine Qab (Qal rfl ?_)
 obtain rfl:=QsJ H
 subst Hx1_
 have hs:St _ [] _:=St.take (Γ':=[]) hs
 refine Qa7 rfl ?_
 exact ha1_ _ _ ⟨Hr1_,rfl,hs⟩
end Go.Proofs.YtgoninfjneepfaaGreatDoorX
