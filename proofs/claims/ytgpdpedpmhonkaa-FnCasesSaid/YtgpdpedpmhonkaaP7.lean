import Derived.Test.YtgpdpedpmhonkaaProg
import Derived.Test.YtgpdpedpmhonkaaP3
import Derived.Test.YtgpdpedpmhonkaaP4
import Derived.Test.YtgpdpedpmhonkaaP5
import Derived.Test.YtgpdpedpmhonkaaP6
namespace Go.Proofs.YtgpdpedpmhonkaaX
open Go Go.RowKit Go.Proofs
open Go.Value (int pointer bool agg slice string tuple)
set_option maxHeartbeats 8000000
set_option maxRecDepth 100000
set_option linter.unusedVariables false
set_option linter.unusedSimpArgs false
def Qbd.post (w0:World) (r:(List Qai)) (v:Value) (w:World):Prop:=St w0 [Row 53 Qah v r] w
theorem Qbd.calls {N:Nat} {a1:Qaq} {w0:World} {r:(List Qai)} (H:Qbd.f N a1=some r):
 Calls Try.prog 40 #[agg (Qae a1).toArray] w0 fun e w=>∃ v,e= .returned v∧Qbd.post w0 r v w:=by
 unfold Qbd.f at H
 have hs:St w0 [] w0:=St.refl w0
 refine calls_of_g (n:=34) Try.func40 rfl rfl ?_
 show G _ _ _ _ [_,_,_,_,_,_,_,_,_,_,_,_,_,_,_,_,_,_,_,_,_,_,_,_,_,_,_,_,_,_,_,_,_,_,_] _
 refine Qag (Qan [0,1] rfl ?_)
 refine Qbw hs rfl rfl (cs:=(Qae a1)) rfl rfl ?_
 intro b2 w hs
 show G _ _ _ _ [_,_,_,_,_,_,_,_,_,_,_,_,_,_,_,_,_,_,_,_,_,_,_,_,_,_,_,_,_,_,_,_,_,_,_] _
 refine Qab (v:=slice none 0 0) rfl rfl rfl (Qaa (Qag (Qan [0,1] rfl ?_)))
 refine QcU (κ:=Qah) hs rfl rfl rfl rfl (fun _=>rfl) ?_
 intro v4 w hs
 refine Qab (v:=v4) rfl rfl rfl ?_
 show G _ _ _ _ [_,_,_,_,_,_,_,_,_,_,_,_,_,_,_,_,_,_,_,_,_,_,_,_,_,_,_,_,_,_,_,_,_,_,_] _
 refine Qaa (Qag (Qag ?_))
 refine QcB (J:=(fun t w=>∃ v10:Value,∃ x11:(List Qai),Qbd.j0 N a1 x11=some r∧Fr t (fun O=>([O 0,pointer (some ⟨b2,0,none⟩),O 2,v10,O 4,O 5,O 6,O 7,O 8,O 9,O 10,O 11,O 12,O 13,O 14,O 15,O 16,O 17,O 18,O 19,O 20,O 21,O 22,O 23,O 24,O 25,O 26,O 27,O 28,O 29,O 30,O 31,O 32,O 33,O 34]:List Value))∧St w0 [Cells b2 (Qae a1) 27,Row 53 Qah v10 x11] w)) ?_ ?_
 ·
  rintro t w ⟨v10,x11,H,hf,hs⟩
  obtain ⟨O,rfl⟩:=hf.open
  show G _ _ _ _ [_,_,_,_,_,_,_,_,_,_,_,_,_,_,_,_,_,_,_,_,_,_,_,_,_,_,_,_,_,_,_,_,_,_,_] _
  unfold Qbd.j0 at H
  refine Qag (Qag (Qan [0] rfl ?_))
  refine Qab (v:=int .i8 0) rfl rfl rfl (Qaa ?_)
  obtain ⟨o1_,Ho,Hr1_⟩:=bind_get H
  refine Qa2 (J:=fun t w=>∃ v31:Value,∃ x32:(List Qai),Qbd.a1 N x32=some r∧Fr t (fun O=>([O 0,O 1,O 2,v31,O 4,O 5,O 6,O 7,O 8,O 9,O 10,O 11,O 12,O 13,O 14,O 15,O 16,O 17,O 18,O 19,O 20,O 21,O 22,O 23,O 24,O 25,O 26,O 27,O 28,O 29,O 30,O 31,O 32,O 33,O 34]:List Value))∧St w0 [Row 53 Qah v31 x32] w) ?_ ?_
  ·
   rintro t w ⟨v31,x32,H,hf,hs⟩
   obtain ⟨O,rfl⟩:=hf.open
   show G _ _ _ _ [_,_,_,_,_,_,_,_,_,_,_,_,_,_,_,_,_,_,_,_,_,_,_,_,_,_,_,_,_,_,_,_,_,_,_] _
   unfold Qbd.a1 at H
   refine Qag (Qan [0,1] rfl ?_)
   refine Qab (v:=v31) rfl rfl rfl ?_
   refine Qab (v:=v31) rfl rfl rfl (Qaa ?_)
   obtain rfl:=QsJ H
   refine QaK Try.func40 (v:=v31) (res1 rfl rfl) ?_
   have hs:=hs.pull 0 rfl
   have hs:St _ [_] _:=St.take (Γ':=[]) hs
   exact ⟨_,rfl,hs⟩
  intro ha1_
  have hs:=hs.pull 1 rfl
  have hs:=hs.pull 1 rfl
  have hs:St _ [_,_] _:=St.take (Γ':=[]) hs
  refine Qbk (I:=fun n_ t w=>∃ v14:Value,∃ x15:(List Qai),∃ x16:Int,rounds (fun s=>Qbd.b1 N a1 s.1 s.2) n_ (x15,x16)=some o1_∧Fr t (fun O=>([O 0,pointer (some ⟨b2,0,none⟩),O 2,v14,int .i8 x16,O 5,O 6,O 7,O 8,O 9,O 10,O 11,O 12,O 13,O 14,O 15,O 16,O 17,O 18,O 19,O 20,O 21,O 22,O 23,O 24,O 25,O 26,O 27,O 28,O 29,O 30,O 31,O 32,O 33,O 34]:List Value))∧St w0 [Cells b2 (Qae a1) 27,Row 53 Qah v14 x15] w) N ⟨v10,x11,0,Ho,rfl,hs⟩ ?_ ?_
  ·
   rintro _ _ ⟨v14,x15,x16,h,_⟩
   exact rounds_zero h
  intro n_ ih1_
  rintro t w ⟨v14,x15,x16,Ho,hf,hs⟩
  obtain ⟨O,rfl⟩:=hf.open
  show G _ _ _ _ [_,_,_,_,_,_,_,_,_,_,_,_,_,_,_,_,_,_,_,_,_,_,_,_,_,_,_,_,_,_,_,_,_,_,_] _
  obtain ⟨x2_,H,Hx1_⟩:=rounds_succ Ho
  have H:Qbd.b1 N a1 x15 x16=some x2_:=H
  unfold Qbd.b1 at H
  refine Qag (Qag (Qan [0,1,2,3] rfl ?_))
  refine Qab (v:=int .i8 x16) rfl rfl rfl ?_
  refine Qab (v:=pointer (some ⟨b2,0,none⟩)) rfl rfl rfl ?_
  refine Qaz rfl rfl (v:=int .i8 a1.QaF) rfl rfl (fun _=>rfl) (cells_load (hs.cells 0 rfl) 0 1 rfl) ?_
  show G _ _ _ _ [_,_,_,_,_,_,_,_,_,_,_,_,_,_,_,_,_,_,_,_,_,_,_,_,_,_,_,_,_,_,_,_,_,_,_] _
  refine QaR (B:=decide (x16< a1.QaF)) rfl rfl rfl ?_ ?_
  ·
   intro hb
   rw [if_pos (b_dec_t hb)] at H
   refine Qaa (Qaw rfl (QaS (Qag ?_)))
   refine Qa2 (J:=(fun t w=>∃ v28:Value,∃ x29:(List Qai),Qbd.j3 N x16 x29=some x2_∧Fr t (fun O=>([O 0,pointer (some ⟨b2,0,none⟩),O 2,v28,int .i8 x16,O 5,O 6,O 7,O 8,O 9,O 10,O 11,O 12,O 13,O 14,O 15,O 16,O 17,O 18,O 19,O 20,O 21,O 22,O 23,O 24,O 25,O 26,O 27,O 28,O 29,O 30,O 31,O 32,O 33,O 34]:List Value))∧St w0 [Cells b2 (Qae a1) 27,Row 53 Qah v28 x29] w)) ?_ ?_
   ·
    rintro t w ⟨v28,x29,H,hf,hs⟩
    obtain ⟨O,rfl⟩:=hf.open
    show G _ _ _ _ [_,_,_,_,_,_,_,_,_,_,_,_,_,_,_,_,_,_,_,_,_,_,_,_,_,_,_,_,_,_,_,_,_,_,_] _
    unfold Qbd.j3 at H
    refine Qan [0,1,2] rfl ?_
    refine Qab (v:=int .i8 x16) rfl rfl rfl ?_
    refine Qab (v:=int .i8 (i8w (x16+1))) rfl rfl rfl ?_
    refine Qab (v:=int .i8 (i8w (x16+1))) rfl rfl rfl ?_
    show G _ _ _ _ [_,_,_,_,_,_,_,_,_,_,_,_,_,_,_,_,_,_,_,_,_,_,_,_,_,_,_,_,_,_,_,_,_,_,_] _
    refine Qaa ?_
    obtain rfl:=QsJ H
    have hs:=hs.pull 1 rfl
    have hs:=hs.pull 1 rfl
    have hs:St _ [_,_] _:=St.take (Γ':=[]) hs
    exact ih1_ _ _ ⟨v28,x29,i8w (x16+1),Hx1_,rfl,hs⟩
   intro ha
   refine Qag (Qag ?_)
   refine QcB (J:=(fun t w=>∃ v21:Value,∃ x22:(List Qai),Qbd.j4 N a1 x16 x22=some x2_∧Fr t (fun O=>([O 0,pointer (some ⟨b2,0,none⟩),O 2,v21,int .i8 x16,O 5,O 6,O 7,O 8,O 9,O 10,O 11,O 12,O 13,O 14,O 15,O 16,O 17,O 18,O 19,O 20,O 21,O 22,O 23,O 24,O 25,O 26,O 27,O 28,O 29,O 30,O 31,O 32,O 33,O 34]:List Value))∧St w0 [Cells b2 (Qae a1) 27,Row 53 Qah v21 x22] w)) ?_ ?_
   ·
    rintro t w ⟨v21,x22,H,hf,hs⟩
    obtain ⟨O,rfl⟩:=hf.open
    show G _ _ _ _ [_,_,_,_,_,_,_,_,_,_,_,_,_,_,_,_,_,_,_,_,_,_,_,_,_,_,_,_,_,_,_,_,_,_,_] _
    unfold Qbd.j4 at H
    refine Qag (Qan [0,1,2] rfl ?_)
    refine Qab (v:=pointer (some ⟨b2,1,none⟩)) rfl rfl rfl ?_
    refine Qaz rfl rfl (v:=int .i8 a1.Qa0) rfl rfl (fun _=>rfl) (cells_load (hs.cells 0 rfl) 1 1 rfl) ?_
    refine QaR (B:=a1.Qa0 !=0) rfl rfl rfl ?_ ?_
    ·
     intro hb
     rw [if_neg (b_bne_t hb)] at H
     refine Qaa (Qaw rfl (Qan [0,1,2,3,4,5] rfl ?_))
     refine Qab (v:=v21) rfl rfl rfl ?_
     refine Qab (v:=int .i8 x16) rfl rfl rfl ?_
     show G _ _ _ _ [_,_,_,_,_,_,_,_,_,_,_,_,_,_,_,_,_,_,_,_,_,_,_,_,_,_,_,_,_,_,_,_,_,_,_] _
     refine Qab (v:=agg (Qau (⟨x16,false⟩:Qai)).toArray) rfl rfl (Qcn (cs:=(Qau (⟨x16,false⟩:Qai))) (segs:=[[int .i8 0],[bool false]]) rfl rfl (fun _=>rfl) ⟨rfl,(fun _=>rfl),rfl,(fun _=>rfl),trivial⟩ (by simp only [List.map_cons,List.map_nil,List.forall_mem_cons,List.not_mem_nil,false_implies,implies_true,and_true];exact ⟨_,rfl,rfl⟩) (by first|rfl|(simp [ev,Qau];done)|(simp [ev,Qau];rfl))) ?_
     show G _ _ _ _ [_,_,_,_,_,_,_,_,_,_,_,_,_,_,_,_,_,_,_,_,_,_,_,_,_,_,_,_,_,_,_,_,_,_,_] _
     refine Qcx QaL (y:=(⟨x16,false⟩:Qai)) hs rfl rfl rfl rfl (fun _=>rfl) (zv:=(agg #[int .i8 0,bool false])) (fun _=>rfl) rfl (by decide) (by decide) rfl ?_
     intro v24 w hs
     have hs:St _ [_,_,_] _:=hs.pull 2 rfl
     obtain ⟨g,H⟩:=ite_get H
     refine Qcf QaL (zv:=(agg #[int .i8 0,bool false])) (B:=2) hs (hs.row 1 rfl) rfl rfl rfl rfl rfl rfl rfl rfl rfl (by decide) rfl rfl (by decide) (by omega) ?_
     intro v26 w hs
     refine Qab (v:=v26) rfl rfl rfl ?_
     show G _ _ _ _ [_,_,_,_,_,_,_,_,_,_,_,_,_,_,_,_,_,_,_,_,_,_,_,_,_,_,_,_,_,_,_,_,_,_,_] _
     refine Qaa ?_
     refine Qa5 ?_
     have hs:=hs.pull 0 rfl
     have hs:=hs.pull 2 rfl
     have hs:St _ [_,_] _:=St.take (Γ':=[_]) hs
     exact ha _ _ ⟨v26,x22++([(⟨x16,false⟩:Qai)]),H,rfl,hs⟩
    intro hb
    rw [if_pos (b_bne_f hb)] at H
    show G _ _ _ _ [_,_,_,_,_,_,_,_,_,_,_,_,_,_,_,_,_,_,_,_,_,_,_,_,_,_,_,_,_,_,_,_,_,_,_] _
    refine Qaa (Qax rfl (QaS ?_))
    refine Qa5 ?_
    have hs:=hs.pull 1 rfl
    have hs:=hs.pull 1 rfl
    have hs:St _ [_,_] _:=St.take (Γ':=[]) hs
    exact ha _ _ ⟨v21,x22,H,rfl,hs⟩
   intro ha
   refine Qan [0,1,2] rfl ?_
   refine Qab (v:=pointer (some ⟨b2,1,none⟩)) rfl rfl rfl ?_
   refine Qaz rfl rfl (v:=int .i8 a1.Qa0) rfl rfl (fun _=>rfl) (cells_load (hs.cells 0 rfl) 1 1 rfl) ?_
   show G _ _ _ _ [_,_,_,_,_,_,_,_,_,_,_,_,_,_,_,_,_,_,_,_,_,_,_,_,_,_,_,_,_,_,_,_,_,_,_] _
   refine QaR (B:=a1.Qa0 !=1) rfl rfl rfl ?_ ?_
   ·
    intro hb
    rw [if_neg (b_bne_t hb)] at H
    refine Qaa (Qaw rfl (Qan [0,1,2,3,4,5] rfl ?_))
    refine Qab (v:=v14) rfl rfl rfl ?_
    refine Qab (v:=int .i8 x16) rfl rfl rfl ?_
    show G _ _ _ _ [_,_,_,_,_,_,_,_,_,_,_,_,_,_,_,_,_,_,_,_,_,_,_,_,_,_,_,_,_,_,_,_,_,_,_] _
    refine Qab (v:=agg (Qau (⟨x16,true⟩:Qai)).toArray) rfl rfl (Qcn (cs:=(Qau (⟨x16,true⟩:Qai))) (segs:=[[int .i8 0],[bool false]]) rfl rfl (fun _=>rfl) ⟨rfl,(fun _=>rfl),rfl,(fun _=>rfl),trivial⟩ (by simp only [List.map_cons,List.map_nil,List.forall_mem_cons,List.not_mem_nil,false_implies,implies_true,and_true];exact ⟨⟨_,rfl,rfl⟩,⟨_,rfl,rfl⟩⟩) (by first|rfl|(simp [ev,Qau];done)|(simp [ev,Qau];rfl))) ?_
    show G _ _ _ _ [_,_,_,_,_,_,_,_,_,_,_,_,_,_,_,_,_,_,_,_,_,_,_,_,_,_,_,_,_,_,_,_,_,_,_] _
    refine Qcx QaL (y:=(⟨x16,true⟩:Qai)) hs rfl rfl rfl rfl (fun _=>rfl) (zv:=(agg #[int .i8 0,bool false])) (fun _=>rfl) rfl (by decide) (by decide) rfl ?_
    intro v17 w hs
    have hs:St _ [_,_,_] _:=hs.pull 2 rfl
    obtain ⟨g,H⟩:=ite_get H
    refine Qcf QaL (zv:=(agg #[int .i8 0,bool false])) (B:=2) hs (hs.row 1 rfl) rfl rfl rfl rfl rfl rfl rfl rfl rfl (by decide) rfl rfl (by decide) (by omega) ?_
    intro v19 w hs
    show G _ _ _ _ [_,_,_,_,_,_,_,_,_,_,_,_,_,_,_,_,_,_,_,_,_,_,_,_,_,_,_,_,_,_,_,_,_,_,_] _
    refine Qab (v:=v19) rfl rfl rfl (Qaa ?_)
    have hs:=hs.pull 0 rfl
    have hs:=hs.pull 2 rfl
    have hs:St _ [_,_] _:=St.take (Γ':=[_]) hs
    exact ha _ _ ⟨v19,x15++([(⟨x16,true⟩:Qai)]),H,rfl,hs⟩
   intro hb
   rw [if_pos (b_bne_f hb)] at H
   refine Qaa (Qax rfl (QaS ?_))
   have hs:=hs.pull 1 rfl
   have hs:=hs.pull 1 rfl
   have hs:St _ [_,_] _:=St.take (Γ':=[]) hs
   exact ha _ _ ⟨v14,x15,H,rfl,hs⟩
  intro hb
  rw [if_neg (b_dec_f hb)] at H
  refine Qaa (Qax rfl ?_)
  obtain rfl:=QsJ H
  subst Hx1_
  have hs:=hs.pull 1 rfl
  have hs:St _ [_] _:=St.take (Γ':=[_]) hs
  refine QbG rfl ?_
  exact ha1_ _ _ ⟨v14,x15,Hr1_,rfl,hs⟩
 intro ha
 refine Qan [0,1] rfl ?_
 refine Qab (v:=pointer (some ⟨b2,2,none⟩)) rfl rfl rfl ?_
 by_cases hb1_:a1.QbU=true
 ·
  rw [if_pos hb1_] at H
  refine Qaz rfl rfl (v:=bool true) rfl rfl (fun _=>rfl) (cells_load (hs.cells 1 rfl) 2 1 (Eq.trans (b:=[bool a1.QbU]) rfl (congrArg (fun b=>[bool b]) hb1_))) (Qaa (Qaw rfl (Qan [0,1,2,3,4] rfl ?_)))
  refine Qab (v:=v4) rfl rfl rfl ?_
  show G _ _ _ _ [_,_,_,_,_,_,_,_,_,_,_,_,_,_,_,_,_,_,_,_,_,_,_,_,_,_,_,_,_,_,_,_,_,_,_] _
  refine Qab (v:=agg (Qau (⟨(-1),false⟩:Qai)).toArray) rfl rfl (Qcn (cs:=(Qau (⟨(-1),false⟩:Qai))) (segs:=[[int .i8 0],[bool false]]) rfl rfl (fun _=>rfl) ⟨rfl,(fun _=>rfl),rfl,(fun _=>rfl),trivial⟩ (by simp only [List.map_cons,List.map_nil,List.forall_mem_cons,List.not_mem_nil,false_implies,implies_true,and_true];exact ⟨_,rfl,rfl⟩) (by first|rfl|(simp [ev,Qau];done)|(simp [ev,Qau];rfl))) ?_
  show G _ _ _ _ [_,_,_,_,_,_,_,_,_,_,_,_,_,_,_,_,_,_,_,_,_,_,_,_,_,_,_,_,_,_,_,_,_,_,_] _
  refine Qcx QaL (y:=(⟨(-1),false⟩:Qai)) hs rfl rfl rfl rfl (fun _=>rfl) (zv:=(agg #[int .i8 0,bool false])) (fun _=>rfl) rfl (by decide) (by decide) rfl ?_
  intro v6 w hs
  have hs:St _ [_,_,_] _:=hs.pull 1 rfl
  obtain ⟨g,H⟩:=ite_get H
  refine Qcf QaL (zv:=(agg #[int .i8 0,bool false])) (B:=2) hs (hs.row 1 rfl) rfl rfl rfl rfl rfl rfl rfl rfl rfl (by decide) rfl rfl (by decide) (by omega) ?_
  intro v8 w hs
  show G _ _ _ _ [_,_,_,_,_,_,_,_,_,_,_,_,_,_,_,_,_,_,_,_,_,_,_,_,_,_,_,_,_,_,_,_,_,_,_] _
  refine Qab (v:=v8) rfl rfl rfl (Qaa ?_)
  have hs:=hs.pull 0 rfl
  have hs:=hs.pull 2 rfl
  have hs:St _ [_,_] _:=St.take (Γ':=[_]) hs
  exact ha _ _ ⟨v8,([]:List Qai)++([(⟨(-1),false⟩:Qai)]),H,rfl,hs⟩
 rw [if_neg hb1_] at H
 refine Qaz rfl rfl (v:=bool false) rfl rfl (fun _=>rfl) (cells_load (hs.cells 1 rfl) 2 1 (Eq.trans (b:=[bool a1.QbU]) rfl (congrArg (fun b=>[bool b]) (Bool.eq_false_iff.2 hb1_)))) (Qaa (Qax rfl (QaS ?_)))
 have hs:=hs.pull 0 rfl
 have hs:=hs.pull 1 rfl
 have hs:St _ [_,_] _:=St.take (Γ':=[]) hs
 exact ha _ _ ⟨v4,([]:List Qai),H,rfl,hs⟩
def QcA.post (w0:World) (r:((List Qai)×Int)) (v:Value) (w:World):Prop:=∃ u1:Value,v=tuple #[u1,int .i64 r.2]∧St w0 [Row 53 Qah u1 r.1] w
theorem QcA.calls {N:Nat} {a1:Qaq} {w0:World} {r:((List Qai)×Int)} (H:QcA.f N a1=some r):
 Calls Try.prog 15 #[agg (Qae a1).toArray] w0 fun e w=>∃ v,e= .returned v∧QcA.post w0 r v w:=by
 unfold QcA.f at H
 have hs:St w0 [] w0:=St.refl w0
 refine calls_of_g (n:=9) Try.func15 rfl rfl ?_
 show G _ _ _ _ [_,_,_,_,_,_,_,_,_,_] _
 refine Qag (Qan [0,1,2] rfl ?_)
 refine Qbw hs rfl rfl (cs:=(Qae a1)) rfl rfl ?_
 intro b2 w hs
 show G _ _ _ _ [_,_,_,_,_,_,_,_,_,_] _
 refine Qab (v:=slice none 0 0) rfl rfl rfl ?_
 refine Qab (v:=int .i64 0) rfl rfl rfl (Qaa (Qag (Qag (Qan [0,1,2] rfl ?_))))
 refine QaG rfl rfl (es:=(Qae a1)) rfl rfl (fun _=>rfl) (n:=4) (fun _=>rfl) (QaJ.len _) (cells_all (hs.cells 0 rfl)) ?_
 show G _ _ _ _ [_,_,_,_,_,_,_,_,_,_] _
 obtain ⟨r4,Hr4,H⟩:=bind_get H
 refine QaP (args:=[agg (Qae a1).toArray]) rfl rfl (QaT rfl (callFunc_enter Try.func27 rfl rfl) rfl) (Qce.calls (a1:=a1) Hr4) ?_
 rintro _ w ⟨rfl,hs2⟩
 have hs:St _ [_] _:=hs.call hs2
 cases r4 with
 |true=>
  rw [if_pos rfl] at H
  show G _ _ _ _ [_,_,_,_,_,_,_,_,_,_] _
  refine Qab (v:=bool false) rfl rfl rfl (Qaa (Qax rfl (QaS (Qag (Qan [0,1,2,3] rfl ?_)))))
  refine QaG rfl rfl (es:=(Qae a1)) rfl rfl (fun _=>rfl) (n:=4) (fun _=>rfl) (QaJ.len _) (cells_all (hs.cells 0 rfl)) ?_
  obtain ⟨r5,Hr5,H⟩:=bind_get H
  refine QaP (args:=[agg (Qae a1).toArray]) rfl rfl (QaT rfl (callFunc_enter Try.func40 rfl rfl) rfl) (Qbd.calls (a1:=a1) Hr5) ?_
  intro v6 w hs2
  have hs:St _ [_,_] _:=hs.call hs2
  show G _ _ _ _ [_,_,_,_,_,_,_,_,_,_] _
  refine Qab (v:=v6) rfl rfl rfl ?_
  refine Qab (v:=int .i64 0) rfl rfl rfl (Qaa ?_)
  obtain rfl:=QsJ H
  refine QaK Try.func15 (v:=tuple #[v6,int .i64 0]) (resN (l:=Try.f15.results.toList) (vs:=[v6,int .i64 0]) rfl ⟨rfl,rfl,trivial⟩ (by simp)) ?_
  have hs:=hs.pull 0 rfl
  have hs:St _ [_] _:=St.take (Γ':=[_]) hs
  exact ⟨_,rfl,v6,rfl,hs⟩
 |false=>
  rw [if_neg Bool.false_ne_true] at H
  refine Qab (v:=bool true) rfl rfl rfl (Qaa (Qaw rfl (Qag (Qan [0,1,2] rfl ?_))))
  refine QcU (κ:=Qah) hs rfl rfl rfl rfl (fun _=>rfl) ?_
  intro v8 w hs
  show G _ _ _ _ [_,_,_,_,_,_,_,_,_,_] _
  refine Qab (v:=v8) rfl rfl rfl ?_
  refine Qab (v:=int .i64 1) rfl rfl rfl (Qaa ?_)
  obtain rfl:=QsJ H
  refine QaK Try.func15 (v:=tuple #[v8,int .i64 1]) (resN (l:=Try.f15.results.toList) (vs:=[v8,int .i64 1]) rfl ⟨rfl,rfl,trivial⟩ (by simp)) ?_
  have hs:=hs.pull 0 rfl
  have hs:St _ [_] _:=St.take (Γ':=[_]) hs
  exact ⟨_,rfl,v8,rfl,hs⟩
def QbS.post (w0:World) (r:Int) (v:Value) (w:World):Prop:=v=int .i64 r∧St w0 [] w
theorem QbS.calls {N:Nat} {a1:Qaq} {w0:World} {r:Int} (H:QbS.f N a1=some r):
 Calls Try.prog 47 #[agg (Qae a1).toArray] w0 fun e w=>∃ v,e= .returned v∧QbS.post w0 r v w:=by
 unfold QbS.f at H
 have hs:St w0 [] w0:=St.refl w0
 refine calls_of_g (n:=11) Try.func47 rfl rfl ?_
 show G _ _ _ _ [_,_,_,_,_,_,_,_,_,_,_,_] _
 refine Qag (Qan [0,1] rfl ?_)
 refine Qbw hs rfl rfl (cs:=(Qae a1)) rfl rfl ?_
 intro b2 w hs
 show G _ _ _ _ [_,_,_,_,_,_,_,_,_,_,_,_] _
 refine Qab (v:=int .i64 0) rfl rfl rfl (Qaa (Qag (Qag (Qan [0,1] rfl ?_))))
 refine Qab (v:=pointer (some ⟨b2,3,none⟩)) rfl rfl rfl ?_
 by_cases hb1_:a1.QbI=true
 ·
  rw [if_pos hb1_] at H
  refine Qaz rfl rfl (v:=bool true) rfl rfl (fun _=>rfl) (cells_load (hs.cells 0 rfl) 3 1 (Eq.trans (b:=[bool a1.QbI]) rfl (congrArg (fun b=>[bool b]) hb1_))) ?_
  show G _ _ _ _ [_,_,_,_,_,_,_,_,_,_,_,_] _
  refine Qaa (Qaw rfl (Qag (Qan [0,1,2,3,4] rfl ?_)))
  refine Qab (v:=pointer (some ⟨b2,0,none⟩)) rfl rfl rfl ?_
  refine Qaz rfl rfl (v:=int .i8 a1.QaF) rfl rfl (fun _=>rfl) (cells_load (hs.cells 0 rfl) 0 1 rfl) ?_
  refine Qab (v:=int .i64 (i64w a1.QaF)) rfl rfl rfl ?_
  show G _ _ _ _ [_,_,_,_,_,_,_,_,_,_,_,_] _
  refine Qab (v:=int .i64 (i64w ((i64w a1.QaF)+1))) rfl rfl rfl ?_
  refine Qab (v:=int .i64 (i64w ((i64w a1.QaF)+1))) rfl rfl rfl (Qaa ?_)
  obtain rfl:=QsJ H
  refine QaK Try.func47 (v:=int .i64 (i64w ((i64w a1.QaF)+1))) (res1 rfl rfl) ?_
  have hs:St _ [] _:=St.take (Γ':=[_]) hs
  exact ⟨_,rfl,rfl,hs⟩
 rw [if_neg hb1_] at H
 refine Qaz rfl rfl (v:=bool false) rfl rfl (fun _=>rfl) (cells_load (hs.cells 0 rfl) 3 1 (Eq.trans (b:=[bool a1.QbI]) rfl (congrArg (fun b=>[bool b]) (Bool.eq_false_iff.2 hb1_)))) ?_
 show G _ _ _ _ [_,_,_,_,_,_,_,_,_,_,_,_] _
 refine Qaa (Qax rfl (QaS (Qag (Qan [0,1,2,3] rfl ?_))))
 refine Qab (v:=pointer (some ⟨b2,0,none⟩)) rfl rfl rfl ?_
 refine Qaz rfl rfl (v:=int .i8 a1.QaF) rfl rfl (fun _=>rfl) (cells_load (hs.cells 0 rfl) 0 1 rfl) ?_
 refine Qab (v:=int .i64 (i64w a1.QaF)) rfl rfl rfl ?_
 show G _ _ _ _ [_,_,_,_,_,_,_,_,_,_,_,_] _
 refine Qab (v:=int .i64 (i64w a1.QaF)) rfl rfl rfl (Qaa ?_)
 obtain rfl:=QsJ H
 refine QaK Try.func47 (v:=int .i64 (i64w a1.QaF)) (res1 rfl rfl) ?_
 have hs:St _ [] _:=St.take (Γ':=[_]) hs
 exact ⟨_,rfl,rfl,hs⟩
def QaW.post (w0:World) (r:Bool) (v:Value) (w:World):Prop:=v=bool r∧St w0 [] w
theorem QaW.calls {N:Nat} {a1:Qaq} {a2:(Ar Int 14)} {w0:World} {r:Bool} (H:QaW.f N a1 a2=some r):
 Calls Try.prog 22 #[agg (Qae a1).toArray,agg ((encA (encI .i8)) a2).toArray] w0 fun e w=>∃ v,e= .returned v∧QaW.post w0 r v w:=by
 unfold QaW.f at H
 have hs:St w0 [] w0:=St.refl w0
 refine calls_of_g (n:=37) Try.func22 rfl rfl ?_
 show G _ _ _ _ [_,_,_,_,_,_,_,_,_,_,_,_,_,_,_,_,_,_,_,_,_,_,_,_,_,_,_,_,_,_,_,_,_,_,_,_,_,_,_] _
 refine Qag (Qan [0,1,2] rfl ?_)
 refine Qbw hs rfl rfl (cs:=(Qae a1)) rfl rfl ?_
 intro b3 w hs
 refine Qbw hs rfl rfl (cs:=((encA (encI .i8)) a2)) rfl rfl ?_
 intro b5 w hs
 show G _ _ _ _ [_,_,_,_,_,_,_,_,_,_,_,_,_,_,_,_,_,_,_,_,_,_,_,_,_,_,_,_,_,_,_,_,_,_,_,_,_,_,_] _
 refine Qab (v:=bool false) rfl rfl rfl (Qaa (Qag (Qag (Qan [0,1,2] rfl ?_))))
 refine QaG rfl rfl (es:=(Qae a1)) rfl rfl (fun _=>rfl) (n:=4) (fun _=>rfl) (QaJ.len _) (cells_all (hs.cells 1 rfl)) ?_
 obtain ⟨r7,Hr7,H⟩:=bind_get H
 refine QaP (args:=[agg (Qae a1).toArray]) rfl rfl (QaT rfl (callFunc_enter Try.func21 rfl rfl) rfl) (Qbr.calls (a1:=a1) Hr7) ?_
 rintro _ w ⟨rfl,hs2⟩
 have hs:St _ [_,_] _:=hs.call hs2
 cases r7 with
 |true=>
  rw [if_pos rfl] at H
  refine Qab (v:=bool false) rfl rfl rfl (Qaa (Qax rfl (QaS (Qag (Qan [0] rfl ?_)))))
  refine Qab (v:=int .i64 0) rfl rfl rfl ?_
  show G _ _ _ _ [_,_,_,_,_,_,_,_,_,_,_,_,_,_,_,_,_,_,_,_,_,_,_,_,_,_,_,_,_,_,_,_,_,_,_,_,_,_,_] _
  refine Qaa (Qag (Qag (Qan [0,1] rfl ?_)))
  refine QaG rfl rfl (es:=((encA (encI .i8)) a2)) rfl rfl (fun _=>rfl) (n:=14) (fun _=>rfl) ((fkA (n:=14) (he:=(fkI .i8).len) (h1:=(fkI .i8).one)).len _) (cells_all (hs.cells 0 rfl)) ?_
  refine Qab (v:=int .i64 0) rfl rfl rfl (Qaa ?_)
  obtain ⟨o1_,Ho,Hr1_⟩:=bind_get H
  refine Qa2 (J:=fun t w=>∃ x12:Int,QaW.a0 N x12=some r∧Fr t (fun O=>([O 0,O 1,O 2,O 3,O 4,int .i64 x12,O 6,O 7,O 8,O 9,O 10,O 11,O 12,O 13,O 14,O 15,O 16,O 17,O 18,O 19,O 20,O 21,O 22,O 23,O 24,O 25,O 26,O 27,O 28,O 29,O 30,O 31,O 32,O 33,O 34,O 35,O 36,O 37,O 38]:List Value))∧St w0 [] w) ?_ ?_
  ·
   rintro t w ⟨x12,H,hf,hs⟩
   obtain ⟨O,rfl⟩:=hf.open
   show G _ _ _ _ [_,_,_,_,_,_,_,_,_,_,_,_,_,_,_,_,_,_,_,_,_,_,_,_,_,_,_,_,_,_,_,_,_,_,_,_,_,_,_] _
   unfold QaW.a0 at H
   refine Qag (Qan [0,1,2] rfl ?_)
   refine Qab (v:=int .i64 x12) rfl rfl rfl ?_
   refine Qab (v:=bool (x12==0)) rfl rfl rfl ?_
   refine Qab (v:=bool (x12==0)) rfl rfl rfl (Qaa ?_)
   obtain rfl:=QsJ H
   refine QaK Try.func22 (v:=bool (x12==0)) (res1 rfl rfl) ?_
   have hs:St _ [] _:=St.take (Γ':=[]) hs
   exact ⟨_,rfl,rfl,hs⟩
  intro ha1_
  have hs:=hs.pull 1 rfl
  have hs:St _ [_] _:=St.take (Γ':=[_]) hs
  refine Qbk (I:=fun n_ t w=>∃ x8:Int,∃ x9:Int,rounds (fun s=>QaW.b0 N a2 a1 s.1 s.2) n_ (x8,x9)=some o1_∧Fr t (fun O=>([O 0,O 1,pointer (some ⟨b3,0,none⟩),O 3,O 4,int .i64 x8,O 6,O 7,O 8,O 9,O 10,agg ((encA (encI .i8)) a2).toArray,int .i64 x9,O 13,O 14,O 15,O 16,O 17,O 18,O 19,O 20,O 21,O 22,O 23,O 24,O 25,O 26,O 27,O 28,O 29,O 30,O 31,O 32,O 33,O 34,O 35,O 36,O 37,O 38]:List Value))∧St w0 [Cells b3 (Qae a1) 27] w) N ⟨0,0,Ho,rfl,hs⟩ ?_ ?_
  ·
   rintro _ _ ⟨x8,x9,h,_⟩
   exact rounds_zero h
  intro n_ ih1_
  rintro t w ⟨x8,x9,Ho,hf,hs⟩
  obtain ⟨O,rfl⟩:=hf.open
  show G _ _ _ _ [_,_,_,_,_,_,_,_,_,_,_,_,_,_,_,_,_,_,_,_,_,_,_,_,_,_,_,_,_,_,_,_,_,_,_,_,_,_,_] _
  obtain ⟨x2_,H,Hx1_⟩:=rounds_succ Ho
  have H:QaW.b0 N a2 a1 x8 x9=some x2_:=H
  unfold QaW.b0 at H
  refine Qag (Qan [0] rfl ?_)
  refine QaR (B:=decide (x9< 14)) rfl rfl rfl ?_ ?_
  ·
   intro hb
   rw [if_pos (b_dec_t hb)] at H
   show G _ _ _ _ [_,_,_,_,_,_,_,_,_,_,_,_,_,_,_,_,_,_,_,_,_,_,_,_,_,_,_,_,_,_,_,_,_,_,_,_,_,_,_] _
   refine Qaa (Qag (Qaw rfl (QaS (Qag ?_))))
   refine QbP (Qag (Qan [0,1,2,3] rfl ?_))
   refine Qab (v:=int .i64 x9) rfl rfl rfl ?_
   obtain ⟨g1,H⟩:=ite_get H
   refine QdB (enc:=(encI .i8)) (c:=int .i8) (fun _=>rfl) 0 rfl (fun _=>rfl) (fun _=>rfl) g1.1 g1.2 rfl rfl rfl rfl rfl ?_
   refine Qab (v:=int .i64 x9) rfl rfl rfl ?_
   refine Qab (v:=int .i8 (a2.get x9 0)) rfl rfl rfl ?_
   show G _ _ _ _ [_,_,_,_,_,_,_,_,_,_,_,_,_,_,_,_,_,_,_,_,_,_,_,_,_,_,_,_,_,_,_,_,_,_,_,_,_,_,_] _
   refine Qaa (Qag (Qag ?_))
   refine QcB (J:=(fun t w=>∃ x11:Bool,QaW.j2 N x8 a2 x9 x11=some x2_∧Fr t (fun O=>([O 0,O 1,pointer (some ⟨b3,0,none⟩),O 3,O 4,int .i64 x8,O 6,int .i8 (a2.get x9 0),O 8,O 9,O 10,agg ((encA (encI .i8)) a2).toArray,int .i64 x9,O 13,O 14,O 15,O 16,O 17,O 18,int .i8 (a2.get x9 0),bool (decide ((a2.get x9 0)>1)),O 21,O 22,int .i8 (a2.get x9 0),bool x11,bool x11,O 26,O 27,O 28,O 29,bool false,O 31,O 32,O 33,O 34,O 35,O 36,O 37,O 38]:List Value))∧St w0 [Cells b3 (Qae a1) 27] w)) ?_ ?_
   ·
    rintro t w ⟨x11,H,hf,hs⟩
    obtain ⟨O,rfl⟩:=hf.open
    show G _ _ _ _ [_,_,_,_,_,_,_,_,_,_,_,_,_,_,_,_,_,_,_,_,_,_,_,_,_,_,_,_,_,_,_,_,_,_,_,_,_,_,_] _
    unfold QaW.j2 at H
    refine Qan [0,1,2,3,4] rfl ?_
    refine Qab (v:=int .i64 x8) rfl rfl rfl ?_
    refine Qab (v:=int .i8 (a2.get x9 0)) rfl rfl rfl ?_
    refine Qab (v:=int .i64 (i64w (a2.get x9 0))) rfl rfl rfl ?_
    refine Qab (v:=int .i64 (i64w (x8+(i64w (a2.get x9 0))))) rfl rfl rfl ?_
    refine Qab (v:=int .i64 (i64w (x8+(i64w (a2.get x9 0))))) rfl rfl rfl (Qaa ?_)
    refine Qa5 (Qan [0,1] rfl ?_)
    refine Qab (v:=int .i64 (i64w (x9+1))) rfl rfl rfl ?_
    show G _ _ _ _ [_,_,_,_,_,_,_,_,_,_,_,_,_,_,_,_,_,_,_,_,_,_,_,_,_,_,_,_,_,_,_,_,_,_,_,_,_,_,_] _
    refine Qab (v:=int .i64 (i64w (x9+1))) rfl rfl rfl (Qaa ?_)
    obtain rfl:=QsJ H
    have hs:=hs.pull 0 rfl
    have hs:St _ [_] _:=St.take (Γ':=[]) hs
    exact ih1_ _ _ ⟨i64w (x8+(i64w (a2.get x9 0))),i64w (x9+1),Hx1_,rfl,hs⟩
   intro ha
   refine Qan [0,1,2,3,4,5,6,7,8,9,10,11,12,13,14,15] rfl ?_
   refine Qab (v:=int .i8 (a2.get x9 0)) rfl rfl rfl ?_
   refine QaR (B:=decide ((a2.get x9 0)< (-1))) rfl rfl rfl ?_ ?_
   ·
    intro hb
    rw [if_pos (b_dec_t hb)] at H
    show G _ _ _ _ [_,_,_,_,_,_,_,_,_,_,_,_,_,_,_,_,_,_,_,_,_,_,_,_,_,_,_,_,_,_,_,_,_,_,_,_,_,_,_] _
    refine Qab (v:=bool true) rfl rfl rfl (Qal rfl rfl (Qal rfl rfl ?_))
    refine Qab (v:=bool true) rfl rfl rfl ?_
    refine Qab (v:=bool true) rfl rfl rfl (Qal rfl rfl (Qal rfl rfl ?_))
    show G _ _ _ _ [_,_,_,_,_,_,_,_,_,_,_,_,_,_,_,_,_,_,_,_,_,_,_,_,_,_,_,_,_,_,_,_,_,_,_,_,_,_,_] _
    refine Qal rfl rfl (Qal rfl rfl (Qal rfl rfl (Qal rfl rfl (Qal rfl rfl ?_))))
    show G _ _ _ _ [_,_,_,_,_,_,_,_,_,_,_,_,_,_,_,_,_,_,_,_,_,_,_,_,_,_,_,_,_,_,_,_,_,_,_,_,_,_,_] _
    refine Qal rfl rfl ?_
    refine Qab (v:=bool true) rfl rfl rfl (Qaa (Qaw rfl (Qag (Qan [0] rfl ?_))))
    refine Qab (v:=bool false) rfl rfl rfl ?_
    show G _ _ _ _ [_,_,_,_,_,_,_,_,_,_,_,_,_,_,_,_,_,_,_,_,_,_,_,_,_,_,_,_,_,_,_,_,_,_,_,_,_,_,_] _
    refine Qaa ?_
    obtain rfl:=QsJ H
    subst Hx1_
    have H:=QsJ Hr1_
    subst H
    refine QaK Try.func22 (v:=bool false) (res1 rfl rfl) ?_
    have hs:St _ [] _:=St.take (Γ':=[_]) hs
    exact ⟨_,rfl,rfl,hs⟩
   intro hb
   rw [if_neg (b_dec_f hb)] at H
   refine Qab (v:=bool false) rfl rfl rfl ?_
   refine Qab (v:=int .i8 (a2.get x9 0)) rfl rfl rfl ?_
   refine Qab (v:=bool (decide ((a2.get x9 0)>1))) rfl rfl rfl ?_
   refine QaR (B:=decide ((a2.get x9 0)>1)) rfl rfl rfl ?_ ?_
   ·
    intro hb
    rw [if_pos (b_dec_t hb)] at H
    refine Qab (v:=bool true) rfl rfl rfl (Qal rfl rfl (Qal rfl rfl (Qal rfl rfl (Qal rfl rfl (Qal rfl rfl ?_)))))
    show G _ _ _ _ [_,_,_,_,_,_,_,_,_,_,_,_,_,_,_,_,_,_,_,_,_,_,_,_,_,_,_,_,_,_,_,_,_,_,_,_,_,_,_] _
    refine Qal rfl rfl (Qal rfl rfl (Qal rfl rfl ?_))
    show G _ _ _ _ [_,_,_,_,_,_,_,_,_,_,_,_,_,_,_,_,_,_,_,_,_,_,_,_,_,_,_,_,_,_,_,_,_,_,_,_,_,_,_] _
    refine Qab (v:=bool true) rfl rfl rfl (Qaa (Qaw rfl (Qag (Qan [0] rfl ?_))))
    refine Qab (v:=bool false) rfl rfl rfl (Qaa ?_)
    obtain rfl:=QsJ H
    subst Hx1_
    have H:=QsJ Hr1_
    subst H
    refine QaK Try.func22 (v:=bool false) (res1 rfl rfl) ?_
    have hs:St _ [] _:=St.take (Γ':=[_]) hs
    exact ⟨_,rfl,rfl,hs⟩
   intro hb
   rw [if_neg (b_dec_f hb)] at H
   show G _ _ _ _ [_,_,_,_,_,_,_,_,_,_,_,_,_,_,_,_,_,_,_,_,_,_,_,_,_,_,_,_,_,_,_,_,_,_,_,_,_,_,_] _
   refine Qab (v:=bool false) rfl rfl rfl ?_
   refine Qab (v:=int .i8 (a2.get x9 0)) rfl rfl rfl ?_
   refine QaR (B:=(a2.get x9 0) !=0) rfl rfl rfl ?_ ?_
   ·
    intro hb
    rw [if_neg (b_bne_t hb)] at H
    refine Qab (v:=bool true) rfl rfl rfl ?_
    refine Qab (v:=int .i64 x9) rfl rfl rfl ?_
    refine QaG rfl rfl (es:=(Qae a1)) rfl rfl (fun _=>rfl) (n:=4) (fun _=>rfl) (QaJ.len _) (cells_all (hs.cells 0 rfl)) ?_
    obtain ⟨r10,Hr10,H⟩:=bind_get H
    refine QaP (args:=[agg (Qae a1).toArray]) rfl rfl (QaT rfl (callFunc_enter Try.func47 rfl rfl) rfl) (QbS.calls (a1:=a1) Hr10) ?_
    rintro _ w ⟨rfl,hs2⟩
    have hs:St _ [_] _:=hs.call hs2
    show G _ _ _ _ [_,_,_,_,_,_,_,_,_,_,_,_,_,_,_,_,_,_,_,_,_,_,_,_,_,_,_,_,_,_,_,_,_,_,_,_,_,_,_] _
    refine Qab (v:=bool (decide (x9≥r10))) rfl rfl rfl ?_
    refine QaR (B:=decide (x9≥r10)) rfl rfl rfl ?_ ?_
    ·
     intro hb
     rw [if_pos (b_dec_t hb)] at H
     refine Qab (v:=bool true) rfl rfl rfl (Qaa (Qaw rfl (Qag (Qan [0] rfl ?_))))
     refine Qab (v:=bool false) rfl rfl rfl ?_
     show G _ _ _ _ [_,_,_,_,_,_,_,_,_,_,_,_,_,_,_,_,_,_,_,_,_,_,_,_,_,_,_,_,_,_,_,_,_,_,_,_,_,_,_] _
     refine Qaa ?_
     obtain rfl:=QsJ H
     subst Hx1_
     have H:=QsJ Hr1_
     subst H
     refine QaK Try.func22 (v:=bool false) (res1 rfl rfl) ?_
     have hs:St _ [] _:=St.take (Γ':=[_]) hs
     exact ⟨_,rfl,rfl,hs⟩
    intro hb
    rw [if_neg (b_dec_f hb)] at H
    refine Qab (v:=bool false) rfl rfl rfl ?_
    show G _ _ _ _ [_,_,_,_,_,_,_,_,_,_,_,_,_,_,_,_,_,_,_,_,_,_,_,_,_,_,_,_,_,_,_,_,_,_,_,_,_,_,_] _
    refine Qaa (Qax rfl (QaS ?_))
    have hs:=hs.pull 0 rfl
    have hs:St _ [_] _:=St.take (Γ':=[]) hs
    exact ha _ _ ⟨true,H,rfl,hs⟩
   intro hb
   rw [if_pos (b_bne_f hb)] at H
   refine Qab (v:=bool false) rfl rfl rfl (Qal rfl rfl (Qal rfl rfl (Qal rfl rfl ?_)))
   show G _ _ _ _ [_,_,_,_,_,_,_,_,_,_,_,_,_,_,_,_,_,_,_,_,_,_,_,_,_,_,_,_,_,_,_,_,_,_,_,_,_,_,_] _
   refine Qal rfl rfl ?_
   refine Qab (v:=bool false) rfl rfl rfl ?_
   refine Qab (v:=bool false) rfl rfl rfl ?_
   show G _ _ _ _ [_,_,_,_,_,_,_,_,_,_,_,_,_,_,_,_,_,_,_,_,_,_,_,_,_,_,_,_,_,_,_,_,_,_,_,_,_,_,_] _
   refine Qaa (Qax rfl (QaS ?_))
   have hs:=hs.pull 0 rfl
   have hs:St _ [_] _:=St.take (Γ':=[]) hs
   exact ha _ _ ⟨false,H,rfl,hs⟩
  intro hb
  rw [if_neg (b_dec_f hb)] at H
  refine Qaa (Qag (Qax rfl ?_))
  obtain rfl:=QsJ H
  subst Hx1_
  have hs:St _ [] _:=St.take (Γ':=[_]) hs
  refine QbG rfl ?_
  exact ha1_ _ _ ⟨x8,Hr1_,rfl,hs⟩
 |false=>
  rw [if_neg Bool.false_ne_true] at H
  show G _ _ _ _ [_,_,_,_,_,_,_,_,_,_,_,_,_,_,_,_,_,_,_,_,_,_,_,_,_,_,_,_,_,_,_,_,_,_,_,_,_,_,_] _
  refine Qab (v:=bool true) rfl rfl rfl (Qaa (Qaw rfl (Qag (Qan [0] rfl ?_))))
  refine Qab (v:=bool false) rfl rfl rfl (Qaa ?_)
  obtain rfl:=QsJ H
  refine QaK Try.func22 (v:=bool false) (res1 rfl rfl) ?_
  have hs:St _ [] _:=St.take (Γ':=[_,_]) hs
  exact ⟨_,rfl,rfl,hs⟩
def Qcj.post (w0:World) (r:Bool) (v:Value) (w:World):Prop:=v=bool r∧St w0 [] w
theorem Qcj.calls {N:Nat} {a1:(Ar Int 14)} {a2:Qaq} {b3:Nat} {w0:World} {r:Bool} (hp1000:w0.heap[b3]?=some (.cells ((Qae a2):List Value).toArray 27 (0,0))) (H:Qcj.f N a1 a2=some r):
 Calls Try.prog 69 #[agg ((encA (encI .i8)) a1).toArray,pointer (some ⟨b3,0,none⟩)] w0 fun e w=>∃ v,e= .returned v∧Qcj.post w0 r v w:=by
 unfold Qcj.f at H
 have hs:St w0 [] w0:=St.refl w0
 refine calls_of_g (n:=6) Try.func69 rfl rfl ?_
 show G _ _ _ _ [_,_,_,_,_,_,_,_] _
 refine Qag (Qan [0,1] rfl ?_)
 refine Qbw hs rfl rfl (cs:=((encA (encI .i8)) a1)) rfl rfl ?_
 intro b5 w hs
 refine Qab (v:=bool false) rfl rfl rfl (Qaa (Qag (Qan [0,1,2,3,4] rfl ?_)))
 refine QaG rfl rfl (es:=(Qae a2)) rfl rfl (fun _=>rfl) (n:=4) (fun _=>rfl) (QaJ.len _) (cells_all (hs.box hp1000)) ?_
 show G _ _ _ _ [_,_,_,_,_,_,_,_] _
 refine QaG rfl rfl (es:=((encA (encI .i8)) a1)) rfl rfl (fun _=>rfl) (n:=14) (fun _=>rfl) ((fkA (n:=14) (he:=(fkI .i8).len) (h1:=(fkI .i8).one)).len _) (cells_all (hs.cells 0 rfl)) ?_
 obtain ⟨r7,Hr7,H⟩:=bind_get H
 refine QaP (args:=[agg (Qae a2).toArray,agg ((encA (encI .i8)) a1).toArray]) rfl rfl (QaT rfl (callFunc_enter Try.func22 rfl rfl) rfl) (QaW.calls (a1:=a2) (a2:=a1) Hr7) ?_
 rintro _ w ⟨rfl,hs2⟩
 have hs:St _ [_] _:=hs.call hs2
 refine Qab (v:=bool (!r7)) rfl rfl rfl ?_
 show G _ _ _ _ [_,_,_,_,_,_,_,_] _
 refine Qab (v:=bool (!r7)) rfl rfl rfl (Qaa ?_)
 obtain rfl:=QsJ H
 refine QaK Try.func69 (v:=bool (!r7)) (res1 rfl rfl) ?_
 have hs:St _ [] _:=St.take (Γ':=[_]) hs
 exact ⟨_,rfl,rfl,hs⟩
def QaB.post (w0:World) (r:Int) (v:Value) (w:World):Prop:=v=int .i64 r∧St w0 [] w
theorem QaB.calls {N:Nat} {a1:(List (Ar Int 14))} {a3:Qaq} {v2:Value} {b4:Nat} {w0:World} {r:Int} (hr0:RdRow (K.ar 14 1 (encI .i8) (fkI .i8).len (fkI .i8).one) w0 v2 a1) (hp200:w0.heap[b4]?=some (.cells ((Qae a3):List Value).toArray 27 (0,0))) (H:QaB.f N a1 a3=some r):
 Calls Try.prog 81 #[v2,Value.func (Fn.func 69) #[] #[pointer (some ⟨b4,0,none⟩)]] w0 fun e w=>∃ v,e= .returned v∧QaB.post w0 r v w:=by
 unfold QaB.f at H
 have hs:St w0 [] w0:=St.refl w0
 refine calls_of_g (n:=17) Try.func81 rfl rfl ?_
 show G _ _ _ _ [_,_,_,_,_,_,_,_,_,_,_,_,_,_,_,_,_,_,_] _
 refine Qag (Qan [0] rfl ?_)
 refine Qab (v:=int .i64 0) rfl rfl rfl (Qaa (Qag (Qag (Qan [0,1,2] rfl ?_))))
 refine Qab (v:=v2) rfl rfl rfl ?_
 show G _ _ _ _ [_,_,_,_,_,_,_,_,_,_,_,_,_,_,_,_,_,_,_] _
 refine Qb1 (hs.rd hr0) rfl rfl rfl rfl rfl ?_
 refine Qab (v:=int .i64 0) rfl rfl rfl (Qaa ?_)
 obtain ⟨o1_,Ho,Hr1_⟩:=bind_get H
 refine Qa2 (J:=fun t w=>QaB.a0 N=some r∧Fr t (fun O=>([O 0,O 1,O 2,O 3,O 4,O 5,O 6,O 7,O 8,O 9,O 10,O 11,O 12,O 13,O 14,O 15,O 16,O 17,O 18]:List Value))∧St w0 [] w) ?_ ?_
 ·
  rintro t w ⟨H,hf,hs⟩
  obtain ⟨O,rfl⟩:=hf.open
  show G _ _ _ _ [_,_,_,_,_,_,_,_,_,_,_,_,_,_,_,_,_,_,_] _
  unfold QaB.a0 at H
  refine Qag (Qan [0] rfl ?_)
  refine Qab (v:=int .i64 (-1)) rfl rfl rfl ?_
  show G _ _ _ _ [_,_,_,_,_,_,_,_,_,_,_,_,_,_,_,_,_,_,_] _
  refine Qaa ?_
  obtain rfl:=QsJ H
  refine QaK Try.func81 (v:=int .i64 (-1)) (res1 rfl rfl) ?_
  have hs:St _ [] _:=St.take (Γ':=[]) hs
  exact ⟨_,rfl,rfl,hs⟩
 intro ha1_
 have hs:St _ [] _:=St.take (Γ':=[]) hs
 refine Qbk (I:=fun n_ t w=>∃ x6:Int,rounds (fun s=>QaB.b0 N a1 a3 s) n_ x6=some o1_∧Fr t (fun O=>([v2,Value.func (Fn.func 69) #[] #[pointer (some ⟨b4,0,none⟩)],O 2,O 3,O 4,O 5,O 6,int .i64 (a1.length:Int),int .i64 x6,O 9,O 10,O 11,O 12,O 13,O 14,O 15,O 16,O 17,O 18]:List Value))∧St w0 [] w) N ⟨0,Ho,rfl,hs⟩ ?_ ?_
 ·
  rintro _ _ ⟨x6,h,_⟩
  exact rounds_zero h
 intro n_ ih1_
 rintro t w ⟨x6,Ho,hf,hs⟩
 obtain ⟨O,rfl⟩:=hf.open
 show G _ _ _ _ [_,_,_,_,_,_,_,_,_,_,_,_,_,_,_,_,_,_,_] _
 obtain ⟨x2_,H,Hx1_⟩:=rounds_succ Ho
 have H:QaB.b0 N a1 a3 x6=some x2_:=H
 unfold QaB.b0 at H
 refine Qag (Qan [0] rfl ?_)
 refine QaR (B:=decide (x6< (a1.length:Int))) rfl rfl rfl ?_ ?_
 ·
  intro hb
  rw [if_pos (b_dec_t hb)] at H
  refine Qaa (Qag (Qaw rfl (QaS (Qag ?_))))
  refine QbP (Qag (Qan [0,1] rfl ?_))
  refine Qab (v:=int .i64 x6) rfl rfl rfl ?_
  refine Qab (v:=int .i64 x6) rfl rfl rfl ?_
  show G _ _ _ _ [_,_,_,_,_,_,_,_,_,_,_,_,_,_,_,_,_,_,_] _
  refine Qaa (Qag (Qan [0,1,2,3,4,5] rfl ?_))
  refine Qab (v:=Value.func (Fn.func 69) #[] #[pointer (some ⟨b4,0,none⟩)]) rfl rfl rfl ?_
  refine Qab (v:=v2) rfl rfl rfl ?_
  refine Qab (v:=int .i64 x6) rfl rfl rfl ?_
  show G _ _ _ _ [_,_,_,_,_,_,_,_,_,_,_,_,_,_,_,_,_,_,_] _
  obtain ⟨g1,H⟩:=ite_get H
  refine QcS (fkA (n:=14) (he:=(fkI .i8).len) (h1:=(fkI .i8).one)) (Ar.rep 14 0) (hs.rd hr0) rfl (fun _=>rfl) g1.1 g1.2 rfl rfl rfl rfl rfl ?_
  intro p7 hp7 lp7 op7
  refine QaG rfl rfl (es:=((encA (encI .i8)) (rdL a1 x6 (Ar.rep 14 0)))) rfl rfl (fun _=>rfl) (n:=14) (fun _=>rfl) ((fkA (n:=14) (he:=(fkI .i8).len) (h1:=(fkI .i8).one)).len _) hp7 ?_
  obtain ⟨r8,Hr8,H⟩:=bind_get H
  refine QaP (args:=[agg ((encA (encI .i8)) (rdL a1 x6 (Ar.rep 14 0))).toArray,pointer (some ⟨b4,0,none⟩)]) rfl rfl (QcT rfl (callFunc_enter Try.func69 rfl rfl) rfl rfl) (Qcj.calls (a1:=rdL a1 x6 (Ar.rep 14 0)) (a2:=a3) (hs.box hp200) Hr8) ?_
  rintro _ w ⟨rfl,hs2⟩
  have hs:St _ [] _:=hs.call hs2
  cases r8 with
  |true=>
   rw [if_pos rfl] at H
   show G _ _ _ _ [_,_,_,_,_,_,_,_,_,_,_,_,_,_,_,_,_,_,_] _
   refine Qaa (Qaw rfl (Qag (Qan [0,1] rfl ?_)))
   refine Qab (v:=int .i64 x6) rfl rfl rfl ?_
   refine Qab (v:=int .i64 x6) rfl rfl rfl (Qaa ?_)
   obtain rfl:=QsJ H
   subst Hx1_
   have H:=QsJ Hr1_
   subst H
   refine QaK Try.func81 (v:=int .i64 x6) (res1 rfl rfl) ?_
   have hs:St _ [] _:=St.take (Γ':=[]) hs
   exact ⟨_,rfl,rfl,hs⟩
  |false=>
   rw [if_neg Bool.false_ne_true] at H
   show G _ _ _ _ [_,_,_,_,_,_,_,_,_,_,_,_,_,_,_,_,_,_,_] _
   refine Qaa (Qax rfl (QaS ?_))
   refine Qa5 (Qan [0,1] rfl ?_)
   refine Qab (v:=int .i64 (i64w (x6+1))) rfl rfl rfl ?_
   refine Qab (v:=int .i64 (i64w (x6+1))) rfl rfl rfl (Qaa ?_)
   obtain rfl:=QsJ H
   have hs:St _ [] _:=St.take (Γ':=[]) hs
   exact ih1_ _ _ ⟨i64w (x6+1),Hx1_,rfl,hs⟩
 intro hb
 rw [if_neg (b_dec_f hb)] at H
 show G _ _ _ _ [_,_,_,_,_,_,_,_,_,_,_,_,_,_,_,_,_,_,_] _
 refine Qaa (Qag (Qax rfl ?_))
 obtain rfl:=QsJ H
 subst Hx1_
 have hs:St _ [] _:=St.take (Γ':=[]) hs
 refine QbG rfl ?_
 exact ha1_ _ _ ⟨Hr1_,rfl,hs⟩
def Qa8.post (w0:World) (r:Bool) (v:Value) (w:World):Prop:=v=bool r∧St w0 [] w
theorem Qa8.calls {N:Nat} {a1:(List (Ar Int 14))} {a3:Qaq} {v2:Value} {b4:Nat} {w0:World} {r:Bool} (hr0:RdRow (K.ar 14 1 (encI .i8) (fkI .i8).len (fkI .i8).one) w0 v2 a1) (hp200:w0.heap[b4]?=some (.cells ((Qae a3):List Value).toArray 27 (0,0))) (H:Qa8.f N a1 a3=some r):
 Calls Try.prog 68 #[v2,Value.func (Fn.func 69) #[] #[pointer (some ⟨b4,0,none⟩)]] w0 fun e w=>∃ v,e= .returned v∧Qa8.post w0 r v w:=by
 unfold Qa8.f at H
 have hs:St w0 [] w0:=St.refl w0
 refine calls_of_g (n:=7) Try.func68 rfl rfl ?_
 show G _ _ _ _ [_,_,_,_,_,_,_,_,_] _
 refine Qag (Qan [0] rfl ?_)
 refine Qab (v:=bool false) rfl rfl rfl ?_
 show G _ _ _ _ [_,_,_,_,_,_,_,_,_] _
 refine Qaa (Qag (Qan [0,1,2,3,4] rfl ?_))
 refine Qab (v:=v2) rfl rfl rfl ?_
 refine Qab (v:=Value.func (Fn.func 69) #[] #[pointer (some ⟨b4,0,none⟩)]) rfl rfl rfl ?_
 obtain ⟨r6,Hr6,H⟩:=bind_get H
 refine QaP (args:=[v2,Value.func (Fn.func 69) #[] #[pointer (some ⟨b4,0,none⟩)]]) rfl rfl (QaT rfl (callFunc_enter Try.func81 rfl rfl) rfl) (QaB.calls (a1:=a1) (a3:=a3) (hs.rd hr0) (hs.box hp200) Hr6) ?_
 rintro _ w ⟨rfl,hs2⟩
 have hs:St _ [] _:=hs.call hs2
 show G _ _ _ _ [_,_,_,_,_,_,_,_,_] _
 refine Qab (v:=bool (decide (r6≥0))) rfl rfl rfl ?_
 refine Qab (v:=bool (decide (r6≥0))) rfl rfl rfl (Qaa ?_)
 obtain rfl:=QsJ H
 refine QaK Try.func68 (v:=bool (decide (r6≥0))) (res1 rfl rfl) ?_
 have hs:St _ [] _:=St.take (Γ':=[]) hs
 exact ⟨_,rfl,rfl,hs⟩
def QaI.post (w0:World) (r:Int) (v:Value) (w:World):Prop:=v=int .i64 r∧St w0 [] w
theorem QaI.calls {N:Nat} {a1:(List Qai)} {a3:Qai} {v2:Value} {w0:World} {r:Int} (hr0:RdRow Qah w0 v2 a1) (H:QaI.f N a1 a3=some r):
 Calls Try.prog 52 #[v2,agg (Qau a3).toArray] w0 fun e w=>∃ v,e= .returned v∧QaI.post w0 r v w:=by
 unfold QaI.f at H
 have hs:St w0 [] w0:=St.refl w0
 refine calls_of_g (n:=17) Try.func52 rfl rfl ?_
 show G _ _ _ _ [_,_,_,_,_,_,_,_,_,_,_,_,_,_,_,_,_,_,_] _
 refine Qag (Qan [0,1] rfl ?_)
 refine Qbw hs rfl rfl (cs:=(Qau a3)) rfl rfl ?_
 intro b4 w hs
 show G _ _ _ _ [_,_,_,_,_,_,_,_,_,_,_,_,_,_,_,_,_,_,_] _
 refine Qab (v:=int .i64 0) rfl rfl rfl (Qaa (Qag (Qag (Qan [0,1,2] rfl ?_))))
 refine Qab (v:=v2) rfl rfl rfl ?_
 refine Qb1 (hs.rd hr0) rfl rfl rfl rfl rfl ?_
 show G _ _ _ _ [_,_,_,_,_,_,_,_,_,_,_,_,_,_,_,_,_,_,_] _
 refine Qab (v:=int .i64 0) rfl rfl rfl (Qaa ?_)
 obtain ⟨o1_,Ho,Hr1_⟩:=bind_get H
 refine Qa2 (J:=fun t w=>QaI.a0 N=some r∧Fr t (fun O=>([O 0,O 1,O 2,O 3,O 4,O 5,O 6,O 7,O 8,O 9,O 10,O 11,O 12,O 13,O 14,O 15,O 16,O 17,O 18]:List Value))∧St w0 [] w) ?_ ?_
 ·
  rintro t w ⟨H,hf,hs⟩
  obtain ⟨O,rfl⟩:=hf.open
  show G _ _ _ _ [_,_,_,_,_,_,_,_,_,_,_,_,_,_,_,_,_,_,_] _
  unfold QaI.a0 at H
  refine Qag (Qan [0] rfl ?_)
  refine Qab (v:=int .i64 (-1)) rfl rfl rfl ?_
  show G _ _ _ _ [_,_,_,_,_,_,_,_,_,_,_,_,_,_,_,_,_,_,_] _
  refine Qaa ?_
  obtain rfl:=QsJ H
  refine QaK Try.func52 (v:=int .i64 (-1)) (res1 rfl rfl) ?_
  have hs:St _ [] _:=St.take (Γ':=[]) hs
  exact ⟨_,rfl,rfl,hs⟩
 intro ha1_
 have hs:=hs.pull 0 rfl
 have hs:St _ [_] _:=St.take (Γ':=[]) hs
 refine Qbk (I:=fun n_ t w=>∃ x6:Int,rounds (fun s=>QaI.b0 N a1 a3 s) n_ x6=some o1_∧Fr t (fun O=>([v2,O 1,O 2,pointer (some ⟨b4,0,none⟩),O 4,O 5,O 6,int .i64 (a1.length:Int),int .i64 x6,O 9,O 10,O 11,O 12,O 13,O 14,O 15,O 16,O 17,O 18]:List Value))∧St w0 [Cells b4 (Qau a3) 53] w) N ⟨0,Ho,rfl,hs⟩ ?_ ?_
 ·
  rintro _ _ ⟨x6,h,_⟩
  exact rounds_zero h
 intro n_ ih1_
 rintro t w ⟨x6,Ho,hf,hs⟩
 obtain ⟨O,rfl⟩:=hf.open
 show G _ _ _ _ [_,_,_,_,_,_,_,_,_,_,_,_,_,_,_,_,_,_,_] _
 obtain ⟨x5_,H,Hx1_⟩:=rounds_succ Ho
 have H:QaI.b0 N a1 a3 x6=some x5_:=H
 unfold QaI.b0 at H
 refine Qag (Qan [0] rfl ?_)
 refine QaR (B:=decide (x6< (a1.length:Int))) rfl rfl rfl ?_ ?_
 ·
  intro hb
  rw [if_pos (b_dec_t hb)] at H
  show G _ _ _ _ [_,_,_,_,_,_,_,_,_,_,_,_,_,_,_,_,_,_,_] _
  refine Qaa (Qag (Qaw rfl (QaS (Qag ?_))))
  refine QbP (Qag (Qan [0,1] rfl ?_))
  refine Qab (v:=int .i64 x6) rfl rfl rfl ?_
  refine Qab (v:=int .i64 x6) rfl rfl rfl (Qaa (Qag ?_))
  refine QcQ (n:=6) rfl [0,1,2,3,4,5] [0,1,2,3,4,5] rfl rfl ?_
  intro rest w hh hbw hO
  have hs:=hs.samew hh hbw
  show G _ _ _ _ [_,_,_,_,_,_,_,_,_,_,_,_,_,_,_,_,_,_,_] _
  obtain ⟨gd2,H⟩:=ite_get H
  obtain ⟨ad3_,ad3_N,ad3_C,had3_⟩:=sl_at (hs.rd hr0) gd2.1 gd2.2
  refine QbT ?_
  intro T hT
  refine QcJ (m0:=0) hO rfl 31 [0,1,2,3,4] [0,0,0,6,14,31] (by decide+kernel) (fun D t w=>∃ O:Nat→Value,t=[v2,O 1,O 2,pointer (some ⟨b4,0,none⟩),O 4,int .i64 x6,O 6,int .i64 (a1.length:Int),int .i64 x6,bool true,int .i64 x6,cnd (D 0) (agg (Qau a3).toArray) (O 11),cnd (D 1) v2 (O 12),cnd (D 2) (int .i64 x6) (O 13),cnd (D 3) (pointer (some (ad3_.add (x6.toNat*2)))) (O 14),cnd (D 4) (agg (Qau (rdL a1 x6 Qay)).toArray) (O 15),O 16,O 17,O 18]∧St w0 [Cells b4 (Qau a3) 53] w) ?_ ⟨?_,⟨?_,⟨?_,⟨?_,⟨?_,trivial⟩⟩⟩⟩⟩ ?_
  ·exact ⟨fun i=>T.getD i undef,(by subst hT;rfl),hs⟩
  ·
   rintro D t w hD hp hcl ⟨O,ht,hs⟩ rest hk
   have hp:AllDone D []:=hp
   simp only [hD,cq,oT] at ht hs
   subst ht
   refine QaG rfl rfl (es:=(Qau a3)) rfl rfl (fun _=>rfl) (n:=2) (fun _=>rfl) (QaL.len _) (cells_all (hs.cells 0 rfl)) ?_
   show G _ _ _ _ [_,_,_,_,_,_,_,_,_,_,_,_,_,_,_,_,_,_,_] _
   refine hk _ _ ⟨O,?_,hs.cast ?_⟩<;>simp only [oT,lq,cq,Nat.reduceBEq]
  ·
   rintro D t w hD hp hcl ⟨O,ht,hs⟩ rest hk
   have hp:AllDone D []:=hp
   have q3_:=ny hcl 3 0 hD
   have q4_:=ny hcl 4 0 q3_
   simp only [hD,q3_,q4_,cq,oT] at ht hs
   subst ht
   refine Qab (v:=v2) rfl rfl rfl ?_
   show G _ _ _ _ [_,_,_,_,_,_,_,_,_,_,_,_,_,_,_,_,_,_,_] _
   refine hk _ _ ⟨O,?_,hs.cast ?_⟩<;>simp only [oT,lq,cq,Nat.reduceBEq,q3_,q4_]
  ·
   rintro D t w hD hp hcl ⟨O,ht,hs⟩ rest hk
   have hp:AllDone D []:=hp
   have q3_:=ny hcl 3 1 hD
   have q4_:=ny hcl 4 0 q3_
   simp only [hD,q3_,q4_,cq,oT] at ht hs
   subst ht
   refine Qab (v:=int .i64 x6) rfl rfl rfl ?_
   show G _ _ _ _ [_,_,_,_,_,_,_,_,_,_,_,_,_,_,_,_,_,_,_] _
   refine hk _ _ ⟨O,?_,hs.cast ?_⟩<;>simp only [oT,lq,cq,Nat.reduceBEq,q3_,q4_]
  ·
   rintro D t w hD hp hcl ⟨O,ht,hs⟩ rest hk
   have hp:AllDone D [1,2]:=hp
   obtain ⟨p1_,p2_,_⟩:=hp
   have q4_:=ny hcl 4 0 hD
   simp only [hD,p1_,p2_,q4_,cq,oT] at ht hs
   subst ht
   refine QcI (κ:=Qah) (m:=2) rfl (hs.rd hr0) rfl (fun _=>rfl) gd2.1 gd2.2 had3_ rfl rfl rfl rfl rfl ?_
   show G _ _ _ _ [_,_,_,_,_,_,_,_,_,_,_,_,_,_,_,_,_,_,_] _
   refine hk _ _ ⟨O,?_,hs.cast ?_⟩<;>simp only [oT,lq,cq,Nat.reduceBEq,p1_,p2_,q4_]
  ·
   rintro D t w hD hp hcl ⟨O,ht,hs⟩ rest hk
   have hp:AllDone D [3]:=hp
   obtain ⟨p3_,_⟩:=hp
   obtain ⟨p1_,p2_,_⟩:=(show D 3=true→AllDone D [1,2] from hcl 3 (by decide)) p3_
   simp only [hD,p1_,p2_,p3_,cq,oT] at ht hs
   subst ht
   refine QaG rfl rfl (es:=(Qau (rdL a1 x6 Qay))) rfl rfl (fun _=>rfl) (n:=2) (fun _=>rfl) (QaL.len _) (cellsAt_of QaL Qay (hs.rd hr0) had3_ gd2.1 gd2.2) ?_
   show G _ _ _ _ [_,_,_,_,_,_,_,_,_,_,_,_,_,_,_,_,_,_,_] _
   refine hk _ _ ⟨O,?_,hs.cast ?_⟩<;>simp only [oT,lq,cq,Nat.reduceBEq,p1_,p2_,p3_]
  intro D t w rest hall hO1_ hI
  obtain ⟨O,ht,hs⟩:=hI
  have p0_:=hall 0 (by decide) rfl
  have p1_:=hall 1 (by decide) rfl
  have p2_:=hall 2 (by decide) rfl
  have p3_:=hall 3 (by decide) rfl
  have p4_:=hall 4 (by decide) rfl
  simp only [p0_,p1_,p2_,p3_,p4_,cq,oT] at ht hs
  subst ht
  obtain ⟨rest,rfl,hO4_⟩:=ord_one (m:=31) hO1_ rfl 5 (m':=63) (by decide+kernel) rfl
  clear hO1_
  refine QaR (B:=decide (a3=(rdL a1 x6 Qay))) rfl rfl (Qdu rfl rfl rfl QcN (QcO _ _ _)) ?_ ?_
  ·
   intro hb
   rw [if_pos (b_dec_t hb)] at H
   show G _ _ _ _ [_,_,_,_,_,_,_,_,_,_,_,_,_,_,_,_,_,_,_] _
   obtain rfl:=ord_end hO4_ rfl (by decide+kernel)
   refine Qaa (Qaw rfl (Qag (Qan [0,1] rfl ?_)))
   refine Qab (v:=int .i64 x6) rfl rfl rfl ?_
   refine Qab (v:=int .i64 x6) rfl rfl rfl (Qaa ?_)
   obtain rfl:=QsJ H
   subst Hx1_
   have H:=QsJ Hr1_
   subst H
   refine QaK Try.func52 (v:=int .i64 x6) (res1 rfl rfl) ?_
   have hs:St _ [] _:=St.take (Γ':=[_]) hs
   exact ⟨_,rfl,rfl,hs⟩
  intro hb
  rw [if_neg (b_dec_f hb)] at H
  show G _ _ _ _ [_,_,_,_,_,_,_,_,_,_,_,_,_,_,_,_,_,_,_] _
  obtain rfl:=ord_end hO4_ rfl (by decide+kernel)
  refine Qaa (Qax rfl (QaS ?_))
  refine Qa5 (Qan [0,1] rfl ?_)
  refine Qab (v:=int .i64 (i64w (x6+1))) rfl rfl rfl ?_
  refine Qab (v:=int .i64 (i64w (x6+1))) rfl rfl rfl (Qaa ?_)
  obtain rfl:=QsJ H
  have hs:=hs.pull 0 rfl
  have hs:St _ [_] _:=St.take (Γ':=[]) hs
  exact ih1_ _ _ ⟨i64w (x6+1),Hx1_,rfl,hs⟩
 intro hb
 rw [if_neg (b_dec_f hb)] at H
 refine Qaa (Qag (Qax rfl ?_))
 obtain rfl:=QsJ H
 subst Hx1_
 have hs:St _ [] _:=St.take (Γ':=[_]) hs
 refine QbG rfl ?_
 exact ha1_ _ _ ⟨Hr1_,rfl,hs⟩
def Qbq.post (w0:World) (r:Bool) (v:Value) (w:World):Prop:=v=bool r∧St w0 [] w
theorem Qbq.calls {N:Nat} {a1:(List Qai)} {a3:Qai} {v2:Value} {w0:World} {r:Bool} (hr0:RdRow Qah w0 v2 a1) (H:Qbq.f N a1 a3=some r):
 Calls Try.prog 50 #[v2,agg (Qau a3).toArray] w0 fun e w=>∃ v,e= .returned v∧Qbq.post w0 r v w:=by
 unfold Qbq.f at H
 have hs:St w0 [] w0:=St.refl w0
 refine calls_of_g (n:=7) Try.func50 rfl rfl ?_
 show G _ _ _ _ [_,_,_,_,_,_,_,_,_] _
 refine Qag (Qan [0,1] rfl ?_)
 refine Qbw hs rfl rfl (cs:=(Qau a3)) rfl rfl ?_
 intro b4 w hs
 refine Qab (v:=bool false) rfl rfl rfl (Qaa (Qag (Qan [0,1,2,3,4] rfl ?_)))
 refine Qab (v:=v2) rfl rfl rfl ?_
 show G _ _ _ _ [_,_,_,_,_,_,_,_,_] _
 refine QaG rfl rfl (es:=(Qau a3)) rfl rfl (fun _=>rfl) (n:=2) (fun _=>rfl) (QaL.len _) (cells_all (hs.cells 0 rfl)) ?_
 obtain ⟨r6,Hr6,H⟩:=bind_get H
 refine QaP (args:=[v2,agg (Qau a3).toArray]) rfl rfl (QaT rfl (callFunc_enter Try.func52 rfl rfl) rfl) (QaI.calls (a1:=a1) (a3:=a3) (hs.rd hr0) Hr6) ?_
 rintro _ w ⟨rfl,hs2⟩
 have hs:St _ [_] _:=hs.call hs2
 refine Qab (v:=bool (decide (r6≥0))) rfl rfl rfl ?_
 show G _ _ _ _ [_,_,_,_,_,_,_,_,_] _
 refine Qab (v:=bool (decide (r6≥0))) rfl rfl rfl (Qaa ?_)
 obtain rfl:=QsJ H
 refine QaK Try.func50 (v:=bool (decide (r6≥0))) (res1 rfl rfl) ?_
 have hs:St _ [] _:=St.take (Γ':=[_]) hs
 exact ⟨_,rfl,rfl,hs⟩
def Qck.post (w0:World) (r:Bool) (v:Value) (w:World):Prop:=v=bool r∧St w0 [] w
theorem Qck.calls {N:Nat} {a1:Qai} {a2:(List Qai)} {b3:Nat} {v4:Value} {w0:World} {r:Bool} (hr5:RdRow Qah w0 v4 a2) (hp1000:w0.heap[b3]?=some (.cells ([v4]:List Value).toArray 39 (0,0))) (H:Qck.f N a1 a2=some r):
 Calls Try.prog 71 #[agg (Qau a1).toArray,pointer (some ⟨b3,0,none⟩)] w0 fun e w=>∃ v,e= .returned v∧Qck.post w0 r v w:=by
 unfold Qck.f at H
 have hs:St w0 [] w0:=St.refl w0
 refine calls_of_g (n:=6) Try.func71 rfl rfl ?_
 show G _ _ _ _ [_,_,_,_,_,_,_,_] _
 refine Qag (Qan [0,1] rfl ?_)
 refine Qbw hs rfl rfl (cs:=(Qau a1)) rfl rfl ?_
 intro b7 w hs
 refine Qab (v:=bool false) rfl rfl rfl (Qaa (Qag (Qan [0,1,2,3,4] rfl ?_)))
 refine Qaz rfl rfl (v:=v4) rfl rfl (fun _=>rfl) (cells_load (hs.box hp1000) 0 1 rfl) ?_
 show G _ _ _ _ [_,_,_,_,_,_,_,_] _
 refine QaG rfl rfl (es:=(Qau a1)) rfl rfl (fun _=>rfl) (n:=2) (fun _=>rfl) (QaL.len _) (cells_all (hs.cells 0 rfl)) ?_
 obtain ⟨r9,Hr9,H⟩:=bind_get H
 refine QaP (args:=[v4,agg (Qau a1).toArray]) rfl rfl (QaT rfl (callFunc_enter Try.func50 rfl rfl) rfl) (Qbq.calls (a1:=a2) (a3:=a1) (hs.rd hr5) Hr9) ?_
 rintro _ w ⟨rfl,hs2⟩
 have hs:St _ [_] _:=hs.call hs2
 refine Qab (v:=bool (!r9)) rfl rfl rfl ?_
 show G _ _ _ _ [_,_,_,_,_,_,_,_] _
 refine Qab (v:=bool (!r9)) rfl rfl rfl (Qaa ?_)
 obtain rfl:=QsJ H
 refine QaK Try.func71 (v:=bool (!r9)) (res1 rfl rfl) ?_
 have hs:St _ [] _:=St.take (Γ':=[_]) hs
 exact ⟨_,rfl,rfl,hs⟩
def QaD.post (w0:World) (r:Int) (v:Value) (w:World):Prop:=v=int .i64 r∧St w0 [] w
theorem QaD.calls {N:Nat} {a1:(List Qai)} {a3:(List Qai)} {v2:Value} {b4:Nat} {v5:Value} {w0:World} {r:Int} (hr0:RdRow Qah w0 v2 a1) (hr6:RdRow Qah w0 v5 a3) (hp200:w0.heap[b4]?=some (.cells ([v5]:List Value).toArray 39 (0,0))) (H:QaD.f N a1 a3=some r):
 Calls Try.prog 82 #[v2,Value.func (Fn.func 71) #[] #[pointer (some ⟨b4,0,none⟩)]] w0 fun e w=>∃ v,e= .returned v∧QaD.post w0 r v w:=by
 unfold QaD.f at H
 have hs:St w0 [] w0:=St.refl w0
 refine calls_of_g (n:=17) Try.func82 rfl rfl ?_
 show G _ _ _ _ [_,_,_,_,_,_,_,_,_,_,_,_,_,_,_,_,_,_,_] _
 refine Qag (Qan [0] rfl ?_)
 refine Qab (v:=int .i64 0) rfl rfl rfl (Qaa (Qag (Qag (Qan [0,1,2] rfl ?_))))
 refine Qab (v:=v2) rfl rfl rfl ?_
 show G _ _ _ _ [_,_,_,_,_,_,_,_,_,_,_,_,_,_,_,_,_,_,_] _
 refine Qb1 (hs.rd hr0) rfl rfl rfl rfl rfl ?_
 refine Qab (v:=int .i64 0) rfl rfl rfl (Qaa ?_)
 obtain ⟨o1_,Ho,Hr1_⟩:=bind_get H
 refine Qa2 (J:=fun t w=>QaD.a0 N=some r∧Fr t (fun O=>([O 0,O 1,O 2,O 3,O 4,O 5,O 6,O 7,O 8,O 9,O 10,O 11,O 12,O 13,O 14,O 15,O 16,O 17,O 18]:List Value))∧St w0 [] w) ?_ ?_
 ·
  rintro t w ⟨H,hf,hs⟩
  obtain ⟨O,rfl⟩:=hf.open
  show G _ _ _ _ [_,_,_,_,_,_,_,_,_,_,_,_,_,_,_,_,_,_,_] _
  unfold QaD.a0 at H
  refine Qag (Qan [0] rfl ?_)
  refine Qab (v:=int .i64 (-1)) rfl rfl rfl ?_
  show G _ _ _ _ [_,_,_,_,_,_,_,_,_,_,_,_,_,_,_,_,_,_,_] _
  refine Qaa ?_
  obtain rfl:=QsJ H
  refine QaK Try.func82 (v:=int .i64 (-1)) (res1 rfl rfl) ?_
  have hs:St _ [] _:=St.take (Γ':=[]) hs
  exact ⟨_,rfl,rfl,hs⟩
 intro ha1_
 have hs:St _ [] _:=St.take (Γ':=[]) hs
 refine Qbk (I:=fun n_ t w=>∃ x8:Int,rounds (fun s=>QaD.b0 N a1 a3 s) n_ x8=some o1_∧Fr t (fun O=>([v2,Value.func (Fn.func 71) #[] #[pointer (some ⟨b4,0,none⟩)],O 2,O 3,O 4,O 5,O 6,int .i64 (a1.length:Int),int .i64 x8,O 9,O 10,O 11,O 12,O 13,O 14,O 15,O 16,O 17,O 18]:List Value))∧St w0 [] w) N ⟨0,Ho,rfl,hs⟩ ?_ ?_
 ·
  rintro _ _ ⟨x8,h,_⟩
  exact rounds_zero h
 intro n_ ih1_
 rintro t w ⟨x8,Ho,hf,hs⟩
 obtain ⟨O,rfl⟩:=hf.open
 show G _ _ _ _ [_,_,_,_,_,_,_,_,_,_,_,_,_,_,_,_,_,_,_] _
 obtain ⟨x2_,H,Hx1_⟩:=rounds_succ Ho
 have H:QaD.b0 N a1 a3 x8=some x2_:=H
 unfold QaD.b0 at H
 refine Qag (Qan [0] rfl ?_)
 refine QaR (B:=decide (x8< (a1.length:Int))) rfl rfl rfl ?_ ?_
 ·
  intro hb
  rw [if_pos (b_dec_t hb)] at H
  refine Qaa (Qag (Qaw rfl (QaS (Qag ?_))))
  refine QbP (Qag (Qan [0,1] rfl ?_))
  refine Qab (v:=int .i64 x8) rfl rfl rfl ?_
  refine Qab (v:=int .i64 x8) rfl rfl rfl ?_
  show G _ _ _ _ [_,_,_,_,_,_,_,_,_,_,_,_,_,_,_,_,_,_,_] _
  refine Qaa (Qag (Qan [0,1,2,3,4,5] rfl ?_))
  refine Qab (v:=Value.func (Fn.func 71) #[] #[pointer (some ⟨b4,0,none⟩)]) rfl rfl rfl ?_
  refine Qab (v:=v2) rfl rfl rfl ?_
  refine Qab (v:=int .i64 x8) rfl rfl rfl ?_
  show G _ _ _ _ [_,_,_,_,_,_,_,_,_,_,_,_,_,_,_,_,_,_,_] _
  obtain ⟨g1,H⟩:=ite_get H
  refine QcS QaL Qay (hs.rd hr0) rfl (fun _=>rfl) g1.1 g1.2 rfl rfl rfl rfl rfl ?_
  intro p9 hp9 lp9 op9
  refine QaG rfl rfl (es:=(Qau (rdL a1 x8 Qay))) rfl rfl (fun _=>rfl) (n:=2) (fun _=>rfl) (QaL.len _) hp9 ?_
  obtain ⟨r10,Hr10,H⟩:=bind_get H
  refine QaP (args:=[agg (Qau (rdL a1 x8 Qay)).toArray,pointer (some ⟨b4,0,none⟩)]) rfl rfl (QcT rfl (callFunc_enter Try.func71 rfl rfl) rfl rfl) (Qck.calls (a1:=rdL a1 x8 Qay) (a2:=a3) (hs.rd hr6) (hs.box hp200) Hr10) ?_
  rintro _ w ⟨rfl,hs2⟩
  have hs:St _ [] _:=hs.call hs2
  cases r10 with
  |true=>
   rw [if_pos rfl] at H
   show G _ _ _ _ [_,_,_,_,_,_,_,_,_,_,_,_,_,_,_,_,_,_,_] _
   refine Qaa (Qaw rfl (Qag (Qan [0,1] rfl ?_)))
   refine Qab (v:=int .i64 x8) rfl rfl rfl ?_
   refine Qab (v:=int .i64 x8) rfl rfl rfl (Qaa ?_)
   obtain rfl:=QsJ H
   subst Hx1_
   have H:=QsJ Hr1_
   subst H
   refine QaK Try.func82 (v:=int .i64 x8) (res1 rfl rfl) ?_
   have hs:St _ [] _:=St.take (Γ':=[]) hs
   exact ⟨_,rfl,rfl,hs⟩
  |false=>
   rw [if_neg Bool.false_ne_true] at H
   show G _ _ _ _ [_,_,_,_,_,_,_,_,_,_,_,_,_,_,_,_,_,_,_] _
   refine Qaa (Qax rfl (QaS ?_))
   refine Qa5 (Qan [0,1] rfl ?_)
   refine Qab (v:=int .i64 (i64w (x8+1))) rfl rfl rfl ?_
   refine Qab (v:=int .i64 (i64w (x8+1))) rfl rfl rfl (Qaa ?_)
   obtain rfl:=QsJ H
   have hs:St _ [] _:=St.take (Γ':=[]) hs
   exact ih1_ _ _ ⟨i64w (x8+1),Hx1_,rfl,hs⟩
 intro hb
 rw [if_neg (b_dec_f hb)] at H
 show G _ _ _ _ [_,_,_,_,_,_,_,_,_,_,_,_,_,_,_,_,_,_,_] _
 refine Qaa (Qag (Qax rfl ?_))
 obtain rfl:=QsJ H
 subst Hx1_
 have hs:St _ [] _:=St.take (Γ':=[]) hs
 refine QbG rfl ?_
 exact ha1_ _ _ ⟨Hr1_,rfl,hs⟩
def Qbe.post (w0:World) (r:Bool) (v:Value) (w:World):Prop:=v=bool r∧St w0 [] w
theorem Qbe.calls {N:Nat} {a1:(List Qai)} {a3:(List Qai)} {v2:Value} {b4:Nat} {v5:Value} {w0:World} {r:Bool} (hr0:RdRow Qah w0 v2 a1) (hr6:RdRow Qah w0 v5 a3) (hp200:w0.heap[b4]?=some (.cells ([v5]:List Value).toArray 39 (0,0))) (H:Qbe.f N a1 a3=some r):
 Calls Try.prog 70 #[v2,Value.func (Fn.func 71) #[] #[pointer (some ⟨b4,0,none⟩)]] w0 fun e w=>∃ v,e= .returned v∧Qbe.post w0 r v w:=by
 unfold Qbe.f at H
 have hs:St w0 [] w0:=St.refl w0
 refine calls_of_g (n:=7) Try.func70 rfl rfl ?_
 show G _ _ _ _ [_,_,_,_,_,_,_,_,_] _
 refine Qag (Qan [0] rfl ?_)
 refine Qab (v:=bool false) rfl rfl rfl ?_
 show G _ _ _ _ [_,_,_,_,_,_,_,_,_] _
 refine Qaa (Qag (Qan [0,1,2,3,4] rfl ?_))
 refine Qab (v:=v2) rfl rfl rfl ?_
 refine Qab (v:=Value.func (Fn.func 71) #[] #[pointer (some ⟨b4,0,none⟩)]) rfl rfl rfl ?_
 obtain ⟨r8,Hr8,H⟩:=bind_get H
 refine QaP (args:=[v2,Value.func (Fn.func 71) #[] #[pointer (some ⟨b4,0,none⟩)]]) rfl rfl (QaT rfl (callFunc_enter Try.func82 rfl rfl) rfl) (QaD.calls (a1:=a1) (a3:=a3) (hs.rd hr0) (hs.rd hr6) (hs.box hp200) Hr8) ?_
 rintro _ w ⟨rfl,hs2⟩
 have hs:St _ [] _:=hs.call hs2
 show G _ _ _ _ [_,_,_,_,_,_,_,_,_] _
 refine Qab (v:=bool (decide (r8≥0))) rfl rfl rfl ?_
 refine Qab (v:=bool (decide (r8≥0))) rfl rfl rfl (Qaa ?_)
 obtain rfl:=QsJ H
 refine QaK Try.func70 (v:=bool (decide (r8≥0))) (res1 rfl rfl) ?_
 have hs:St _ [] _:=St.take (Γ':=[]) hs
 exact ⟨_,rfl,rfl,hs⟩
def Qct.post (w0:World) (r:Int) (v:Value) (w:World):Prop:=v=int .i64 r∧St w0 [] w
theorem Qct.calls {N:Nat} {a1:Bool} {a2:Int} {w0:World} {r:Int} (H:Qct.f N a1 a2=some r):
 Calls Try.prog 53 #[bool a1,int .i64 a2] w0 fun e w=>∃ v,e= .returned v∧Qct.post w0 r v w:=by
 unfold Qct.f at H
 have hs:St w0 [] w0:=St.refl w0
 refine calls_of_g (n:=5) Try.func53 rfl rfl ?_
 show G _ _ _ _ [_,_,_,_,_,_,_] _
 refine Qag (Qan [0] rfl ?_)
 refine Qab (v:=int .i64 0) rfl rfl rfl (Qaa (Qag (Qag (Qan [0] rfl ?_))))
 refine QaR (B:=a1) rfl rfl rfl ?_ ?_
 ·
  intro hb
  rw [if_pos (b_var_t hb)] at H
  refine Qaa (Qaw rfl (Qag (Qan [0] rfl ?_)))
  refine Qab (v:=int .i64 0) rfl rfl rfl ?_
  show G _ _ _ _ [_,_,_,_,_,_,_] _
  refine Qaa ?_
  obtain rfl:=QsJ H
  refine QaK Try.func53 (v:=int .i64 0) (res1 rfl rfl) ?_
  have hs:St _ [] _:=St.take (Γ':=[]) hs
  exact ⟨_,rfl,rfl,hs⟩
 intro hb
 rw [if_neg (b_var_f hb)] at H
 show G _ _ _ _ [_,_,_,_,_,_,_] _
 refine Qaa (Qax rfl (QaS (Qag (Qan [0,1] rfl ?_))))
 refine Qab (v:=int .i64 a2) rfl rfl rfl ?_
 refine Qab (v:=int .i64 a2) rfl rfl rfl (Qaa ?_)
 obtain rfl:=QsJ H
 refine QaK Try.func53 (v:=int .i64 a2) (res1 rfl rfl) ?_
 have hs:St _ [] _:=St.take (Γ':=[]) hs
 exact ⟨_,rfl,rfl,hs⟩
def Qb6.post (w0:World) (r:Int) (v:Value) (w:World):Prop:=v=int .i64 r∧St w0 [] w
theorem Qb6.calls {N:Nat} {a1:Qaq} {a2:(List (Ar Int 14))} {a4:(List Qai)} {v3:Value} {v5:Value} {w0:World} {r:Int} (hr1:RdRow (K.ar 14 1 (encI .i8) (fkI .i8).len (fkI .i8).one) w0 v3 a2) (hr2:RdRow Qah w0 v5 a4) (H:Qb6.f N a1 a2 a4=some r):
 Calls Try.prog 41 #[agg (Qae a1).toArray,v3,v5] w0 fun e w=>∃ v,e= .returned v∧Qb6.post w0 r v w:=by
 unfold Qb6.f at H
 have hs:St w0 [] w0:=St.refl w0
 refine calls_of_g (n:=22) Try.func41 rfl rfl ?_
 show G _ _ _ _ [_,_,_,_,_,_,_,_,_,_,_,_,_,_,_,_,_,_,_,_,_,_,_,_,_] _
 refine Qag (Qan [0,1] rfl ?_)
 refine Qbw hs rfl rfl (cs:=(Qae a1)) rfl rfl ?_
 intro b6 w hs
 show G _ _ _ _ [_,_,_,_,_,_,_,_,_,_,_,_,_,_,_,_,_,_,_,_,_,_,_,_,_] _
 refine Qab (v:=int .i64 0) rfl rfl rfl (Qaa (Qag (Qag (Qan [0,1,2,3,4,5,6,7] rfl ?_))))
 refine QaG rfl rfl (es:=(Qae a1)) rfl rfl (fun _=>rfl) (n:=4) (fun _=>rfl) (QaJ.len _) (cells_all (hs.cells 0 rfl)) ?_
 obtain ⟨r8,Hr8,H⟩:=bind_get H
 refine QaP (args:=[agg (Qae a1).toArray]) rfl rfl (QaT rfl (callFunc_enter Try.func21 rfl rfl) rfl) (Qbr.calls (a1:=a1) Hr8) ?_
 rintro _ w ⟨rfl,hs2⟩
 have hs:St _ [_] _:=hs.call hs2
 cases r8 with
 |true=>
  rw [if_pos rfl] at H
  show G _ _ _ _ [_,_,_,_,_,_,_,_,_,_,_,_,_,_,_,_,_,_,_,_,_,_,_,_,_] _
  refine Qab (v:=bool false) rfl rfl rfl ?_
  refine Qab (v:=bool false) rfl rfl rfl ?_
  refine Qab (v:=v3) rfl rfl rfl ?_
  show G _ _ _ _ [_,_,_,_,_,_,_,_,_,_,_,_,_,_,_,_,_,_,_,_,_,_,_,_,_] _
  refine Qab (v:=Value.func (Fn.func 69) #[] #[pointer (some ⟨b6,0,none⟩)]) rfl rfl (Qc1 rfl rfl) ?_
  obtain ⟨r9,Hr9,H⟩:=bind_get H
  refine QaP (args:=[v3,Value.func (Fn.func 69) #[] #[pointer (some ⟨b6,0,none⟩)]]) rfl rfl (QaT rfl (callFunc_enter Try.func68 rfl rfl) rfl) (Qa8.calls (a1:=a2) (a3:=a1) (hs.rd hr1) (hs.cells 0 rfl) Hr9) ?_
  rintro _ w ⟨rfl,hs2⟩
  have hs:St _ [_] _:=hs.call hs2
  cases r9 with
  |true=>
   rw [if_pos rfl] at H
   refine Qab (v:=bool true) rfl rfl rfl (Qaa (Qaw rfl (Qag (Qan [0] rfl ?_))))
   refine Qab (v:=int .i64 1) rfl rfl rfl ?_
   show G _ _ _ _ [_,_,_,_,_,_,_,_,_,_,_,_,_,_,_,_,_,_,_,_,_,_,_,_,_] _
   refine Qaa ?_
   obtain rfl:=QsJ H
   refine QaK Try.func41 (v:=int .i64 1) (res1 rfl rfl) ?_
   have hs:St _ [] _:=St.take (Γ':=[_]) hs
   exact ⟨_,rfl,rfl,hs⟩
  |false=>
   rw [if_neg Bool.false_ne_true] at H
   refine Qab (v:=bool false) rfl rfl rfl ?_
   show G _ _ _ _ [_,_,_,_,_,_,_,_,_,_,_,_,_,_,_,_,_,_,_,_,_,_,_,_,_] _
   refine Qaa (Qax rfl (QaS (Qag (Qan [0,1,2,3] rfl ?_))))
   refine QaG rfl rfl (es:=(Qae a1)) rfl rfl (fun _=>rfl) (n:=4) (fun _=>rfl) (QaJ.len _) (cells_all (hs.cells 0 rfl)) ?_
   obtain ⟨r10,Hr10,H⟩:=bind_get H
   refine QaP (args:=[agg (Qae a1).toArray]) rfl rfl (QaT rfl (callFunc_enter Try.func39 rfl rfl) rfl) (QbL.calls (a1:=a1) Hr10) ?_
   intro v11 w hs2
   have hs:St _ [_,_] _:=hs.call hs2
   refine QbH hs rfl rfl (z:=(slice none 0 0)) (cs:=[slice none 0 0]) rfl (fun _=>rfl) rfl ?_
   intro b13 w hs
   show G _ _ _ _ [_,_,_,_,_,_,_,_,_,_,_,_,_,_,_,_,_,_,_,_,_,_,_,_,_] _
   refine Qa9 (n:=1) hs rfl rfl rfl (vs:=[v11]) rfl rfl (slCells (hs.row 1 rfl)) (fun _=>rfl) rfl (by intro v hv;simp only [List.mem_cons,List.not_mem_nil,or_false] at hv;subst hv;exact slOne (hs.row 1 rfl)) ?_
   intro w hs
   refine Qaa (Qag (Qag (Qan [0,1,2] rfl ?_)))
   refine Qab (v:=v5) rfl rfl rfl ?_
   refine Qab (v:=Value.func (Fn.func 71) #[] #[pointer (some ⟨b13,0,none⟩)]) rfl rfl (Qc1 rfl rfl) ?_
   obtain ⟨r15,Hr15,H⟩:=bind_get H
   refine QaP (args:=[v5,Value.func (Fn.func 71) #[] #[pointer (some ⟨b13,0,none⟩)]]) rfl rfl (QaT rfl (callFunc_enter Try.func70 rfl rfl) rfl) (Qbe.calls (a1:=a4) (a3:=r10) (hs.rd hr2) (hs.row 1 rfl) (hs.cells 0 rfl) Hr15) ?_
   rintro _ w ⟨rfl,hs2⟩
   have hs:St _ [_,_,_] _:=hs.call hs2
   cases r15 with
   |true=>
    rw [if_pos rfl] at H
    refine Qaa (Qaw rfl (Qag (Qan [0] rfl ?_)))
    refine Qab (v:=int .i64 6) rfl rfl rfl ?_
    show G _ _ _ _ [_,_,_,_,_,_,_,_,_,_,_,_,_,_,_,_,_,_,_,_,_,_,_,_,_] _
    refine Qaa ?_
    obtain rfl:=QsJ H
    refine QaK Try.func41 (v:=int .i64 6) (res1 rfl rfl) ?_
    have hs:St _ [] _:=St.take (Γ':=[_,_,_]) hs
    exact ⟨_,rfl,rfl,hs⟩
   |false=>
    rw [if_neg Bool.false_ne_true] at H
    show G _ _ _ _ [_,_,_,_,_,_,_,_,_,_,_,_,_,_,_,_,_,_,_,_,_,_,_,_,_] _
    refine Qaa (Qax rfl (QaS (Qag (Qan [0,1,2,3,4] rfl ?_))))
    refine Qab (v:=v5) rfl rfl rfl ?_
    refine Qb1 (hs.rd hr2) rfl rfl rfl rfl rfl ?_
    refine Qab (v:=bool (decide ((a4.length:Int)≤27))) rfl rfl rfl ?_
    show G _ _ _ _ [_,_,_,_,_,_,_,_,_,_,_,_,_,_,_,_,_,_,_,_,_,_,_,_,_] _
    obtain ⟨r16,Hr16,H⟩:=bind_get H
    refine QaP (args:=[bool (decide ((a4.length:Int)≤27)),int .i64 2]) rfl rfl (QaT rfl (callFunc_enter Try.func53 rfl rfl) rfl) (Qct.calls (a1:=decide ((a4.length:Int)≤27)) (a2:=2) Hr16) ?_
    rintro _ w ⟨rfl,hs2⟩
    have hs:St _ [_,_,_] _:=hs.call hs2
    refine Qab (v:=int .i64 r16) rfl rfl rfl (Qaa ?_)
    obtain rfl:=QsJ H
    refine QaK Try.func41 (v:=int .i64 r16) (res1 rfl rfl) ?_
    have hs:St _ [] _:=St.take (Γ':=[_,_,_]) hs
    exact ⟨_,rfl,rfl,hs⟩
 |false=>
  rw [if_neg Bool.false_ne_true] at H
  show G _ _ _ _ [_,_,_,_,_,_,_,_,_,_,_,_,_,_,_,_,_,_,_,_,_,_,_,_,_] _
  refine Qab (v:=bool true) rfl rfl rfl ?_
  refine Qab (v:=bool true) rfl rfl rfl (Qal rfl rfl ?_)
  show G _ _ _ _ [_,_,_,_,_,_,_,_,_,_,_,_,_,_,_,_,_,_,_,_,_,_,_,_,_] _
  refine Qal rfl rfl (Qal rfl rfl ?_)
  refine Qab (v:=bool true) rfl rfl rfl ?_
  show G _ _ _ _ [_,_,_,_,_,_,_,_,_,_,_,_,_,_,_,_,_,_,_,_,_,_,_,_,_] _
  refine Qaa (Qaw rfl (Qag (Qan [0] rfl ?_)))
  refine Qab (v:=int .i64 1) rfl rfl rfl (Qaa ?_)
  obtain rfl:=QsJ H
  refine QaK Try.func41 (v:=int .i64 1) (res1 rfl rfl) ?_
  have hs:St _ [] _:=St.take (Γ':=[_]) hs
  exact ⟨_,rfl,rfl,hs⟩
def Qcb.post (w0:World) (r:Int) (v:Value) (w:World):Prop:=v=int .i64 r∧St w0 [] w
theorem Qcb.calls {N:Nat} {a1:(Ar Int 14)} {a2:Qai} {w0:World} {r:Int} (H:Qcb.f N a1 a2=some r):
 Calls Try.prog 51 #[agg ((encA (encI .i8)) a1).toArray,agg (Qau a2).toArray] w0 fun e w=>∃ v,e= .returned v∧Qcb.post w0 r v w:=by
 unfold Qcb.f at H
 have hs:St w0 [] w0:=St.refl w0
 refine calls_of_g (n:=21) Try.func51 rfl rfl ?_
 show G _ _ _ _ [_,_,_,_,_,_,_,_,_,_,_,_,_,_,_,_,_,_,_,_,_,_,_] _
 refine Qag (Qan [0,1,2] rfl ?_)
 refine Qbw hs rfl rfl (cs:=((encA (encI .i8)) a1)) rfl rfl ?_
 intro b3 w hs
 refine Qbw hs rfl rfl (cs:=(Qau a2)) rfl rfl ?_
 intro b5 w hs
 refine Qab (v:=int .i64 0) rfl rfl rfl ?_
 show G _ _ _ _ [_,_,_,_,_,_,_,_,_,_,_,_,_,_,_,_,_,_,_,_,_,_,_] _
 refine Qaa (Qag ?_)
 refine QbP (Qag (Qan [0,1,2,3] rfl ?_))
 refine Qab (v:=pointer (some ⟨b5,0,none⟩)) rfl rfl rfl ?_
 refine Qaz rfl rfl (v:=int .i8 a2.Qbs) rfl rfl (fun _=>rfl) (cells_load (hs.cells 0 rfl) 0 1 rfl) ?_
 refine QaR (B:=decide (a2.Qbs< 0)) rfl rfl rfl ?_ ?_
 ·
  intro hb
  rw [if_pos (b_dec_t hb)] at H
  show G _ _ _ _ [_,_,_,_,_,_,_,_,_,_,_,_,_,_,_,_,_,_,_,_,_,_,_] _
  refine Qab (v:=bool true) rfl rfl rfl (Qaa (Qaw rfl (Qag (Qan [0] rfl ?_))))
  refine Qab (v:=int .i64 0) rfl rfl rfl (Qaa ?_)
  obtain rfl:=QsJ H
  refine QaK Try.func51 (v:=int .i64 0) (res1 rfl rfl) ?_
  have hs:St _ [] _:=St.take (Γ':=[_,_]) hs
  exact ⟨_,rfl,rfl,hs⟩
 intro hb
 rw [if_neg (b_dec_f hb)] at H
 show G _ _ _ _ [_,_,_,_,_,_,_,_,_,_,_,_,_,_,_,_,_,_,_,_,_,_,_] _
 refine Qab (v:=bool false) rfl rfl rfl (Qaa (Qax rfl (Qag (Qan [0,1,2] rfl ?_))))
 refine Qab (v:=pointer (some ⟨b5,1,none⟩)) rfl rfl rfl ?_
 by_cases hb3_:a2.QcM=true
 ·
  rw [if_pos hb3_] at H
  refine Qaz rfl rfl (v:=bool true) rfl rfl (fun _=>rfl) (cells_load (hs.cells 0 rfl) 1 1 (Eq.trans (b:=[bool a2.QcM]) rfl (congrArg (fun b=>[bool b]) hb3_))) ?_
  refine Qab (v:=bool true) rfl rfl rfl (Qaa (Qaw rfl (Qag (Qan [0,1,2,3,4,5] rfl ?_))))
  refine Qab (v:=pointer (some ⟨b5,0,none⟩)) rfl rfl rfl ?_
  show G _ _ _ _ [_,_,_,_,_,_,_,_,_,_,_,_,_,_,_,_,_,_,_,_,_,_,_] _
  refine Qaz rfl rfl (v:=int .i8 a2.Qbs) rfl rfl (fun _=>rfl) (cells_load (hs.cells 0 rfl) 0 1 rfl) ?_
  obtain ⟨g1,H⟩:=ite_get H
  refine Qa1 (n:=a2.Qbs) (m:=1) rfl (fun _=>rfl) g1.1 g1.2 rfl rfl rfl rfl rfl ?_
  refine Qaz rfl rfl (v:=int .i8 (a1.get a2.Qbs 0)) rfl rfl (fun _=>rfl) (by rw [Nat.zero_add];exact cells_load (hs.cells 1 rfl) _ _ (encA_at (fkI .i8).len _ _ 0 g1.1 g1.2)) ?_
  show G _ _ _ _ [_,_,_,_,_,_,_,_,_,_,_,_,_,_,_,_,_,_,_,_,_,_,_] _
  refine Qab (v:=int .i64 (i64w (a1.get a2.Qbs 0))) rfl rfl rfl ?_
  refine Qab (v:=int .i64 (i64w (a1.get a2.Qbs 0))) rfl rfl rfl (Qaa ?_)
  obtain rfl:=QsJ H
  refine QaK Try.func51 (v:=int .i64 (i64w (a1.get a2.Qbs 0))) (res1 rfl rfl) ?_
  have hs:St _ [] _:=St.take (Γ':=[_,_]) hs
  exact ⟨_,rfl,rfl,hs⟩
 rw [if_neg hb3_] at H
 refine Qaz rfl rfl (v:=bool false) rfl rfl (fun _=>rfl) (cells_load (hs.cells 0 rfl) 1 1 (Eq.trans (b:=[bool a2.QcM]) rfl (congrArg (fun b=>[bool b]) (Bool.eq_false_iff.2 hb3_)))) ?_
 show G _ _ _ _ [_,_,_,_,_,_,_,_,_,_,_,_,_,_,_,_,_,_,_,_,_,_,_] _
 refine Qab (v:=bool false) rfl rfl rfl (Qaa (Qax rfl (QaS ?_)))
 refine Qa5 (Qag (Qan [0,1,2,3,4,5,6] rfl ?_))
 refine Qab (v:=pointer (some ⟨b5,0,none⟩)) rfl rfl rfl ?_
 refine Qaz rfl rfl (v:=int .i8 a2.Qbs) rfl rfl (fun _=>rfl) (cells_load (hs.cells 0 rfl) 0 1 rfl) ?_
 show G _ _ _ _ [_,_,_,_,_,_,_,_,_,_,_,_,_,_,_,_,_,_,_,_,_,_,_] _
 obtain ⟨g2,H⟩:=ite_get H
 refine Qa1 (n:=a2.Qbs) (m:=1) rfl (fun _=>rfl) g2.1 g2.2 rfl rfl rfl rfl rfl ?_
 refine Qaz rfl rfl (v:=int .i8 (a1.get a2.Qbs 0)) rfl rfl (fun _=>rfl) (by rw [Nat.zero_add];exact cells_load (hs.cells 1 rfl) _ _ (encA_at (fkI .i8).len _ _ 0 g2.1 g2.2)) ?_
 refine Qab (v:=int .i64 (i64w (a1.get a2.Qbs 0))) rfl rfl rfl ?_
 show G _ _ _ _ [_,_,_,_,_,_,_,_,_,_,_,_,_,_,_,_,_,_,_,_,_,_,_] _
 refine Qab (v:=int .i64 (i64w (0 - (i64w (a1.get a2.Qbs 0))))) rfl rfl rfl ?_
 refine Qab (v:=int .i64 (i64w (0 - (i64w (a1.get a2.Qbs 0))))) rfl rfl rfl (Qaa ?_)
 obtain rfl:=QsJ H
 refine QaK Try.func51 (v:=int .i64 (i64w (0 - (i64w (a1.get a2.Qbs 0))))) (res1 rfl rfl) ?_
 have hs:St _ [] _:=St.take (Γ':=[_,_]) hs
 exact ⟨_,rfl,rfl,hs⟩
end Go.Proofs.YtgpdpedpmhonkaaX
