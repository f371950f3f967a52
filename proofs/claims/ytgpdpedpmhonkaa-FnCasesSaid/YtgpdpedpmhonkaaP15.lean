import Derived.Test.YtgpdpedpmhonkaaProg
import Derived.Test.YtgpdpedpmhonkaaP3
import Derived.Test.YtgpdpedpmhonkaaP4
import Derived.Test.YtgpdpedpmhonkaaP5
import Derived.Test.YtgpdpedpmhonkaaP6
import Derived.Test.YtgpdpedpmhonkaaP11
import Derived.Test.YtgpdpedpmhonkaaP13
import Derived.Test.YtgpdpedpmhonkaaP14
namespace Go.Proofs.YtgpdpedpmhonkaaX
open Go Go.RowKit Go.Proofs
open Go.Value (int pointer bool agg slice string tuple)
set_option maxHeartbeats 8000000
set_option maxRecDepth 100000
set_option linter.unusedVariables false
set_option linter.unusedSimpArgs false
theorem QaH.step {N:Nat} {self:(List (Qad×Bool))→Qac→Int→Option (Bool×(List (Qad×Bool)))} (ih:∀ (a1:(List (Qad×Bool))) (a4:Qac) (a5:Int) (b2:Nat) (wb:World) (Z:As) (w0:World) (r:(Bool×(List (Qad×Bool)))) (hs:St wb [MapAs b2 QaE bool a1,Z] w0),self a1 a4 a5=some r→Calls Try.prog 32 #[Value.map (some b2),agg (Qaf a4).toArray,int .i64 a5] w0 fun e w=>∃ v,e= .returned v∧QaH.post wb Z b2 r v w) (a1:(List (Qad×Bool))) (a4:Qac) (a5:Int) (b2:Nat) (wb:World) (Z:As) (w0:World) (r:(Bool×(List (Qad×Bool)))) (hs:St wb [MapAs b2 QaE bool a1,Z] w0) (H:QaH.body N self a1 a4 a5=some r):
 Calls Try.prog 32 #[Value.map (some b2),agg (Qaf a4).toArray,int .i64 a5] w0 fun e w=>∃ v,e= .returned v∧QaH.post wb Z b2 r v w:=by
 unfold QaH.body at H
 refine calls_of_g (n:=46) Try.func32 rfl rfl ?_
 show G _ _ _ _ [_,_,_,_,_,_,_,_,_,_,_,_,_,_,_,_,_,_,_,_,_,_,_,_,_,_,_,_,_,_,_,_,_,_,_,_,_,_,_,_,_,_,_,_,_,_,_,_,_] _
 refine Qag (Qan [0,1,2,3] rfl ?_)
 refine Qbw hs rfl rfl (cs:=[Value.map (some b2)]) rfl rfl ?_
 intro b6 w hs
 refine Qbw hs rfl rfl (cs:=(Qaf a4)) rfl rfl ?_
 intro b8 w hs
 refine Qbw hs rfl rfl (cs:=((encI .i64) a5)) rfl rfl ?_
 intro b10 w hs
 show G _ _ _ _ [_,_,_,_,_,_,_,_,_,_,_,_,_,_,_,_,_,_,_,_,_,_,_,_,_,_,_,_,_,_,_,_,_,_,_,_,_,_,_,_,_,_,_,_,_,_,_,_,_] _
 refine Qab (v:=bool false) rfl rfl rfl (Qaa (Qag (Qan [0] rfl ?_)))
 refine Qab (v:=int .i64 1) rfl rfl rfl (Qaa (Qag (Qag (Qan [0,1] rfl ?_))))
 refine Qaz rfl rfl (v:=int .i64 a5) rfl rfl (fun _=>rfl) (cells_load (hs.cells 0 rfl) 0 1 rfl) ?_
 show G _ _ _ _ [_,_,_,_,_,_,_,_,_,_,_,_,_,_,_,_,_,_,_,_,_,_,_,_,_,_,_,_,_,_,_,_,_,_,_,_,_,_,_,_,_,_,_,_,_,_,_,_,_] _
 refine Qab (v:=int .i64 0) rfl rfl rfl (Qaa ?_)
 obtain ⟨o1_,Ho,Hr1_⟩:=bind_get H
 refine Qa2 (J:=fun t w=>∃ x14:Int,QaH.a0 N self a4 a1 a5 x14=some r∧Fr t (fun O=>([O 0,O 1,O 2,pointer (some ⟨b6,0,none⟩),pointer (some ⟨b8,0,none⟩),pointer (some ⟨b10,0,none⟩),O 6,int .i64 x14,O 8,O 9,O 10,O 11,O 12,O 13,O 14,O 15,O 16,O 17,O 18,O 19,O 20,O 21,O 22,O 23,O 24,O 25,O 26,O 27,O 28,O 29,O 30,O 31,O 32,O 33,O 34,O 35,O 36,O 37,O 38,O 39,O 40,O 41,O 42,O 43,O 44,O 45,O 46,O 47,O 48]:List Value))∧St wb [Cells b6 ([Value.map (some b2)]) 67,MapAs b2 QaE bool a1,Cells b8 (Qaf a4) 71,Cells b10 ((encI .i64) a5) 2,Z] w) ?_ ?_
 ·
  rintro t w ⟨x14,H,hf,hs⟩
  obtain ⟨O,rfl⟩:=hf.open
  show G _ _ _ _ [_,_,_,_,_,_,_,_,_,_,_,_,_,_,_,_,_,_,_,_,_,_,_,_,_,_,_,_,_,_,_,_,_,_,_,_,_,_,_,_,_,_,_,_,_,_,_,_,_] _
  unfold QaH.a0 at H
  refine Qag (Qag (Qan [0,1,2] rfl ?_))
  refine QaG rfl rfl (es:=(Qaf a4)) rfl rfl (fun _=>rfl) (n:=5) (fun _=>rfl) (Qbc.len _) (cells_all (hs.cells 2 rfl)) ?_
  show G _ _ _ _ [_,_,_,_,_,_,_,_,_,_,_,_,_,_,_,_,_,_,_,_,_,_,_,_,_,_,_,_,_,_,_,_,_,_,_,_,_,_,_,_,_,_,_,_,_,_,_,_,_] _
  obtain ⟨r15,Hr15,H⟩:=bind_get H
  refine QaP (args:=[agg (Qaf a4).toArray]) rfl rfl (QaT rfl (callFunc_enter Try.func59 rfl rfl) rfl) (Qb4.calls (a1:=a4) Hr15) ?_
  rintro _ w ⟨rfl,hs2⟩
  have hs:St _ [_,_,_,_,_] _:=hs.call hs2
  refine Qab (v:=int .i64 r15) rfl rfl rfl (Qaa ?_)
  refine QbP (Qag (Qan [0,1,2] rfl ?_))
  refine Qab (v:=int .i64 r15) rfl rfl rfl ?_
  refine QaR (B:=decide (r15≤1)) rfl rfl rfl ?_ ?_
  ·
   intro hb
   rw [if_pos (b_dec_t hb)] at H
   show G _ _ _ _ [_,_,_,_,_,_,_,_,_,_,_,_,_,_,_,_,_,_,_,_,_,_,_,_,_,_,_,_,_,_,_,_,_,_,_,_,_,_,_,_,_,_,_,_,_,_,_,_,_] _
   refine Qab (v:=bool true) rfl rfl rfl (Qaa (Qaw rfl (Qag (Qan [0] rfl ?_))))
   refine Qab (v:=bool true) rfl rfl rfl (Qaa ?_)
   obtain rfl:=QsJ H
   refine QaK Try.func32 (v:=bool true) (res1 rfl rfl) ?_
   have hs:=hs.pull 4 rfl
   have hs:=hs.pull 2 rfl
   have hs:St _ [_,_] _:=St.take (Γ':=[_,_,_]) hs
   exact ⟨_,rfl,rfl,hs⟩
  intro hb
  rw [if_neg (b_dec_f hb)] at H
  show G _ _ _ _ [_,_,_,_,_,_,_,_,_,_,_,_,_,_,_,_,_,_,_,_,_,_,_,_,_,_,_,_,_,_,_,_,_,_,_,_,_,_,_,_,_,_,_,_,_,_,_,_,_] _
  refine Qab (v:=bool false) rfl rfl rfl (Qaa (Qax rfl (Qag (Qan [0,1,2,3,4,5,6,7] rfl ?_))))
  refine Qaz rfl rfl (v:=int .i64 a5) rfl rfl (fun _=>rfl) (cells_load (hs.cells 3 rfl) 0 1 rfl) ?_
  refine QaR (B:=a5==0) rfl rfl rfl ?_ ?_
  ·
   intro hb
   rw [if_pos (b_beq_t hb)] at H
   refine Qab (v:=bool true) rfl rfl rfl (Qal rfl rfl (Qal rfl rfl (Qal rfl rfl ?_)))
   refine Qab (v:=bool true) rfl rfl rfl ?_
   show G _ _ _ _ [_,_,_,_,_,_,_,_,_,_,_,_,_,_,_,_,_,_,_,_,_,_,_,_,_,_,_,_,_,_,_,_,_,_,_,_,_,_,_,_,_,_,_,_,_,_,_,_,_] _
   refine Qab (v:=bool true) rfl rfl rfl (Qaa (Qaw rfl (Qag (Qan [0] rfl ?_))))
   refine Qab (v:=bool false) rfl rfl rfl (Qaa ?_)
   obtain rfl:=QsJ H
   refine QaK Try.func32 (v:=bool false) (res1 rfl rfl) ?_
   have hs:=hs.pull 4 rfl
   have hs:=hs.pull 2 rfl
   have hs:St _ [_,_] _:=St.take (Γ':=[_,_,_]) hs
   exact ⟨_,rfl,rfl,hs⟩
  intro hb
  rw [if_neg (b_beq_f hb)] at H
  show G _ _ _ _ [_,_,_,_,_,_,_,_,_,_,_,_,_,_,_,_,_,_,_,_,_,_,_,_,_,_,_,_,_,_,_,_,_,_,_,_,_,_,_,_,_,_,_,_,_,_,_,_,_] _
  refine Qab (v:=bool false) rfl rfl rfl ?_
  refine Qab (v:=int .i64 r15) rfl rfl rfl ?_
  refine Qab (v:=int .i64 x14) rfl rfl rfl ?_
  refine Qab (v:=bool (decide (r15>x14))) rfl rfl rfl ?_
  refine QaR (B:=decide (r15>x14)) rfl rfl rfl ?_ ?_
  ·
   intro hb
   rw [if_pos (b_dec_t hb)] at H
   refine Qab (v:=bool true) rfl rfl rfl (Qaa (Qaw rfl (Qag (Qan [0] rfl ?_))))
   refine Qab (v:=bool false) rfl rfl rfl ?_
   show G _ _ _ _ [_,_,_,_,_,_,_,_,_,_,_,_,_,_,_,_,_,_,_,_,_,_,_,_,_,_,_,_,_,_,_,_,_,_,_,_,_,_,_,_,_,_,_,_,_,_,_,_,_] _
   refine Qaa ?_
   obtain rfl:=QsJ H
   refine QaK Try.func32 (v:=bool false) (res1 rfl rfl) ?_
   have hs:=hs.pull 4 rfl
   have hs:=hs.pull 2 rfl
   have hs:St _ [_,_] _:=St.take (Γ':=[_,_,_]) hs
   exact ⟨_,rfl,rfl,hs⟩
  intro hb
  rw [if_neg (b_dec_f hb)] at H
  refine Qab (v:=bool false) rfl rfl rfl ?_
  show G _ _ _ _ [_,_,_,_,_,_,_,_,_,_,_,_,_,_,_,_,_,_,_,_,_,_,_,_,_,_,_,_,_,_,_,_,_,_,_,_,_,_,_,_,_,_,_,_,_,_,_,_,_] _
  refine Qaa (Qax rfl (QaS ?_))
  refine Qa5 (Qag (Qan [0,1,2,3,4] rfl ?_))
  refine QaG rfl rfl (es:=(Qaf a4)) rfl rfl (fun _=>rfl) (n:=5) (fun _=>rfl) (Qbc.len _) (cells_all (hs.cells 2 rfl)) ?_
  refine Qaz rfl rfl (v:=int .i64 a5) rfl rfl (fun _=>rfl) (cells_load (hs.cells 3 rfl) 0 1 rfl) ?_
  show G _ _ _ _ [_,_,_,_,_,_,_,_,_,_,_,_,_,_,_,_,_,_,_,_,_,_,_,_,_,_,_,_,_,_,_,_,_,_,_,_,_,_,_,_,_,_,_,_,_,_,_,_,_] _
  refine Qab (v:=agg (Qbv (⟨a4,a5⟩:Qad)).toArray) rfl rfl (Qcn (cs:=(Qbv (⟨a4,a5⟩:Qad))) (segs:=[[int .i64 0,int .i64 0,int .i64 0,int .i64 0,bool false],[int .i64 0]]) rfl rfl (fun _=>rfl) ⟨rfl,(fun _=>rfl),rfl,(fun _=>rfl),trivial⟩ (by simp only [List.map_cons,List.map_nil,List.forall_mem_cons,List.not_mem_nil,false_implies,implies_true,and_true];exact ⟨⟨_,rfl,Qbc.len _⟩,⟨_,rfl,rfl⟩⟩) (by first|rfl|(simp [ev,Qbv];done)|(simp [ev,Qbv];rfl))) ?_
  show G _ _ _ _ [_,_,_,_,_,_,_,_,_,_,_,_,_,_,_,_,_,_,_,_,_,_,_,_,_,_,_,_,_,_,_,_,_,_,_,_,_,_,_,_,_,_,_,_,_,_,_,_,_] _
  refine QbH hs rfl rfl (z:=(agg #[int .i64 0,int .i64 0,int .i64 0,int .i64 0,bool false,int .i64 0])) (cs:=(Qbv QcP)) rfl (fun _=>rfl) rfl ?_
  intro b16 w hs
  refine Qa9 (n:=6) hs (Qcp.len _) rfl rfl (vs:=(Qbv (⟨a4,a5⟩:Qad))) rfl rfl rfl (fun _=>rfl) (Qcp.len _) (Qcp.one _) ?_
  intro w hs
  refine Qaa (Qag (Qan [0,1,2,3,4,5,6,7,8] rfl ?_))
  refine Qaz rfl rfl (v:=Value.map (some b2)) rfl rfl (fun _=>rfl) (cells_load (hs.cells 1 rfl) 0 1 rfl) ?_
  refine QaG rfl rfl (es:=(Qbv (⟨a4,a5⟩:Qad))) rfl rfl (fun _=>rfl) (n:=6) (fun _=>rfl) (Qcp.len _) (cells_all (hs.cells 0 rfl)) ?_
  show G _ _ _ _ [_,_,_,_,_,_,_,_,_,_,_,_,_,_,_,_,_,_,_,_,_,_,_,_,_,_,_,_,_,_,_,_,_,_,_,_,_,_,_,_,_,_,_,_,_,_,_,_,_] _
  refine Qab (v:=tuple #[bool (mGet a1 (⟨a4,a5⟩:Qad) false),bool (mIdx a1 (⟨a4,a5⟩:Qad)).isSome]) rfl rfl (Qdv QcK (a:=(⟨a4,a5⟩:Qad)) (z:=false) (hs.mp 2 rfl) rfl Try.underlying67 rfl rfl (fun _=>rfl)) ?_
  refine Qab (v:=tuple #[bool (mGet a1 (⟨a4,a5⟩:Qad) false),bool (mIdx a1 (⟨a4,a5⟩:Qad)).isSome]) rfl rfl rfl ?_
  refine Qab (v:=bool (mGet a1 (⟨a4,a5⟩:Qad) false)) rfl rfl rfl ?_
  refine Qab (v:=bool (mIdx a1 (⟨a4,a5⟩:Qad)).isSome) rfl rfl rfl ?_
  refine QbH hs rfl rfl (z:=(bool false)) (cs:=(encB false)) rfl (fun _=>rfl) rfl ?_
  intro b18 w hs
  refine Qa9 (n:=1) hs (fkB.len _) rfl rfl (vs:=(encB (mGet a1 (⟨a4,a5⟩:Qad) false))) rfl rfl rfl (fun _=>rfl) (fkB.len _) (fkB.one _) ?_
  intro w hs
  refine Qab (v:=bool (mIdx a1 (⟨a4,a5⟩:Qad)).isSome) rfl rfl rfl ?_
  show G _ _ _ _ [_,_,_,_,_,_,_,_,_,_,_,_,_,_,_,_,_,_,_,_,_,_,_,_,_,_,_,_,_,_,_,_,_,_,_,_,_,_,_,_,_,_,_,_,_,_,_,_,_] _
  refine Qaa (Qag (Qag (Qan [0,1] rfl ?_)))
  refine QaR (B:=(mIdx a1 (⟨a4,a5⟩:Qad)).isSome) rfl rfl rfl ?_ ?_
  ·
   intro hb
   rw [if_pos (b_var_t hb)] at H
   refine Qab (v:=bool false) rfl rfl rfl ?_
   show G _ _ _ _ [_,_,_,_,_,_,_,_,_,_,_,_,_,_,_,_,_,_,_,_,_,_,_,_,_,_,_,_,_,_,_,_,_,_,_,_,_,_,_,_,_,_,_,_,_,_,_,_,_] _
   refine Qaa (Qax rfl (QaS (Qag (Qan [0,1] rfl ?_))))
   refine Qaz rfl rfl (v:=bool (mGet a1 (⟨a4,a5⟩:Qad) false)) rfl rfl (fun _=>rfl) (cells_load (hs.cells 0 rfl) 0 1 rfl) ?_
   refine Qab (v:=bool (mGet a1 (⟨a4,a5⟩:Qad) false)) rfl rfl rfl (Qaa ?_)
   obtain rfl:=QsJ H
   refine QaK Try.func32 (v:=bool (mGet a1 (⟨a4,a5⟩:Qad) false)) (res1 rfl rfl) ?_
   have hs:=hs.pull 6 rfl
   have hs:=hs.pull 4 rfl
   have hs:St _ [_,_] _:=St.take (Γ':=[_,_,_,_,_]) hs
   exact ⟨_,rfl,rfl,hs⟩
  intro hb
  rw [if_neg (b_var_f hb)] at H
  refine Qab (v:=bool true) rfl rfl rfl (Qaa (Qaw rfl (Qag (Qan [0,1,2] rfl ?_))))
  refine QaG rfl rfl (es:=(Qaf a4)) rfl rfl (fun _=>rfl) (n:=5) (fun _=>rfl) (Qbc.len _) (cells_all (hs.cells 4 rfl)) ?_
  refine Qab (v:=Value.func (Fn.func 61) #[] #[pointer (some ⟨b6,0,none⟩),pointer (some ⟨b8,0,none⟩),pointer (some ⟨b10,0,none⟩),pointer (some ⟨b18,0,none⟩)]) rfl rfl (Qc1 rfl rfl) ?_
  show G _ _ _ _ [_,_,_,_,_,_,_,_,_,_,_,_,_,_,_,_,_,_,_,_,_,_,_,_,_,_,_,_,_,_,_,_,_,_,_,_,_,_,_,_,_,_,_,_,_,_,_,_,_] _
  obtain ⟨r20,Hr20,H⟩:=bind_get H
  have hs:=hs.pull 0 rfl
  have hs:=hs.pull 5 rfl
  have hs:=hs.pull 5 rfl
  have hs:=hs.pull 4 rfl
  have hs:St _ [_,_,_,_,_,_,_] _:=hs.pull 5 rfl
  have hs:=hs.pack 5
  refine QaP (args:=[agg (Qaf a4).toArray,Value.func (Fn.func 61) #[] #[pointer (some ⟨b6,0,none⟩),pointer (some ⟨b8,0,none⟩),pointer (some ⟨b10,0,none⟩),pointer (some ⟨b18,0,none⟩)]]) rfl rfl (QaT rfl (callFunc_enter Try.func60 rfl rfl) rfl) (Qbt.calls ih (a1:=a4) (a2:=a1) (a7:=a4) (a10:=a5) (a13:=mGet a1 (⟨a4,a5⟩:Qad) false) hs Hr20) ?_
  rintro _ w ⟨rfl,hs⟩
  have hs:=St.unpack (Γ:=[_,_,_,_,_]) hs
  have hs:St _ [_,_,_,_,_,_,_] _:=hs
  refine Qaa (Qan [0,1,2,3] rfl ?_)
  refine Qaz rfl rfl (v:=Value.map (some b2)) rfl rfl (fun _=>rfl) (cells_load (hs.cells 1 rfl) 0 1 rfl) ?_
  refine QaG rfl rfl (es:=(Qbv (⟨a4,a5⟩:Qad))) rfl rfl (fun _=>rfl) (n:=6) (fun _=>rfl) (Qcp.len _) (cells_all (hs.cells 5 rfl)) ?_
  show G _ _ _ _ [_,_,_,_,_,_,_,_,_,_,_,_,_,_,_,_,_,_,_,_,_,_,_,_,_,_,_,_,_,_,_,_,_,_,_,_,_,_,_,_,_,_,_,_,_,_,_,_,_] _
  refine Qaz rfl rfl (v:=bool r20.2.2.2.2) rfl rfl (fun _=>rfl) (cells_load (hs.cells 4 rfl) 0 1 rfl) ?_
  refine QdC QcK (a:=(⟨a4,a5⟩:Qad)) (v:=r20.2.2.2.2) hs rfl rfl (.inl rfl) Try.underlying67 rfl rfl rfl ?_
  intro w hs
  refine Qaa (Qag (Qan [0,1] rfl ?_))
  refine Qaz rfl rfl (v:=bool r20.2.2.2.2) rfl rfl (fun _=>rfl) (cells_load (hs.cells 4 rfl) 0 1 rfl) ?_
  refine Qab (v:=bool r20.2.2.2.2) rfl rfl rfl ?_
  show G _ _ _ _ [_,_,_,_,_,_,_,_,_,_,_,_,_,_,_,_,_,_,_,_,_,_,_,_,_,_,_,_,_,_,_,_,_,_,_,_,_,_,_,_,_,_,_,_,_,_,_,_,_] _
  refine Qaa ?_
  obtain rfl:=QsJ H
  refine QaK Try.func32 (v:=bool r20.2.2.2.2) (res1 rfl rfl) ?_
  have hs:=hs.pull 6 rfl
  have hs:=hs.pull 1 rfl
  have hs:St _ [_,_] _:=St.take (Γ':=[_,_,_,_,_]) hs
  exact ⟨_,rfl,rfl,hs⟩
 intro ha1_
 have hs:=hs.pull 4 rfl
 have hs:=hs.pull 1 rfl
 have hs:=hs.pull 2 rfl
 have hs:=hs.pull 3 rfl
 have hs:=hs.pull 4 rfl
 have hs:St _ [_,_,_,_,_] _:=St.take (Γ':=[]) hs
 refine Qbk (I:=fun n_ t w=>∃ x12:Int,∃ x13:Int,rounds (fun s=>QaH.b0 N self a5 s.1 s.2) n_ (x12,x13)=some o1_∧Fr t (fun O=>([O 0,O 1,O 2,pointer (some ⟨b6,0,none⟩),pointer (some ⟨b8,0,none⟩),pointer (some ⟨b10,0,none⟩),O 6,int .i64 x12,O 8,O 9,O 10,O 11,int .i64 a5,int .i64 x13,O 14,O 15,O 16,O 17,O 18,O 19,O 20,O 21,O 22,O 23,O 24,O 25,O 26,O 27,O 28,O 29,O 30,O 31,O 32,O 33,O 34,O 35,O 36,O 37,O 38,O 39,O 40,O 41,O 42,O 43,O 44,O 45,O 46,O 47,O 48]:List Value))∧St wb [MapAs b2 QaE bool a1,Cells b6 ([Value.map (some b2)]) 67,Cells b8 (Qaf a4) 71,Cells b10 ((encI .i64) a5) 2,Z] w) N ⟨1,0,Ho,rfl,hs⟩ ?_ ?_
 ·
  rintro _ _ ⟨x12,x13,h,_⟩
  exact rounds_zero h
 intro n_ ih1_
 rintro t w ⟨x12,x13,Ho,hf,hs⟩
 obtain ⟨O,rfl⟩:=hf.open
 show G _ _ _ _ [_,_,_,_,_,_,_,_,_,_,_,_,_,_,_,_,_,_,_,_,_,_,_,_,_,_,_,_,_,_,_,_,_,_,_,_,_,_,_,_,_,_,_,_,_,_,_,_,_] _
 obtain ⟨x1_,H,Hx1_⟩:=rounds_succ Ho
 have H:QaH.b0 N self a5 x12 x13=some x1_:=H
 unfold QaH.b0 at H
 refine Qag (Qan [0] rfl ?_)
 refine QaR (B:=decide (x13< a5)) rfl rfl rfl ?_ ?_
 ·
  intro hb
  rw [if_pos (b_dec_t hb)] at H
  refine Qaa (Qag (Qaw rfl (QaS (Qag ?_))))
  refine QbP (Qan [0,1,2] rfl ?_)
  refine Qab (v:=int .i64 x12) rfl rfl rfl ?_
  refine Qab (v:=int .i64 (i64w (x12*3))) rfl rfl rfl ?_
  show G _ _ _ _ [_,_,_,_,_,_,_,_,_,_,_,_,_,_,_,_,_,_,_,_,_,_,_,_,_,_,_,_,_,_,_,_,_,_,_,_,_,_,_,_,_,_,_,_,_,_,_,_,_] _
  refine Qab (v:=int .i64 (i64w (x12*3))) rfl rfl rfl (Qaa ?_)
  refine Qa5 (Qan [0,1] rfl ?_)
  refine Qab (v:=int .i64 (i64w (x13+1))) rfl rfl rfl ?_
  refine Qab (v:=int .i64 (i64w (x13+1))) rfl rfl rfl (Qaa ?_)
  obtain rfl:=QsJ H
  have hs:=hs.pull 4 rfl
  have hs:=hs.pull 4 rfl
  have hs:=hs.pull 4 rfl
  have hs:=hs.pull 4 rfl
  have hs:=hs.pull 4 rfl
  have hs:St _ [_,_,_,_,_] _:=St.take (Γ':=[]) hs
  exact ih1_ _ _ ⟨i64w (x12*3),i64w (x13+1),Hx1_,rfl,hs⟩
 intro hb
 rw [if_neg (b_dec_f hb)] at H
 refine Qaa (Qag (Qax rfl ?_))
 obtain rfl:=QsJ H
 subst Hx1_
 have hs:=hs.pull 4 rfl
 have hs:=hs.pull 4 rfl
 have hs:=hs.pull 4 rfl
 have hs:=hs.pull 3 rfl
 have hs:=hs.pull 4 rfl
 have hs:St _ [_,_,_,_,_] _:=St.take (Γ':=[]) hs
 refine QbG rfl ?_
 exact ha1_ _ _ ⟨x12,Hr1_,rfl,hs⟩
theorem QaH.rec {N:Nat}:∀ (k:Nat) (a1:(List (Qad×Bool))) (a4:Qac) (a5:Int) (b2:Nat) (wb:World) (Z:As) (w0:World) (r:(Bool×(List (Qad×Bool)))) (hs:St wb [MapAs b2 QaE bool a1,Z] w0) (H:QaH.g N k a1 a4 a5=some r),Calls Try.prog 32 #[Value.map (some b2),agg (Qaf a4).toArray,int .i64 a5] w0 fun e w=>∃ v,e= .returned v∧QaH.post wb Z b2 r v w
 |0,a1,a4,a5,b2,wb,Z,w0,r,hs,H=>by cases H
 |k+1,a1,a4,a5,b2,wb,Z,w0,r,hs,H=>QaH.step (fun a1 a4 a5 b2 wb Z w0 r hs H=>QaH.rec k a1 a4 a5 b2 wb Z w0 r hs H) a1 a4 a5 b2 wb Z w0 r hs H
theorem QaH.ih {N:Nat}:∀ (a1:(List (Qad×Bool))) (a4:Qac) (a5:Int) (b2:Nat) (wb:World) (Z:As) (w0:World) (r:(Bool×(List (Qad×Bool)))) (hs:St wb [MapAs b2 QaE bool a1,Z] w0),QaH.f N a1 a4 a5=some r→Calls Try.prog 32 #[Value.map (some b2),agg (Qaf a4).toArray,int .i64 a5] w0 fun e w=>∃ v,e= .returned v∧QaH.post wb Z b2 r v w:=fun a1 a4 a5 b2 wb Z w0 r hs H=>QaH.rec N a1 a4 a5 b2 wb Z w0 r hs H
theorem QaH.calls {N:Nat} {a1:(List (Qad×Bool))} {a4:Qac} {a5:Int} {b2:Nat} {wb:World} {Z:As} {w0:World} {r:(Bool×(List (Qad×Bool)))} (hs:St wb [MapAs b2 QaE bool a1,Z] w0) (H:QaH.f N a1 a4 a5=some r):
 Calls Try.prog 32 #[Value.map (some b2),agg (Qaf a4).toArray,int .i64 a5] w0 fun e w=>∃ v,e= .returned v∧QaH.post wb Z b2 r v w:=QaH.rec N a1 a4 a5 b2 wb Z w0 r hs H
def Qbm.post (w0:World) (r:(Int×Int)) (v:Value) (w:World):Prop:=v=tuple #[int .i64 r.1,int .i64 r.2]∧St w0 [] w
theorem Qbm.calls {N:Nat} {a1:Qaq} {w0:World} {r:(Int×Int)} (H:Qbm.f N a1=some r):
 Calls Try.prog 10 #[agg (Qae a1).toArray] w0 fun e w=>∃ v,e= .returned v∧Qbm.post w0 r v w:=by
 unfold Qbm.f at H
 have hs:St w0 [] w0:=St.refl w0
 refine calls_of_g (n:=20) Try.func10 rfl rfl ?_
 show G _ _ _ _ [_,_,_,_,_,_,_,_,_,_,_,_,_,_,_,_,_,_,_,_,_] _
 refine Qag (Qan [0,1,2] rfl ?_)
 refine Qbw hs rfl rfl (cs:=(Qae a1)) rfl rfl ?_
 intro b2 w hs
 refine Qab (v:=int .i64 0) rfl rfl rfl ?_
 show G _ _ _ _ [_,_,_,_,_,_,_,_,_,_,_,_,_,_,_,_,_,_,_,_,_] _
 refine Qab (v:=int .i64 0) rfl rfl rfl (Qaa (Qag (Qag (Qan [0,1,2] rfl ?_))))
 refine QaG rfl rfl (es:=(Qae a1)) rfl rfl (fun _=>rfl) (n:=4) (fun _=>rfl) (QaJ.len _) (cells_all (hs.cells 0 rfl)) ?_
 obtain ⟨r4,Hr4,H⟩:=bind_get H
 refine QaP (args:=[agg (Qae a1).toArray]) rfl rfl (QaT rfl (callFunc_enter Try.func21 rfl rfl) rfl) (Qbr.calls (a1:=a1) Hr4) ?_
 rintro _ w ⟨rfl,hs2⟩
 have hs:St _ [_] _:=hs.call hs2
 cases r4 with
 |true=>
  rw [if_pos rfl] at H
  show G _ _ _ _ [_,_,_,_,_,_,_,_,_,_,_,_,_,_,_,_,_,_,_,_,_] _
  refine Qab (v:=bool false) rfl rfl rfl (Qaa (Qax rfl (QaS (Qag (Qag (Qan [0] rfl ?_))))))
  refine Qab (v:=int .i64 0) rfl rfl rfl (Qaa ?_)
  obtain ⟨o1_,Ho,Hr1_⟩:=bind_get H
  refine Qa2 (J:=fun t w=>Qbm.a0 N=some r∧Fr t (fun O=>([O 0,O 1,O 2,O 3,O 4,O 5,O 6,O 7,O 8,O 9,O 10,O 11,O 12,O 13,O 14,O 15,O 16,O 17,O 18,O 19,O 20]:List Value))∧St w0 [] w) ?_ ?_
  ·
   rintro t w ⟨H,hf,hs⟩
   obtain ⟨O,rfl⟩:=hf.open
   show G _ _ _ _ [_,_,_,_,_,_,_,_,_,_,_,_,_,_,_,_,_,_,_,_,_] _
   unfold Qbm.a0 at H
   refine Qag (Qan [0,1] rfl ?_)
   refine Qab (v:=int .i64 0) rfl rfl rfl ?_
   refine Qab (v:=int .i64 6) rfl rfl rfl ?_
   show G _ _ _ _ [_,_,_,_,_,_,_,_,_,_,_,_,_,_,_,_,_,_,_,_,_] _
   refine Qaa ?_
   obtain rfl:=QsJ H
   refine QaK Try.func10 (v:=tuple #[int .i64 0,int .i64 6]) (resN (l:=Try.f10.results.toList) (vs:=[int .i64 0,int .i64 6]) rfl ⟨rfl,rfl,trivial⟩ (by simp)) ?_
   have hs:St _ [] _:=St.take (Γ':=[]) hs
   exact ⟨_,rfl,rfl,hs⟩
  intro ha1_
  have hs:=hs.pull 0 rfl
  have hs:St _ [_] _:=St.take (Γ':=[]) hs
  refine Qbk (I:=fun n_ t w=>∃ x5:Int,rounds (fun s=>Qbm.b0 N a1 s) n_ x5=some o1_∧Fr t (fun O=>([O 0,pointer (some ⟨b2,0,none⟩),O 2,O 3,O 4,O 5,O 6,O 7,int .i64 x5,O 9,O 10,O 11,O 12,O 13,O 14,O 15,O 16,O 17,O 18,O 19,O 20]:List Value))∧St w0 [Cells b2 (Qae a1) 27] w) N ⟨0,Ho,rfl,hs⟩ ?_ ?_
  ·
   rintro _ _ ⟨x5,h,_⟩
   exact rounds_zero h
  intro n_ ih1_
  rintro t w ⟨x5,Ho,hf,hs⟩
  obtain ⟨O,rfl⟩:=hf.open
  show G _ _ _ _ [_,_,_,_,_,_,_,_,_,_,_,_,_,_,_,_,_,_,_,_,_] _
  obtain ⟨x4_,H,Hx1_⟩:=rounds_succ Ho
  have H:Qbm.b0 N a1 x5=some x4_:=H
  unfold Qbm.b0 at H
  refine Qag (Qan [0] rfl ?_)
  refine QaR (B:=decide (x5< 6)) rfl rfl rfl ?_ ?_
  ·
   intro hb
   rw [if_pos (b_dec_t hb)] at H
   refine Qaa (Qag (Qaw rfl (QaS (Qag ?_))))
   refine QbP (Qag (Qan [0,1] rfl ?_))
   refine Qab (v:=int .i64 x5) rfl rfl rfl ?_
   refine Qab (v:=int .i64 x5) rfl rfl rfl ?_
   show G _ _ _ _ [_,_,_,_,_,_,_,_,_,_,_,_,_,_,_,_,_,_,_,_,_] _
   refine Qaa (Qag ?_)
   refine QcQ (n:=8) rfl [0,1,2,3,4,5,6,7] [0,1,2,3,4,5,6,7] rfl rfl ?_
   intro rest w hh hbw hO
   have hs:=hs.samew hh hbw
   show G _ _ _ _ [_,_,_,_,_,_,_,_,_,_,_,_,_,_,_,_,_,_,_,_,_] _
   obtain ⟨r8,Hr8,H⟩:=bind_get H
   obtain ⟨r17,Hr17,H⟩:=bind_get H
   refine QbT ?_
   intro T hT
   refine QcJ (m0:=0) hO rfl 127 [0,1,2,3,4,5,6] [0,0,2,0,8,30,0,127] (by decide+kernel) (fun D t w=>∃ b6:Nat,∃ v9:Value,∃ v10:Value,∃ v11:Value,∃ v12:Value,∃ O:Nat→Value,t=[O 0,pointer (some ⟨b2,0,none⟩),O 2,O 3,int .i64 x5,O 5,O 6,O 7,int .i64 x5,bool true,int .i64 x5,cnd (D 0) (Value.map (some b6)) (O 11),cnd (D 1) (agg (Qae a1).toArray) (O 12),cnd (D 2) (agg (([v9,v10,v11,v12]:List Value)).toArray) (O 13),cnd (D 3) (pointer (some ⟨b2,2,none⟩)) (O 14),cnd (D 4) (bool a1.QbU) (O 15),cnd (D 5) (agg (Qaf r17).toArray) (O 16),cnd (D 6) (int .i64 x5) (O 17),O 18,O 19,O 20]∧St w0 [Asc (D 0) (MapAs b6 QaE bool ([]:(List (Qad×Bool)))),Asc (D 2) (Row 22 (K.int .i8) v9 (r8.get 0 [])),Asc (D 2) (Row 22 (K.int .i8) v10 (r8.get 1 [])),Asc (D 2) (Row 22 (K.int .i8) v11 (r8.get 2 [])),Asc (D 2) (Row 22 (K.int .i8) v12 (r8.get 3 [])),Cells b2 (Qae a1) 27] w) ?_ ⟨?_,⟨?_,⟨?_,⟨?_,⟨?_,⟨?_,⟨?_,trivial⟩⟩⟩⟩⟩⟩⟩ ?_
   ·
    have hs:=hs.emp
    have hs:=hs.emp
    have hs:=hs.emp
    have hs:=hs.emp
    have hs:=hs.emp
    exact ⟨0,undef,undef,undef,undef,fun i=>T.getD i undef,(by subst hT;rfl),hs⟩
   ·
    rintro D t w hD hp hcl ⟨b6,v9,v10,v11,v12,O,ht,hs⟩ rest hk
    have hp:AllDone D []:=hp
    simp only [hD,cq,oT] at ht hs
    subst ht
    refine Qdh (ek:=QaE) (en:=bool) hs rfl rfl rfl ?_
    intro b6 w hs
    show G _ _ _ _ [_,_,_,_,_,_,_,_,_,_,_,_,_,_,_,_,_,_,_,_,_] _
    have hs:=hs.fill 0 rfl
    refine hk _ _ ⟨b6,v9,v10,v11,v12,O,?_,hs.cast ?_⟩<;>simp only [oT,lq,cq,Nat.reduceBEq]
   ·
    rintro D t w hD hp hcl ⟨b6,v9,v10,v11,v12,O,ht,hs⟩ rest hk
    have hp:AllDone D []:=hp
    have q2_:=ny hcl 2 0 hD
    have q5_:=ny hcl 5 0 q2_
    simp only [hD,q2_,q5_,cq,oT] at ht hs
    subst ht
    refine QaG rfl rfl (es:=(Qae a1)) rfl rfl (fun _=>rfl) (n:=4) (fun _=>rfl) (QaJ.len _) (cells_all (hs.cells 5 rfl)) ?_
    show G _ _ _ _ [_,_,_,_,_,_,_,_,_,_,_,_,_,_,_,_,_,_,_,_,_] _
    refine hk _ _ ⟨b6,v9,v10,v11,v12,O,?_,hs.cast ?_⟩<;>simp only [oT,lq,cq,Nat.reduceBEq,q2_,q5_]
   ·
    rintro D t w hD hp hcl ⟨b6,v9,v10,v11,v12,O,ht,hs⟩ rest hk
    have hp:AllDone D [1]:=hp
    obtain ⟨p1_,_⟩:=hp
    have q5_:=ny hcl 5 0 hD
    simp only [hD,p1_,q5_,cq,oT] at ht hs
    subst ht
    refine QaP (args:=[agg (Qae a1).toArray]) rfl rfl (QaT rfl (callFunc_enter Try.func33 rfl rfl) rfl) (Qba.calls (a1:=a1) Hr8) ?_
    rintro _ w ⟨v9,v10,v11,v12,rfl,hs2⟩
    have hs:St _ [_,_,_,_,_,_,_,_,_,_] _:=hs.call hs2
    show G _ _ _ _ [_,_,_,_,_,_,_,_,_,_,_,_,_,_,_,_,_,_,_,_,_] _
    have hs:=hs.fill 4 rfl
    have hs:=hs.fill 4 rfl
    have hs:=hs.fill 4 rfl
    have hs:=hs.fill 4 rfl
    refine hk _ _ ⟨b6,v9,v10,v11,v12,O,?_,hs.cast ?_⟩<;>simp only [oT,lq,cq,Nat.reduceBEq,p1_,q5_]
   ·
    rintro D t w hD hp hcl ⟨b6,v9,v10,v11,v12,O,ht,hs⟩ rest hk
    have hp:AllDone D []:=hp
    have q4_:=ny hcl 4 0 hD
    have q5_:=ny hcl 5 1 q4_
    simp only [hD,q4_,q5_,cq,oT] at ht hs
    subst ht
    refine Qab (v:=pointer (some ⟨b2,2,none⟩)) rfl rfl rfl ?_
    show G _ _ _ _ [_,_,_,_,_,_,_,_,_,_,_,_,_,_,_,_,_,_,_,_,_] _
    refine hk _ _ ⟨b6,v9,v10,v11,v12,O,?_,hs.cast ?_⟩<;>simp only [oT,lq,cq,Nat.reduceBEq,q4_,q5_]
   ·
    rintro D t w hD hp hcl ⟨b6,v9,v10,v11,v12,O,ht,hs⟩ rest hk
    have hp:AllDone D [3]:=hp
    obtain ⟨p3_,_⟩:=hp
    have q5_:=ny hcl 5 1 hD
    simp only [hD,p3_,q5_,cq,oT] at ht hs
    subst ht
    refine Qaz rfl rfl (v:=bool a1.QbU) rfl rfl (fun _=>rfl) (cells_load (hs.cells 5 rfl) 2 1 rfl) ?_
    show G _ _ _ _ [_,_,_,_,_,_,_,_,_,_,_,_,_,_,_,_,_,_,_,_,_] _
    refine hk _ _ ⟨b6,v9,v10,v11,v12,O,?_,hs.cast ?_⟩<;>simp only [oT,lq,cq,Nat.reduceBEq,p3_,q5_]
   ·
    rintro D t w hD hp hcl ⟨b6,v9,v10,v11,v12,O,ht,hs⟩ rest hk
    have hp:AllDone D [2,4,2]:=hp
    obtain ⟨p2_,p4_,_,_⟩:=hp
    obtain ⟨p3_,_⟩:=(show D 4=true→AllDone D [3] from hcl 4 (by decide)) p4_
    obtain ⟨p1_,_⟩:=(show D 2=true→AllDone D [1] from hcl 2 (by decide)) p2_
    simp only [hD,p1_,p2_,p3_,p4_,cq,oT] at ht hs
    subst ht
    refine QaP (args:=[agg (([v9,v10,v11,v12]:List Value)).toArray,bool a1.QbU]) rfl rfl (QaT rfl (callFunc_enter Try.func34 rfl rfl) rfl) (Qbj.calls (a1:=(⟨[(r8.get 0 []),(r8.get 1 []),(r8.get 2 []),(r8.get 3 [])],rfl⟩:(Ar (List Int) 4))) (a10:=a1.QbU) (hs.row 1 rfl) (hs.row 2 rfl) (hs.row 3 rfl) (hs.row 4 rfl) Hr17) ?_
    rintro _ w ⟨rfl,hs2⟩
    have hs:St _ [_,_,_,_,_,_] _:=hs.call hs2
    show G _ _ _ _ [_,_,_,_,_,_,_,_,_,_,_,_,_,_,_,_,_,_,_,_,_] _
    refine hk _ _ ⟨b6,v9,v10,v11,v12,O,?_,hs.cast ?_⟩<;>simp only [oT,lq,cq,Nat.reduceBEq,p1_,p2_,p3_,p4_]
   ·
    rintro D t w hD hp hcl ⟨b6,v9,v10,v11,v12,O,ht,hs⟩ rest hk
    have hp:AllDone D []:=hp
    simp only [hD,cq,oT] at ht hs
    subst ht
    refine Qab (v:=int .i64 x5) rfl rfl rfl ?_
    show G _ _ _ _ [_,_,_,_,_,_,_,_,_,_,_,_,_,_,_,_,_,_,_,_,_] _
    refine hk _ _ ⟨b6,v9,v10,v11,v12,O,?_,hs.cast ?_⟩<;>simp only [oT,lq,cq,Nat.reduceBEq]
   intro D t w rest hall hO1_ hI
   obtain ⟨b6,v9,v10,v11,v12,O,ht,hs⟩:=hI
   have p0_:=hall 0 (by decide) rfl
   have p1_:=hall 1 (by decide) rfl
   have p2_:=hall 2 (by decide) rfl
   have p3_:=hall 3 (by decide) rfl
   have p4_:=hall 4 (by decide) rfl
   have p5_:=hall 5 (by decide) rfl
   have p6_:=hall 6 (by decide) rfl
   simp only [p0_,p1_,p2_,p3_,p4_,p5_,p6_,cq,oT] at ht hs
   subst ht
   obtain ⟨rest,rfl,hO2_⟩:=ord_one (m:=127) hO1_ rfl 7 (m':=255) (by decide+kernel) rfl
   clear hO1_
   obtain ⟨r23,Hr23,H⟩:=bind_get H
   have hs:St _ [_,_,_,_,_,_] _:=hs.pull 0 rfl
   have hs:=hs.pack 1
   refine QaP (args:=[Value.map (some b6),agg (Qaf r17).toArray,int .i64 x5]) rfl rfl (QaT rfl (callFunc_enter Try.func32 rfl rfl) rfl) (QaH.calls (a1:=([]:(List (Qad×Bool)))) (a4:=r17) (a5:=x5) hs Hr23) ?_
   rintro _ w ⟨rfl,hs⟩
   have hs:=St.unpack (Γ:=[_]) hs
   have hs:St _ [_,_,_,_,_,_] _:=hs
   generalize hb3_:r23.1=b_ at H ⊢
   cases b_ with
   |true=>
    rw [if_pos rfl] at H
    obtain rfl:=ord_end hO2_ rfl (by decide+kernel)
    refine Qaa (Qaw rfl (Qag (Qan [0,1,2] rfl ?_)))
    refine Qab (v:=int .i64 x5) rfl rfl rfl ?_
    refine Qab (v:=int .i64 x5) rfl rfl rfl ?_
    show G _ _ _ _ [_,_,_,_,_,_,_,_,_,_,_,_,_,_,_,_,_,_,_,_,_] _
    refine Qab (v:=int .i64 0) rfl rfl rfl (Qaa ?_)
    obtain rfl:=QsJ H
    subst Hx1_
    have H:=QsJ Hr1_
    subst H
    refine QaK Try.func10 (v:=tuple #[int .i64 x5,int .i64 0]) (resN (l:=Try.f10.results.toList) (vs:=[int .i64 x5,int .i64 0]) rfl ⟨rfl,rfl,trivial⟩ (by simp)) ?_
    have hs:St _ [] _:=St.take (Γ':=[_,_,_,_,_,_]) hs
    exact ⟨_,rfl,rfl,hs⟩
   |false=>
    rw [if_neg Bool.false_ne_true] at H
    obtain rfl:=ord_end hO2_ rfl (by decide+kernel)
    refine Qaa (Qax rfl (QaS ?_))
    refine Qa5 (Qan [0,1] rfl ?_)
    refine Qab (v:=int .i64 (i64w (x5+1))) rfl rfl rfl ?_
    refine Qab (v:=int .i64 (i64w (x5+1))) rfl rfl rfl ?_
    show G _ _ _ _ [_,_,_,_,_,_,_,_,_,_,_,_,_,_,_,_,_,_,_,_,_] _
    refine Qaa ?_
    obtain rfl:=QsJ H
    have hs:=hs.pull 5 rfl
    have hs:St _ [_] _:=St.take (Γ':=[_,_,_,_,_]) hs
    exact ih1_ _ _ ⟨i64w (x5+1),Hx1_,rfl,hs⟩
  intro hb
  rw [if_neg (b_dec_f hb)] at H
  show G _ _ _ _ [_,_,_,_,_,_,_,_,_,_,_,_,_,_,_,_,_,_,_,_,_] _
  refine Qaa (Qag (Qax rfl ?_))
  obtain rfl:=QsJ H
  subst Hx1_
  have hs:St _ [] _:=St.take (Γ':=[_]) hs
  refine QbG rfl ?_
  exact ha1_ _ _ ⟨Hr1_,rfl,hs⟩
 |false=>
  rw [if_neg Bool.false_ne_true] at H
  show G _ _ _ _ [_,_,_,_,_,_,_,_,_,_,_,_,_,_,_,_,_,_,_,_,_] _
  refine Qab (v:=bool true) rfl rfl rfl (Qaa (Qaw rfl (Qag (Qan [0,1] rfl ?_))))
  refine Qab (v:=int .i64 0) rfl rfl rfl ?_
  refine Qab (v:=int .i64 1) rfl rfl rfl ?_
  show G _ _ _ _ [_,_,_,_,_,_,_,_,_,_,_,_,_,_,_,_,_,_,_,_,_] _
  refine Qaa ?_
  obtain rfl:=QsJ H
  refine QaK Try.func10 (v:=tuple #[int .i64 0,int .i64 1]) (resN (l:=Try.f10.results.toList) (vs:=[int .i64 0,int .i64 1]) rfl ⟨rfl,rfl,trivial⟩ (by simp)) ?_
  have hs:St _ [] _:=St.take (Γ':=[_]) hs
  exact ⟨_,rfl,rfl,hs⟩
def QbA.post (w0:World) (r:(Qap×Qar)) (v:Value) (w:World):Prop:=∃ b1:Nat,∃ u2:Value,v=tuple #[pointer (some ⟨b1,0,none⟩),agg (Qam r.2).toArray]∧St w0 [Cells b1 (([int .i64 r.1.Qbu,u2]:List Value)) 99,Row 22 (K.int .i8) u2 r.1.QbY] w
theorem QbA.calls {N:Nat} {a1:Qaq} {w0:World} {r:(Qap×Qar)} (H:QbA.f N a1=some r):
 Calls Try.prog 29 #[agg (Qae a1).toArray] w0 fun e w=>∃ v,e= .returned v∧QbA.post w0 r v w:=by
 unfold QbA.f at H
 have hs:St w0 [] w0:=St.refl w0
 refine calls_of_g (n:=44) Try.func29 rfl rfl ?_
 show G _ _ _ _ [_,_,_,_,_,_,_,_,_,_,_,_,_,_,_,_,_,_,_,_,_,_,_,_,_,_,_,_,_,_,_,_,_,_,_,_,_,_,_,_,_,_,_,_,_] _
 refine Qag (Qan [0,1,2] rfl ?_)
 refine Qbw hs rfl rfl (cs:=(Qae a1)) rfl rfl ?_
 intro b2 w hs
 show G _ _ _ _ [_,_,_,_,_,_,_,_,_,_,_,_,_,_,_,_,_,_,_,_,_,_,_,_,_,_,_,_,_,_,_,_,_,_,_,_,_,_,_,_,_,_,_,_,_] _
 refine Qab (v:=pointer none) rfl rfl rfl ?_
 refine QbH hs rfl rfl (z:=(agg #[int .i64 0,int .i64 0,int .i64 0,int .i64 0])) (cs:=(Qam QbW)) rfl (fun _=>rfl) rfl ?_
 intro b4 w hs
 refine Qaa (Qag ?_)
 obtain ⟨gq3_,H⟩:=ite_get H
 refine QbT ?_
 intro T hT
 refine Qcg (n:=7) rfl [0,1,2,3,4,5,6] [0,1,2,3,4,5,6] rfl rfl (Inv:=fun D t w=>∃ v6:Value,∃ b8:Nat,∃ O:Nat→Value,t=[agg (Qae a1).toArray,pointer (some ⟨b2,0,none⟩),pointer none,pointer (some ⟨b4,0,none⟩),cnd (D 6) (pointer (some ⟨b8,0,none⟩)) (O 4),O 5,cnd (D 0) (pointer (some ⟨b2,0,none⟩)) (O 6),cnd (D 1) (int .i8 a1.QaF) (O 7),cnd (D 2) (int .i64 (i64w a1.QaF)) (O 8),cnd (D 3) v6 (O 9),cnd (D 4) (agg (([int .i64 (i64w a1.QaF),v6]:List Value)).toArray) (O 10),cnd (D 5) (pointer (some ⟨b8,0,none⟩)) (O 11),O 12,O 13,O 14,O 15,O 16,O 17,O 18,O 19,O 20,O 21,O 22,O 23,O 24,O 25,O 26,O 27,O 28,O 29,O 30,O 31,O 32,O 33,O 34,O 35,O 36,O 37,O 38,O 39,O 40,O 41,O 42,O 43,O 44]∧St w0 [Asc (D 3) (Row 22 (K.int .i8) v6 (List.replicate ((32928:Int)).toNat (0:Int))),Asc (D 5) (Cells b8 (([int .i64 (i64w a1.QaF),v6]:List Value)) 99),Cells b4 (Qam QbW) 62,Cells b2 (Qae a1) 27] w) ?_ ⟨⟨⟨⟨⟨⟨⟨trivial,?_⟩,?_⟩,?_⟩,?_⟩,?_⟩,?_⟩,?_⟩ ?_
 ·
  intro w hh hbw
  have hs:=hs.samew hh hbw
  have hs:=hs.emp
  have hs:=hs.emp
  exact ⟨undef,0,fun i=>T.getD i undef,(by subst hT;rfl),hs⟩
 ·
  rintro D t w hD hp hcl ⟨v6,b8,O,ht,hs⟩ rest hk
  have q1_:=nz hcl 1 0 hD
  have q2_:=nz hcl 2 0 q1_
  have q4_:=nz hcl 4 0 q2_
  have q5_:=nz hcl 5 0 q4_
  have q6_:=nz hcl 6 0 q5_
  simp only [hD,q1_,q2_,q4_,q5_,q6_,cq,oT] at ht hs
  subst ht
  refine Qab (v:=pointer (some ⟨b2,0,none⟩)) rfl rfl rfl ?_
  show G _ _ _ _ [_,_,_,_,_,_,_,_,_,_,_,_,_,_,_,_,_,_,_,_,_,_,_,_,_,_,_,_,_,_,_,_,_,_,_,_,_,_,_,_,_,_,_,_,_] _
  refine hk _ _ ⟨v6,b8,O,?_,hs.cast ?_⟩<;>simp only [oT,lq,cq,Nat.reduceBEq,q1_,q2_,q4_,q5_,q6_]
 ·
  rintro D t w hD hp hcl ⟨v6,b8,O,ht,hs⟩ rest hk
  obtain ⟨p0_,_⟩:=hp
  have q2_:=nz hcl 2 0 hD
  have q4_:=nz hcl 4 0 q2_
  have q5_:=nz hcl 5 0 q4_
  have q6_:=nz hcl 6 0 q5_
  simp only [hD,p0_,q2_,q4_,q5_,q6_,cq,oT] at ht hs
  subst ht
  refine Qaz rfl rfl (v:=int .i8 a1.QaF) rfl rfl (fun _=>rfl) (cells_load (hs.cells 3 rfl) 0 1 rfl) ?_
  show G _ _ _ _ [_,_,_,_,_,_,_,_,_,_,_,_,_,_,_,_,_,_,_,_,_,_,_,_,_,_,_,_,_,_,_,_,_,_,_,_,_,_,_,_,_,_,_,_,_] _
  refine hk _ _ ⟨v6,b8,O,?_,hs.cast ?_⟩<;>simp only [oT,lq,cq,Nat.reduceBEq,p0_,q2_,q4_,q5_,q6_]
 ·
  rintro D t w hD hp hcl ⟨v6,b8,O,ht,hs⟩ rest hk
  obtain ⟨p1_,_⟩:=hp
  obtain ⟨p0_,_⟩:=(hcl.get 1 (by decide)) p1_
  have q4_:=nz hcl 4 0 hD
  have q5_:=nz hcl 5 0 q4_
  have q6_:=nz hcl 6 0 q5_
  simp only [hD,p0_,p1_,q4_,q5_,q6_,cq,oT] at ht hs
  subst ht
  refine Qab (v:=int .i64 (i64w a1.QaF)) rfl rfl rfl ?_
  show G _ _ _ _ [_,_,_,_,_,_,_,_,_,_,_,_,_,_,_,_,_,_,_,_,_,_,_,_,_,_,_,_,_,_,_,_,_,_,_,_,_,_,_,_,_,_,_,_,_] _
  refine hk _ _ ⟨v6,b8,O,?_,hs.cast ?_⟩<;>simp only [oT,lq,cq,Nat.reduceBEq,p0_,p1_,q4_,q5_,q6_]
 ·
  rintro D t w hD hp hcl ⟨v6,b8,O,ht,hs⟩ rest hk
  have q4_:=nz hcl 4 1 hD
  have q5_:=nz hcl 5 0 q4_
  have q6_:=nz hcl 6 0 q5_
  simp only [hD,q4_,q5_,q6_,cq,oT] at ht hs
  subst ht
  refine QdL (κ:=(K.int .i8)) (z:=0) (zc:=((encI .i8) 0)) (zv:=(int .i8 0)) (B:=1) hs rfl rfl rfl rfl rfl gq3_.1 rfl rfl rfl rfl rfl (fun _=>⟨rfl,rfl⟩) rfl (by decide) (by have:=gq3_.2;omega) ?_
  intro v6 w hs
  show G _ _ _ _ [_,_,_,_,_,_,_,_,_,_,_,_,_,_,_,_,_,_,_,_,_,_,_,_,_,_,_,_,_,_,_,_,_,_,_,_,_,_,_,_,_,_,_,_,_] _
  have hs:=hs.fill 0 rfl
  refine hk _ _ ⟨v6,b8,O,?_,hs.cast ?_⟩<;>simp only [oT,lq,cq,Nat.reduceBEq,q4_,q5_,q6_]
 ·
  rintro D t w hD hp hcl ⟨v6,b8,O,ht,hs⟩ rest hk
  obtain ⟨p2_,p3_,_⟩:=hp
  obtain ⟨p1_,_⟩:=(hcl.get 2 (by decide)) p2_
  obtain ⟨p0_,_⟩:=(hcl.get 1 (by decide)) p1_
  have q5_:=nz hcl 5 0 hD
  have q6_:=nz hcl 6 0 q5_
  simp only [hD,p0_,p1_,p2_,p3_,q5_,q6_,cq,oT] at ht hs
  subst ht
  refine Qab (v:=agg (([int .i64 (i64w a1.QaF),v6]:List Value)).toArray) rfl rfl (Qcn (cs:=(([int .i64 (i64w a1.QaF),v6]:List Value))) (segs:=[[int .i64 0],[slice none 0 0]]) rfl rfl (fun _=>rfl) ⟨rfl,(fun _=>rfl),rfl,(fun _=>rfl),trivial⟩ (by simp only [List.map_cons,List.map_nil,List.forall_mem_cons,List.not_mem_nil,false_implies,implies_true,and_true];exact ⟨⟨_,rfl,rfl⟩,⟨_,rfl,slSize (hs.row 0 rfl)⟩⟩) (by first|rfl|(simp [ev,encA,slCells (hs.row 0 rfl)];done)|(simp [ev,encA,slCells (hs.row 0 rfl)];rfl))) ?_
  show G _ _ _ _ [_,_,_,_,_,_,_,_,_,_,_,_,_,_,_,_,_,_,_,_,_,_,_,_,_,_,_,_,_,_,_,_,_,_,_,_,_,_,_,_,_,_,_,_,_] _
  refine hk _ _ ⟨v6,b8,O,?_,hs.cast ?_⟩<;>simp only [oT,lq,cq,Nat.reduceBEq,p0_,p1_,p2_,p3_,q5_,q6_]
 ·
  rintro D t w hD hp hcl ⟨v6,b8,O,ht,hs⟩ rest hk
  obtain ⟨p4_,_⟩:=hp
  obtain ⟨p2_,p3_,_⟩:=(hcl.get 4 (by decide)) p4_
  obtain ⟨p1_,_⟩:=(hcl.get 2 (by decide)) p2_
  obtain ⟨p0_,_⟩:=(hcl.get 1 (by decide)) p1_
  have q6_:=nz hcl 6 0 hD
  simp only [hD,p0_,p1_,p2_,p3_,p4_,q6_,cq,oT] at ht hs
  subst ht
  refine Qbw hs rfl rfl (cs:=(([int .i64 (i64w a1.QaF),v6]:List Value))) rfl rfl ?_
  intro b8 w hs
  show G _ _ _ _ [_,_,_,_,_,_,_,_,_,_,_,_,_,_,_,_,_,_,_,_,_,_,_,_,_,_,_,_,_,_,_,_,_,_,_,_,_,_,_,_,_,_,_,_,_] _
  have hs:=hs.fill 1 rfl
  refine hk _ _ ⟨v6,b8,O,?_,hs.cast ?_⟩<;>simp only [oT,lq,cq,Nat.reduceBEq,p0_,p1_,p2_,p3_,p4_,q6_]
 ·
  rintro D t w hD hp hcl ⟨v6,b8,O,ht,hs⟩ rest hk
  obtain ⟨p5_,p0_,p1_,p2_,p3_,p4_,_,_⟩:=hp
  simp only [hD,p0_,p1_,p2_,p3_,p4_,p5_,cq,oT] at ht hs
  subst ht
  refine Qab (v:=pointer (some ⟨b8,0,none⟩)) rfl rfl rfl ?_
  show G _ _ _ _ [_,_,_,_,_,_,_,_,_,_,_,_,_,_,_,_,_,_,_,_,_,_,_,_,_,_,_,_,_,_,_,_,_,_,_,_,_,_,_,_,_,_,_,_,_] _
  refine hk _ _ ⟨v6,b8,O,?_,hs.cast ?_⟩<;>simp only [oT,lq,cq,Nat.reduceBEq,p0_,p1_,p2_,p3_,p4_,p5_]
 intro D t w hall hI
 obtain ⟨v6,b8,O,ht,hs⟩:=hI
 have p0_:=hall 0 (by decide)
 have p1_:=hall 1 (by decide)
 have p2_:=hall 2 (by decide)
 have p3_:=hall 3 (by decide)
 have p4_:=hall 4 (by decide)
 have p5_:=hall 5 (by decide)
 have p6_:=hall 6 (by decide)
 simp only [p0_,p1_,p2_,p3_,p4_,p5_,p6_,cq,oT] at ht hs
 subst ht
 refine Qag (Qag ?_)
 refine QcB (J:=(fun t w=>∃ x12:Int,QbA.j0 N a1 x12=some r∧Fr t (fun O=>([O 0,pointer (some ⟨b2,0,none⟩),O 2,pointer (some ⟨b4,0,none⟩),pointer (some ⟨b8,0,none⟩),O 5,O 6,O 7,O 8,O 9,O 10,O 11,O 12,O 13,O 14,O 15,O 16,O 17,O 18,O 19,O 20,O 21,O 22,O 23,O 24,O 25,O 26,O 27,O 28,O 29,O 30,O 31,O 32,O 33,O 34,O 35,O 36,O 37,O 38,O 39,O 40,O 41,O 42,O 43,O 44]:List Value))∧St w0 [Cells b2 (Qae a1) 27,Cells b4 (Qam QbW) 62,Cells b8 (([int .i64 x12,v6]:List Value)) 99,Row 22 (K.int .i8) v6 (List.replicate ((32928:Int)).toNat (0:Int))] w)) ?_ ?_
 ·
  rintro t w ⟨x12,H,hf,hs⟩
  obtain ⟨O,rfl⟩:=hf.open
  show G _ _ _ _ [_,_,_,_,_,_,_,_,_,_,_,_,_,_,_,_,_,_,_,_,_,_,_,_,_,_,_,_,_,_,_,_,_,_,_,_,_,_,_,_,_,_,_,_,_] _
  unfold QbA.j0 at H
  refine Qag (Qan [0,1,2] rfl ?_)
  refine Qab (v:=agg (Qam (⟨0,0,0,0⟩:Qar)).toArray) rfl rfl (Qcn (cs:=(Qam (⟨0,0,0,0⟩:Qar))) (segs:=[[int .i64 0],[int .i64 0],[int .i64 0],[int .i64 0]]) rfl rfl (fun _=>rfl) ⟨rfl,(fun _=>rfl),rfl,(fun _=>rfl),rfl,(fun _=>rfl),rfl,(fun _=>rfl),trivial⟩ (by simp) (by first|rfl|(simp [ev,Qam];done)|(simp [ev,Qam];rfl))) ?_
  refine QbH hs rfl rfl (z:=(agg #[int .i64 0,int .i64 0,int .i64 0,int .i64 0])) (cs:=(Qam QbW)) rfl (fun _=>rfl) rfl ?_
  intro b14 w hs
  refine Qa9 (n:=4) hs (Qa4.len _) rfl rfl (vs:=(Qam (⟨0,0,0,0⟩:Qar))) rfl rfl rfl (fun _=>rfl) (Qa4.len _) (Qa4.one _) ?_
  intro w hs
  refine Qaa (Qag (Qag (Qan [0,1] rfl ?_)))
  refine Qab (v:=pointer (some ⟨b2,1,none⟩)) rfl rfl rfl ?_
  refine Qaz rfl rfl (v:=int .i8 a1.Qa0) rfl rfl (fun _=>rfl) (cells_load (hs.cells 1 rfl) 1 1 rfl) ?_
  show G _ _ _ _ [_,_,_,_,_,_,_,_,_,_,_,_,_,_,_,_,_,_,_,_,_,_,_,_,_,_,_,_,_,_,_,_,_,_,_,_,_,_,_,_,_,_,_,_,_] _
  refine Qaa ?_
  refine Qa2 (J:=(fun t w=>∃ x17:Qar,QbA.j1 N a1 x12 x17=some r∧Fr t (fun O=>([O 0,pointer (some ⟨b2,0,none⟩),O 2,pointer (some ⟨b4,0,none⟩),pointer (some ⟨b8,0,none⟩),pointer (some ⟨b14,0,none⟩),O 6,O 7,O 8,O 9,O 10,O 11,O 12,O 13,O 14,O 15,O 16,O 17,O 18,O 19,O 20,O 21,O 22,O 23,O 24,O 25,O 26,O 27,O 28,O 29,O 30,O 31,O 32,O 33,O 34,O 35,O 36,O 37,O 38,O 39,O 40,O 41,O 42,O 43,O 44]:List Value))∧St w0 [Cells b2 (Qae a1) 27,Cells b4 (Qam QbW) 62,Cells b8 (([int .i64 x12,v6]:List Value)) 99,Row 22 (K.int .i8) v6 (List.replicate ((32928:Int)).toNat (0:Int)),Cells b14 (Qam x17) 62] w)) ?_ ?_
  ·
   rintro t w ⟨x17,H,hf,hs⟩
   obtain ⟨O,rfl⟩:=hf.open
   show G _ _ _ _ [_,_,_,_,_,_,_,_,_,_,_,_,_,_,_,_,_,_,_,_,_,_,_,_,_,_,_,_,_,_,_,_,_,_,_,_,_,_,_,_,_,_,_,_,_] _
   unfold QbA.j1 at H
   refine Qag (Qag (Qan [0,1] rfl ?_))
   refine Qab (v:=pointer (some ⟨b2,2,none⟩)) rfl rfl rfl ?_
   by_cases hb2_:a1.QbU=true
   ·
    rw [if_pos hb2_] at H
    refine Qaz rfl rfl (v:=bool true) rfl rfl (fun _=>rfl) (cells_load (hs.cells 0 rfl) 2 1 (Eq.trans (b:=[bool a1.QbU]) rfl (congrArg (fun b=>[bool b]) hb2_))) ?_
    show G _ _ _ _ [_,_,_,_,_,_,_,_,_,_,_,_,_,_,_,_,_,_,_,_,_,_,_,_,_,_,_,_,_,_,_,_,_,_,_,_,_,_,_,_,_,_,_,_,_] _
    refine Qaa (Qaw rfl (Qan [0,1] rfl ?_))
    refine Qab (v:=pointer (some ⟨b14,3,none⟩)) rfl rfl rfl ?_
    have hs:St _ [_,_,_,_,_] _:=hs.pull 4 rfl
    refine Qb8 hs rfl rfl (vs:=((encI .i64) 1)) (cs':=(Qam (⟨x17.Qa3,x17.QaY,x17.QaZ,1⟩:Qar))) rfl rfl rfl (n:=1) (fun _=>rfl) ((fkI .i64).len _) (by first|exact Nat.le_of_ble_eq_true rfl|simp [encAI_len,encAB_len,encA_len]) ((fkI .i64).one _) rfl ?_
    intro w hs
    refine Qaa (Qag ?_)
    refine QbT ?_
    intro T hT
    refine Qcg (n:=4) rfl [0,1,2,3] [0,2,1,3] rfl rfl (Inv:=fun D t w=>∃ O:Nat→Value,t=[O 0,pointer (some ⟨b2,0,none⟩),cnd (D 2) (pointer (some ⟨b8,0,none⟩)) (O 2),pointer (some ⟨b4,0,none⟩),pointer (some ⟨b8,0,none⟩),pointer (some ⟨b14,0,none⟩),O 6,O 7,O 8,O 9,O 10,O 11,O 12,O 13,O 14,O 15,O 16,O 17,O 18,O 19,O 20,O 21,O 22,O 23,O 24,O 25,O 26,O 27,O 28,O 29,O 30,O 31,O 32,O 33,O 34,O 35,O 36,O 37,O 38,O 39,pointer (some ⟨b2,2,none⟩),bool true,pointer (some ⟨b14,3,none⟩),cnd (D 0) (pointer (some ⟨b8,0,none⟩)) (O 43),cnd (D 1) (agg (Qam (⟨x17.Qa3,x17.QaY,x17.QaZ,1⟩:Qar)).toArray) (O 44)]∧St w0 [Cells b14 (Qam (⟨x17.Qa3,x17.QaY,x17.QaZ,1⟩:Qar)) 62,Cells b2 (Qae a1) 27,Cells b4 (cnd (D 3) (Qam (⟨x17.Qa3,x17.QaY,x17.QaZ,1⟩:Qar)) (Qam QbW)) 62,Cells b8 (([int .i64 x12,v6]:List Value)) 99,Row 22 (K.int .i8) v6 (List.replicate ((32928:Int)).toNat (0:Int))] w) ?_ ⟨⟨⟨⟨trivial,?_⟩,?_⟩,?_⟩,?_⟩ ?_
    ·
     intro w hh hbw
     have hs:=hs.samew hh hbw
     exact ⟨fun i=>T.getD i undef,(by subst hT;rfl),hs⟩
    ·
     rintro D t w hD hp hcl ⟨O,ht,hs⟩ rest hk
     have q2_:=nz hcl 2 0 hD
     have q3_:=nz hcl 3 1 q2_
     simp only [hD,q2_,q3_,cq,oT] at ht hs
     subst ht
     refine Qab (v:=pointer (some ⟨b8,0,none⟩)) rfl rfl rfl ?_
     show G _ _ _ _ [_,_,_,_,_,_,_,_,_,_,_,_,_,_,_,_,_,_,_,_,_,_,_,_,_,_,_,_,_,_,_,_,_,_,_,_,_,_,_,_,_,_,_,_,_] _
     refine hk _ _ ⟨O,?_,hs.cast ?_⟩<;>simp only [oT,lq,cq,Nat.reduceBEq,q2_,q3_]
    ·
     rintro D t w hD hp hcl ⟨O,ht,hs⟩ rest hk
     have q3_:=nz hcl 3 0 hD
     simp only [hD,q3_,cq,oT] at ht hs
     subst ht
     refine QaG rfl rfl (es:=(Qam (⟨x17.Qa3,x17.QaY,x17.QaZ,1⟩:Qar))) rfl rfl (fun _=>rfl) (n:=4) (fun _=>rfl) (Qa4.len _) (cells_all (hs.cells 0 rfl)) ?_
     show G _ _ _ _ [_,_,_,_,_,_,_,_,_,_,_,_,_,_,_,_,_,_,_,_,_,_,_,_,_,_,_,_,_,_,_,_,_,_,_,_,_,_,_,_,_,_,_,_,_] _
     refine hk _ _ ⟨O,?_,hs.cast ?_⟩<;>simp only [oT,lq,cq,Nat.reduceBEq,q3_]
    ·
     rintro D t w hD hp hcl ⟨O,ht,hs⟩ rest hk
     obtain ⟨p0_,_,_⟩:=hp
     have q3_:=nz hcl 3 1 hD
     simp only [hD,p0_,q3_,cq,oT] at ht hs
     subst ht
     refine Qab (v:=pointer (some ⟨b8,0,none⟩)) rfl rfl rfl ?_
     show G _ _ _ _ [_,_,_,_,_,_,_,_,_,_,_,_,_,_,_,_,_,_,_,_,_,_,_,_,_,_,_,_,_,_,_,_,_,_,_,_,_,_,_,_,_,_,_,_,_] _
     refine hk _ _ ⟨O,?_,hs.cast ?_⟩<;>simp only [oT,lq,cq,Nat.reduceBEq,p0_,q3_]
    ·
     rintro D t w hD hp hcl ⟨O,ht,hs⟩ rest hk
     obtain ⟨p1_,p2_,p0_,_,_,_⟩:=hp
     simp only [hD,p0_,p1_,p2_,cq,oT] at ht hs
     subst ht
     have hs:St _ [_,_,_,_,_] _:=hs.pull 2 rfl
     refine Qa9 (n:=4) hs (Qa4.len _) rfl rfl (vs:=(Qam (⟨x17.Qa3,x17.QaY,x17.QaZ,1⟩:Qar))) rfl rfl rfl (fun _=>rfl) (Qa4.len _) (Qa4.one _) ?_
     intro w hs
     show G _ _ _ _ [_,_,_,_,_,_,_,_,_,_,_,_,_,_,_,_,_,_,_,_,_,_,_,_,_,_,_,_,_,_,_,_,_,_,_,_,_,_,_,_,_,_,_,_,_] _
     have hs:=hs.push 2 (by simp)
     refine hk _ _ ⟨O,?_,hs.cast ?_⟩<;>simp only [oT,lq,cq,Nat.reduceBEq,p0_,p1_,p2_]
    intro D t w hall hI
    obtain ⟨O,ht,hs⟩:=hI
    have p0_:=hall 0 (by decide)
    have p1_:=hall 1 (by decide)
    have p2_:=hall 2 (by decide)
    have p3_:=hall 3 (by decide)
    simp only [p0_,p1_,p2_,p3_,cq,oT] at ht hs
    subst ht
    obtain rfl:=QsJ H
    refine QaK Try.func29 (v:=tuple #[pointer (some ⟨b8,0,none⟩),agg (Qam (⟨x17.Qa3,x17.QaY,x17.QaZ,1⟩:Qar)).toArray]) (resN (l:=Try.f29.results.toList) (vs:=[pointer (some ⟨b8,0,none⟩),agg (Qam (⟨x17.Qa3,x17.QaY,x17.QaZ,1⟩:Qar)).toArray]) rfl ⟨rfl,⟨_,rfl,(run_loadVar_agg (es:=(Qam (⟨x17.Qa3,x17.QaY,x17.QaZ,1⟩:Qar))) rfl (congrArg (Result.ok · _) (Qa4.len _).symm) (cells_all (hs.cells 2 rfl)))⟩,trivial⟩ (by simp)) ?_
    have hs:=hs.pull 4 rfl
    have hs:=hs.pull 4 rfl
    have hs:St _ [_,_] _:=St.take (Γ':=[_,_,_]) hs
    exact ⟨_,rfl,b8,v6,rfl,hs⟩
   rw [if_neg hb2_] at H
   refine Qaz rfl rfl (v:=bool false) rfl rfl (fun _=>rfl) (cells_load (hs.cells 0 rfl) 2 1 (Eq.trans (b:=[bool a1.QbU]) rfl (congrArg (fun b=>[bool b]) (Bool.eq_false_iff.2 hb2_)))) (Qaa (Qax rfl (QaS (Qag ?_))))
   refine QbT ?_
   intro T hT
   refine Qcg (n:=4) rfl [0,1,2,3] [0,2,1,3] rfl rfl (Inv:=fun D t w=>∃ O:Nat→Value,t=[O 0,pointer (some ⟨b2,0,none⟩),cnd (D 2) (pointer (some ⟨b8,0,none⟩)) (O 2),pointer (some ⟨b4,0,none⟩),pointer (some ⟨b8,0,none⟩),pointer (some ⟨b14,0,none⟩),O 6,O 7,O 8,O 9,O 10,O 11,O 12,O 13,O 14,O 15,O 16,O 17,O 18,O 19,O 20,O 21,O 22,O 23,O 24,O 25,O 26,O 27,O 28,O 29,O 30,O 31,O 32,O 33,O 34,O 35,O 36,O 37,O 38,O 39,pointer (some ⟨b2,2,none⟩),bool false,O 42,cnd (D 0) (pointer (some ⟨b8,0,none⟩)) (O 43),cnd (D 1) (agg (Qam x17).toArray) (O 44)]∧St w0 [Cells b2 (Qae a1) 27,Cells b4 (cnd (D 3) (Qam x17) (Qam QbW)) 62,Cells b8 (([int .i64 x12,v6]:List Value)) 99,Row 22 (K.int .i8) v6 (List.replicate ((32928:Int)).toNat (0:Int)),Cells b14 (Qam x17) 62] w) ?_ ⟨⟨⟨⟨trivial,?_⟩,?_⟩,?_⟩,?_⟩ ?_
   ·
    intro w hh hbw
    have hs:=hs.samew hh hbw
    exact ⟨fun i=>T.getD i undef,(by subst hT;rfl),hs⟩
   ·
    rintro D t w hD hp hcl ⟨O,ht,hs⟩ rest hk
    have q2_:=nz hcl 2 0 hD
    have q3_:=nz hcl 3 1 q2_
    simp only [hD,q2_,q3_,cq,oT] at ht hs
    subst ht
    refine Qab (v:=pointer (some ⟨b8,0,none⟩)) rfl rfl rfl ?_
    show G _ _ _ _ [_,_,_,_,_,_,_,_,_,_,_,_,_,_,_,_,_,_,_,_,_,_,_,_,_,_,_,_,_,_,_,_,_,_,_,_,_,_,_,_,_,_,_,_,_] _
    refine hk _ _ ⟨O,?_,hs.cast ?_⟩<;>simp only [oT,lq,cq,Nat.reduceBEq,q2_,q3_]
   ·
    rintro D t w hD hp hcl ⟨O,ht,hs⟩ rest hk
    have q3_:=nz hcl 3 0 hD
    simp only [hD,q3_,cq,oT] at ht hs
    subst ht
    refine QaG rfl rfl (es:=(Qam x17)) rfl rfl (fun _=>rfl) (n:=4) (fun _=>rfl) (Qa4.len _) (cells_all (hs.cells 4 rfl)) ?_
    show G _ _ _ _ [_,_,_,_,_,_,_,_,_,_,_,_,_,_,_,_,_,_,_,_,_,_,_,_,_,_,_,_,_,_,_,_,_,_,_,_,_,_,_,_,_,_,_,_,_] _
    refine hk _ _ ⟨O,?_,hs.cast ?_⟩<;>simp only [oT,lq,cq,Nat.reduceBEq,q3_]
   ·
    rintro D t w hD hp hcl ⟨O,ht,hs⟩ rest hk
    obtain ⟨p0_,_,_⟩:=hp
    have q3_:=nz hcl 3 1 hD
    simp only [hD,p0_,q3_,cq,oT] at ht hs
    subst ht
    refine Qab (v:=pointer (some ⟨b8,0,none⟩)) rfl rfl rfl ?_
    show G _ _ _ _ [_,_,_,_,_,_,_,_,_,_,_,_,_,_,_,_,_,_,_,_,_,_,_,_,_,_,_,_,_,_,_,_,_,_,_,_,_,_,_,_,_,_,_,_,_] _
    refine hk _ _ ⟨O,?_,hs.cast ?_⟩<;>simp only [oT,lq,cq,Nat.reduceBEq,p0_,q3_]
   ·
    rintro D t w hD hp hcl ⟨O,ht,hs⟩ rest hk
    obtain ⟨p1_,p2_,p0_,_,_,_⟩:=hp
    simp only [hD,p0_,p1_,p2_,cq,oT] at ht hs
    subst ht
    have hs:St _ [_,_,_,_,_] _:=hs.pull 1 rfl
    refine Qa9 (n:=4) hs (Qa4.len _) rfl rfl (vs:=(Qam x17)) rfl rfl rfl (fun _=>rfl) (Qa4.len _) (Qa4.one _) ?_
    intro w hs
    show G _ _ _ _ [_,_,_,_,_,_,_,_,_,_,_,_,_,_,_,_,_,_,_,_,_,_,_,_,_,_,_,_,_,_,_,_,_,_,_,_,_,_,_,_,_,_,_,_,_] _
    have hs:=hs.push 1 (by simp)
    refine hk _ _ ⟨O,?_,hs.cast ?_⟩<;>simp only [oT,lq,cq,Nat.reduceBEq,p0_,p1_,p2_]
   intro D t w hall hI
   obtain ⟨O,ht,hs⟩:=hI
   have p0_:=hall 0 (by decide)
   have p1_:=hall 1 (by decide)
   have p2_:=hall 2 (by decide)
   have p3_:=hall 3 (by decide)
   simp only [p0_,p1_,p2_,p3_,cq,oT] at ht hs
   subst ht
   obtain rfl:=QsJ H
   refine QaK Try.func29 (v:=tuple #[pointer (some ⟨b8,0,none⟩),agg (Qam x17).toArray]) (resN (l:=Try.f29.results.toList) (vs:=[pointer (some ⟨b8,0,none⟩),agg (Qam x17).toArray]) rfl ⟨rfl,⟨_,rfl,(run_loadVar_agg (es:=(Qam x17)) rfl (congrArg (Result.ok · _) (Qa4.len _).symm) (cells_all (hs.cells 1 rfl)))⟩,trivial⟩ (by simp)) ?_
   have hs:=hs.pull 3 rfl
   have hs:=hs.pull 3 rfl
   have hs:St _ [_,_] _:=St.take (Γ':=[_,_,_]) hs
   exact ⟨_,rfl,b8,v6,rfl,hs⟩
  intro ha
  refine Qag (Qan [0,1] rfl ?_)
  refine QaR (B:=a1.Qa0==0) rfl rfl rfl ?_ ?_
  ·
   intro hb
   rw [if_pos (b_beq_t hb)] at H
   show G _ _ _ _ [_,_,_,_,_,_,_,_,_,_,_,_,_,_,_,_,_,_,_,_,_,_,_,_,_,_,_,_,_,_,_,_,_,_,_,_,_,_,_,_,_,_,_,_,_] _
   refine Qab (v:=bool true) rfl rfl rfl (Qaa (Qaw rfl (Qan [0,1,2,3,4] rfl ?_)))
   refine Qab (v:=pointer (some ⟨b2,0,none⟩)) rfl rfl rfl ?_
   refine Qaz rfl rfl (v:=int .i8 a1.QaF) rfl rfl (fun _=>rfl) (cells_load (hs.cells 1 rfl) 0 1 rfl) ?_
   refine Qab (v:=int .i64 (i64w a1.QaF)) rfl rfl rfl ?_
   refine Qab (v:=pointer (some ⟨b14,1,none⟩)) rfl rfl rfl ?_
   refine Qb8 hs rfl rfl (vs:=((encI .i64) (i64w a1.QaF))) (cs':=(Qam (⟨(⟨0,0,0,0⟩:Qar).Qa3,i64w a1.QaF,(⟨0,0,0,0⟩:Qar).QaZ,(⟨0,0,0,0⟩:Qar).QaU⟩:Qar))) rfl rfl rfl (n:=1) (fun _=>rfl) ((fkI .i64).len _) (by first|exact Nat.le_of_ble_eq_true rfl|simp [encAI_len,encAB_len,encA_len]) ((fkI .i64).one _) rfl ?_
   intro w hs
   refine Qaa ?_
   refine Qa5 ?_
   have hs:=hs.pull 0 rfl
   have hs:=hs.pull 4 rfl
   have hs:=hs.pull 4 rfl
   have hs:=hs.pull 4 rfl
   have hs:=hs.pull 4 rfl
   have hs:St _ [_,_,_,_,_] _:=St.take (Γ':=[]) hs
   exact ha _ _ ⟨(⟨(⟨0,0,0,0⟩:Qar).Qa3,i64w a1.QaF,(⟨0,0,0,0⟩:Qar).QaZ,(⟨0,0,0,0⟩:Qar).QaU⟩:Qar),H,rfl,hs⟩
  intro hb
  rw [if_neg (b_beq_f hb)] at H
  refine Qab (v:=bool false) rfl rfl rfl (Qaa (Qax rfl (Qag (Qan [0,1] rfl ?_))))
  refine QaR (B:=a1.Qa0==1) rfl rfl rfl ?_ ?_
  ·
   intro hb
   rw [if_pos (b_beq_t hb)] at H
   show G _ _ _ _ [_,_,_,_,_,_,_,_,_,_,_,_,_,_,_,_,_,_,_,_,_,_,_,_,_,_,_,_,_,_,_,_,_,_,_,_,_,_,_,_,_,_,_,_,_] _
   refine Qab (v:=bool true) rfl rfl rfl (Qaa (Qaw rfl (Qan [0,1,2,3,4] rfl ?_)))
   refine Qab (v:=pointer (some ⟨b2,0,none⟩)) rfl rfl rfl ?_
   refine Qaz rfl rfl (v:=int .i8 a1.QaF) rfl rfl (fun _=>rfl) (cells_load (hs.cells 1 rfl) 0 1 rfl) ?_
   refine Qab (v:=int .i64 (i64w a1.QaF)) rfl rfl rfl ?_
   refine Qab (v:=pointer (some ⟨b14,2,none⟩)) rfl rfl rfl ?_
   refine Qb8 hs rfl rfl (vs:=((encI .i64) (i64w a1.QaF))) (cs':=(Qam (⟨(⟨0,0,0,0⟩:Qar).Qa3,(⟨0,0,0,0⟩:Qar).QaY,i64w a1.QaF,(⟨0,0,0,0⟩:Qar).QaU⟩:Qar))) rfl rfl rfl (n:=1) (fun _=>rfl) ((fkI .i64).len _) (by first|exact Nat.le_of_ble_eq_true rfl|simp [encAI_len,encAB_len,encA_len]) ((fkI .i64).one _) rfl ?_
   intro w hs
   refine Qaa ?_
   refine Qa5 ?_
   have hs:=hs.pull 0 rfl
   have hs:=hs.pull 4 rfl
   have hs:=hs.pull 4 rfl
   have hs:=hs.pull 4 rfl
   have hs:=hs.pull 4 rfl
   have hs:St _ [_,_,_,_,_] _:=St.take (Γ':=[]) hs
   exact ha _ _ ⟨(⟨(⟨0,0,0,0⟩:Qar).Qa3,(⟨0,0,0,0⟩:Qar).QaY,i64w a1.QaF,(⟨0,0,0,0⟩:Qar).QaU⟩:Qar),H,rfl,hs⟩
  intro hb
  rw [if_neg (b_beq_f hb)] at H
  show G _ _ _ _ [_,_,_,_,_,_,_,_,_,_,_,_,_,_,_,_,_,_,_,_,_,_,_,_,_,_,_,_,_,_,_,_,_,_,_,_,_,_,_,_,_,_,_,_,_] _
  refine Qab (v:=bool false) rfl rfl rfl (Qaa (Qax rfl (Qan [0,1,2,3,4] rfl ?_)))
  refine Qab (v:=pointer (some ⟨b2,0,none⟩)) rfl rfl rfl ?_
  refine Qaz rfl rfl (v:=int .i8 a1.QaF) rfl rfl (fun _=>rfl) (cells_load (hs.cells 1 rfl) 0 1 rfl) ?_
  refine Qab (v:=int .i64 (i64w a1.QaF)) rfl rfl rfl ?_
  refine Qab (v:=pointer (some ⟨b14,0,none⟩)) rfl rfl rfl ?_
  refine Qb8 hs rfl rfl (vs:=((encI .i64) (i64w a1.QaF))) (cs':=(Qam (⟨i64w a1.QaF,(⟨0,0,0,0⟩:Qar).QaY,(⟨0,0,0,0⟩:Qar).QaZ,(⟨0,0,0,0⟩:Qar).QaU⟩:Qar))) rfl rfl rfl (n:=1) (fun _=>rfl) ((fkI .i64).len _) (by first|exact Nat.le_of_ble_eq_true rfl|simp [encAI_len,encAB_len,encA_len]) ((fkI .i64).one _) rfl ?_
  intro w hs
  refine Qaa ?_
  refine Qa5 ?_
  have hs:=hs.pull 0 rfl
  have hs:=hs.pull 4 rfl
  have hs:=hs.pull 4 rfl
  have hs:=hs.pull 4 rfl
  have hs:=hs.pull 4 rfl
  have hs:St _ [_,_,_,_,_] _:=St.take (Γ':=[]) hs
  exact ha _ _ ⟨(⟨i64w a1.QaF,(⟨0,0,0,0⟩:Qar).QaY,(⟨0,0,0,0⟩:Qar).QaZ,(⟨0,0,0,0⟩:Qar).QaU⟩:Qar),H,rfl,hs⟩
 intro ha
 refine Qan [0,1] rfl ?_
 refine Qab (v:=pointer (some ⟨b2,3,none⟩)) rfl rfl rfl ?_
 by_cases hb1_:a1.QbI=true
 ·
  rw [if_pos hb1_] at H
  refine Qaz rfl rfl (v:=bool true) rfl rfl (fun _=>rfl) (cells_load (hs.cells 3 rfl) 3 1 (Eq.trans (b:=[bool a1.QbI]) rfl (congrArg (fun b=>[bool b]) hb1_))) (Qaa (Qaw rfl (Qan [0,1,2,3,4,5,6,7] rfl ?_)))
  refine Qab (v:=pointer (some ⟨b8,0,none⟩)) rfl rfl rfl ?_
  refine Qab (v:=pointer (some ⟨b8,0,none⟩)) rfl rfl rfl ?_
  refine Qab (v:=pointer (some ⟨b8,0,none⟩)) rfl rfl rfl ?_
  refine Qaz rfl rfl (v:=int .i64 (i64w a1.QaF)) rfl rfl (fun _=>rfl) (cells_load (hs.cells 1 rfl) 0 1 rfl) ?_
  refine Qab (v:=int .i64 (i64w ((i64w a1.QaF)+1))) rfl rfl rfl ?_
  show G _ _ _ _ [_,_,_,_,_,_,_,_,_,_,_,_,_,_,_,_,_,_,_,_,_,_,_,_,_,_,_,_,_,_,_,_,_,_,_,_,_,_,_,_,_,_,_,_,_] _
  refine Qab (v:=pointer (some ⟨b8,0,none⟩)) rfl rfl rfl ?_
  refine Qab (v:=pointer (some ⟨b8,0,none⟩)) rfl rfl rfl ?_
  have hs:St _ [_,_,_,_] _:=hs.pull 1 rfl
  refine Qb8 hs rfl rfl (vs:=((encI .i64) (i64w ((i64w a1.QaF)+1)))) (cs':=(([int .i64 (i64w ((i64w a1.QaF)+1)),v6]:List Value))) rfl rfl rfl (n:=1) (fun _=>rfl) ((fkI .i64).len _) (by first|exact Nat.le_of_ble_eq_true rfl|simp [encAI_len,encAB_len,encA_len]) ((fkI .i64).one _) rfl ?_
  intro w hs
  refine Qaa ?_
  have hs:=hs.pull 1 rfl
  have hs:=hs.pull 1 rfl
  have hs:=hs.pull 2 rfl
  have hs:=hs.pull 3 rfl
  have hs:St _ [_,_,_,_] _:=St.take (Γ':=[]) hs
  exact ha _ _ ⟨i64w ((i64w a1.QaF)+1),H,rfl,hs⟩
 rw [if_neg hb1_] at H
 refine Qaz rfl rfl (v:=bool false) rfl rfl (fun _=>rfl) (cells_load (hs.cells 3 rfl) 3 1 (Eq.trans (b:=[bool a1.QbI]) rfl (congrArg (fun b=>[bool b]) (Bool.eq_false_iff.2 hb1_)))) ?_
 show G _ _ _ _ [_,_,_,_,_,_,_,_,_,_,_,_,_,_,_,_,_,_,_,_,_,_,_,_,_,_,_,_,_,_,_,_,_,_,_,_,_,_,_,_,_,_,_,_,_] _
 refine Qaa (Qax rfl (QaS ?_))
 have hs:=hs.pull 0 rfl
 have hs:=hs.pull 1 rfl
 have hs:=hs.pull 2 rfl
 have hs:=hs.pull 3 rfl
 have hs:St _ [_,_,_,_] _:=St.take (Γ':=[]) hs
 exact ha _ _ ⟨i64w a1.QaF,H,rfl,hs⟩
def QbZ.post (w0:World) (r:Int) (v:Value) (w:World):Prop:=v=int .i64 r∧St w0 [] w
theorem QbZ.calls {N:Nat} {a1:Qar} {w0:World} {r:Int} (H:QbZ.f N a1=some r):
 Calls Try.prog 56 #[agg (Qam a1).toArray] w0 fun e w=>∃ v,e= .returned v∧QbZ.post w0 r v w:=by
 unfold QbZ.f at H
 have hs:St w0 [] w0:=St.refl w0
 refine calls_of_g (n:=14) Try.func56 rfl rfl ?_
 show G _ _ _ _ [_,_,_,_,_,_,_,_,_,_,_,_,_,_,_] _
 refine Qag (Qan [0,1] rfl ?_)
 refine Qbw hs rfl rfl (cs:=(Qam a1)) rfl rfl ?_
 intro b2 w hs
 show G _ _ _ _ [_,_,_,_,_,_,_,_,_,_,_,_,_,_,_] _
 refine Qab (v:=int .i64 0) rfl rfl rfl (Qaa (Qag (Qan [0,1,2,3,4,5,6,7,8,9,10,11,12] rfl ?_)))
 refine Qab (v:=pointer (some ⟨b2,0,none⟩)) rfl rfl rfl ?_
 refine Qaz rfl rfl (v:=int .i64 a1.Qa3) rfl rfl (fun _=>rfl) (cells_load (hs.cells 0 rfl) 0 1 rfl) ?_
 show G _ _ _ _ [_,_,_,_,_,_,_,_,_,_,_,_,_,_,_] _
 refine Qab (v:=int .i64 (i64w (2*a1.Qa3))) rfl rfl rfl ?_
 refine Qab (v:=pointer (some ⟨b2,1,none⟩)) rfl rfl rfl ?_
 refine Qaz rfl rfl (v:=int .i64 a1.QaY) rfl rfl (fun _=>rfl) (cells_load (hs.cells 0 rfl) 1 1 rfl) ?_
 show G _ _ _ _ [_,_,_,_,_,_,_,_,_,_,_,_,_,_,_] _
 refine Qab (v:=int .i64 (i64w ((i64w (2*a1.Qa3))+a1.QaY))) rfl rfl rfl ?_
 refine Qab (v:=pointer (some ⟨b2,2,none⟩)) rfl rfl rfl ?_
 refine Qaz rfl rfl (v:=int .i64 a1.QaZ) rfl rfl (fun _=>rfl) (cells_load (hs.cells 0 rfl) 2 1 rfl) ?_
 show G _ _ _ _ [_,_,_,_,_,_,_,_,_,_,_,_,_,_,_] _
 refine Qab (v:=int .i64 (i64w ((i64w ((i64w (2*a1.Qa3))+a1.QaY))+a1.QaZ))) rfl rfl rfl ?_
 refine Qab (v:=pointer (some ⟨b2,3,none⟩)) rfl rfl rfl ?_
 refine Qaz rfl rfl (v:=int .i64 a1.QaU) rfl rfl (fun _=>rfl) (cells_load (hs.cells 0 rfl) 3 1 rfl) ?_
 show G _ _ _ _ [_,_,_,_,_,_,_,_,_,_,_,_,_,_,_] _
 refine Qab (v:=int .i64 (i64w ((i64w ((i64w ((i64w (2*a1.Qa3))+a1.QaY))+a1.QaZ))+a1.QaU))) rfl rfl rfl ?_
 refine Qab (v:=int .i64 (i64w ((i64w ((i64w ((i64w (2*a1.Qa3))+a1.QaY))+a1.QaZ))+a1.QaU))) rfl rfl rfl (Qaa ?_)
 obtain rfl:=QsJ H
 refine QaK Try.func56 (v:=int .i64 (i64w ((i64w ((i64w ((i64w (2*a1.Qa3))+a1.QaY))+a1.QaZ))+a1.QaU))) (res1 rfl rfl) ?_
 have hs:St _ [] _:=St.take (Γ':=[_]) hs
 exact ⟨_,rfl,rfl,hs⟩
def QbF.post (w0:World) (r:Int) (v:Value) (w:World):Prop:=v=int .i64 r∧St w0 [] w
theorem QbF.calls {N:Nat} {a1:Int} {w0:World} {r:Int} (H:QbF.f N a1=some r):
 Calls Try.prog 57 #[int .i64 a1] w0 fun e w=>∃ v,e= .returned v∧QbF.post w0 r v w:=by
 unfold QbF.f at H
 have hs:St w0 [] w0:=St.refl w0
 refine calls_of_g (n:=10) Try.func57 rfl rfl ?_
 show G _ _ _ _ [_,_,_,_,_,_,_,_,_,_,_] _
 refine Qag (Qan [0] rfl ?_)
 refine Qab (v:=int .i64 0) rfl rfl rfl (Qaa (Qag (Qan [0] rfl ?_)))
 refine Qab (v:=int .i64 1) rfl rfl rfl (Qaa (Qag ?_))
 obtain ⟨o1_,Ho,Hr1_⟩:=bind_get H
 refine Qa2 (J:=fun t w=>∃ x4:Int,QbF.a0 N x4=some r∧Fr t (fun O=>([O 0,O 1,O 2,int .i64 x4,O 4,O 5,O 6,O 7,O 8,O 9,O 10]:List Value))∧St w0 [] w) ?_ ?_
 ·
  rintro t w ⟨x4,H,hf,hs⟩
  obtain ⟨O,rfl⟩:=hf.open
  show G _ _ _ _ [_,_,_,_,_,_,_,_,_,_,_] _
  unfold QbF.a0 at H
  refine Qag (Qan [0,1] rfl ?_)
  refine Qab (v:=int .i64 x4) rfl rfl rfl ?_
  show G _ _ _ _ [_,_,_,_,_,_,_,_,_,_,_] _
  refine Qab (v:=int .i64 x4) rfl rfl rfl (Qaa ?_)
  obtain rfl:=QsJ H
  refine QaK Try.func57 (v:=int .i64 x4) (res1 rfl rfl) ?_
  have hs:St _ [] _:=St.take (Γ':=[]) hs
  exact ⟨_,rfl,rfl,hs⟩
 intro ha1_
 have hs:St _ [] _:=St.take (Γ':=[]) hs
 refine Qbk (I:=fun n_ t w=>∃ x2:Int,∃ x3:Int,rounds (fun s=>QbF.b0 N s.1 s.2) n_ (x2,x3)=some o1_∧Fr t (fun O=>([int .i64 x2,O 1,O 2,int .i64 x3,O 4,O 5,O 6,O 7,O 8,O 9,O 10]:List Value))∧St w0 [] w) N ⟨a1,1,Ho,rfl,hs⟩ ?_ ?_
 ·
  rintro _ _ ⟨x2,x3,h,_⟩
  exact rounds_zero h
 intro n_ ih1_
 rintro t w ⟨x2,x3,Ho,hf,hs⟩
 obtain ⟨O,rfl⟩:=hf.open
 show G _ _ _ _ [_,_,_,_,_,_,_,_,_,_,_] _
 obtain ⟨x1_,H,Hx1_⟩:=rounds_succ Ho
 have H:QbF.b0 N x2 x3=some x1_:=H
 unfold QbF.b0 at H
 refine Qag (Qag (Qan [0,1] rfl ?_))
 refine Qab (v:=int .i64 x2) rfl rfl rfl ?_
 show G _ _ _ _ [_,_,_,_,_,_,_,_,_,_,_] _
 refine QaR (B:=decide (x2>0)) rfl rfl rfl ?_ ?_
 ·
  intro hb
  rw [if_pos (b_dec_t hb)] at H
  refine Qaa (Qaw rfl (QaS (Qag ?_)))
  refine QbP (Qan [0,1,2] rfl ?_)
  refine Qab (v:=int .i64 x3) rfl rfl rfl ?_
  show G _ _ _ _ [_,_,_,_,_,_,_,_,_,_,_] _
  refine Qab (v:=int .i64 (i64w (x3*3))) rfl rfl rfl ?_
  refine Qab (v:=int .i64 (i64w (x3*3))) rfl rfl rfl (Qaa ?_)
  refine Qa5 (Qan [0,1,2] rfl ?_)
  refine Qab (v:=int .i64 x2) rfl rfl rfl ?_
  show G _ _ _ _ [_,_,_,_,_,_,_,_,_,_,_] _
  refine Qab (v:=int .i64 (i64w (x2 - 1))) rfl rfl rfl ?_
  refine Qab (v:=int .i64 (i64w (x2 - 1))) rfl rfl rfl (Qaa ?_)
  obtain rfl:=QsJ H
  have hs:St _ [] _:=St.take (Γ':=[]) hs
  exact ih1_ _ _ ⟨i64w (x2 - 1),i64w (x3*3),Hx1_,rfl,hs⟩
 intro hb
 rw [if_neg (b_dec_f hb)] at H
 refine Qaa (Qax rfl ?_)
 obtain rfl:=QsJ H
 subst Hx1_
 have hs:St _ [] _:=St.take (Γ':=[]) hs
 refine QbG rfl ?_
 exact ha1_ _ _ ⟨x3,Hr1_,rfl,hs⟩
def Qcu.post (w0:World) (r:Int) (v:Value) (w:World):Prop:=v=int .i64 r∧St w0 [] w
theorem Qcu.calls {N:Nat} {a1:Int} {a2:Int} {w0:World} {r:Int} (H:Qcu.f N a1 a2=some r):
 Calls Try.prog 75 #[int .i64 a1,int .i64 a2] w0 fun e w=>∃ v,e= .returned v∧Qcu.post w0 r v w:=by
 unfold Qcu.f at H
 have hs:St w0 [] w0:=St.refl w0
 refine calls_of_g (n:=8) Try.func75 rfl rfl ?_
 show G _ _ _ _ [_,_,_,_,_,_,_,_,_,_] _
 refine Qag (Qan [0] rfl ?_)
 refine Qab (v:=int .i64 0) rfl rfl rfl (Qaa (Qag (Qag (Qan [0,1,2] rfl ?_))))
 refine Qab (v:=int .i64 a1) rfl rfl rfl ?_
 refine Qab (v:=int .i64 a2) rfl rfl rfl ?_
 show G _ _ _ _ [_,_,_,_,_,_,_,_,_,_] _
 refine QaR (B:=decide (a1>a2)) rfl rfl rfl ?_ ?_
 ·
  intro hb
  rw [if_pos (b_dec_t hb)] at H
  show G _ _ _ _ [_,_,_,_,_,_,_,_,_,_] _
  refine Qaa (Qaw rfl (Qag (Qan [0,1] rfl ?_)))
  refine Qab (v:=int .i64 a1) rfl rfl rfl ?_
  refine Qab (v:=int .i64 a1) rfl rfl rfl (Qaa ?_)
  obtain rfl:=QsJ H
  refine QaK Try.func75 (v:=int .i64 a1) (res1 rfl rfl) ?_
  have hs:St _ [] _:=St.take (Γ':=[]) hs
  exact ⟨_,rfl,rfl,hs⟩
 intro hb
 rw [if_neg (b_dec_f hb)] at H
 refine Qaa (Qax rfl (QaS (Qag (Qan [0,1] rfl ?_))))
 refine Qab (v:=int .i64 a2) rfl rfl rfl ?_
 refine Qab (v:=int .i64 a2) rfl rfl rfl ?_
 show G _ _ _ _ [_,_,_,_,_,_,_,_,_,_] _
 refine Qaa ?_
 obtain rfl:=QsJ H
 refine QaK Try.func75 (v:=int .i64 a2) (res1 rfl rfl) ?_
 have hs:St _ [] _:=St.take (Γ':=[]) hs
 exact ⟨_,rfl,rfl,hs⟩
end Go.Proofs.YtgpdpedpmhonkaaX
