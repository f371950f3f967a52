import Derived.Test.YtgpdpedpmhonkaaProg
import Derived.Test.YtgpdpedpmhonkaaP3
import Derived.Test.YtgpdpedpmhonkaaP4
import Derived.Test.YtgpdpedpmhonkaaP13
namespace Go.Proofs.YtgpdpedpmhonkaaX
open Go Go.RowKit Go.Proofs
open Go.Value (int pointer bool agg slice string tuple)
set_option maxHeartbeats 8000000
set_option maxRecDepth 100000
set_option linter.unusedVariables false
set_option linter.unusedSimpArgs false
def QaQ.post (wb:World) (Z:As) (b3:Nat) (b7:Nat) (b6:Nat) (b7:Nat) (b11:Nat) (b14:Nat) (b17:Nat) (b19:Nat) (b21:Nat) (r:(Bool×Qac×(List (Qad×Bool))×(List (Qad×Bool))×Qac×Int×Bool×Unit×Unit)) (v:Value) (w:World):Prop:=v=bool r.1∧St wb [Cells b3 (Qaf r.2.1) 71,MapAs b7 QaE bool r.2.2.1,Cells b6 ([Value.map (some b7)]) 67,Cells b11 (Qaf r.2.2.2.2.1) 71,Cells b14 ((encI .i64) r.2.2.2.2.2.1) 2,Cells b17 (encB r.2.2.2.2.2.2.1) 4,Cells b19 ([Value.func (Fn.func 61) #[] #[pointer (some ⟨b6,0,none⟩),pointer (some ⟨b11,0,none⟩),pointer (some ⟨b14,0,none⟩),pointer (some ⟨b17,0,none⟩)]]) 113,Cells b21 ([Value.func (Fn.func 77) #[] #[pointer (some ⟨b3,0,none⟩),pointer (some ⟨b19,0,none⟩),pointer (some ⟨b21,0,none⟩)]]) 131,Z] w
theorem QaQ.calls {N:Nat} {self:(List (Qad×Bool))→Qac→Int→Option (Bool×(List (Qad×Bool)))} (ih:∀ (a1:(List (Qad×Bool))) (a4:Qac) (a5:Int) (b2:Nat) (wb:World) (Z:As) (w0:World) (r:(Bool×(List (Qad×Bool)))) (hs:St wb [MapAs b2 QaE bool a1,Z] w0),self a1 a4 a5=some r→Calls Try.prog 32 #[Value.map (some b2),agg (Qaf a4).toArray,int .i64 a5] w0 fun e w=>∃ v,e= .returned v∧QaH.post wb Z b2 r v w) {a1:Qas} {a2:Qac} {a5:(List (Qad×Bool))} {a10:Qac} {a13:Int} {a16:Bool} {b3:Nat} {b6:Nat} {b7:Nat} {b11:Nat} {b14:Nat} {b17:Nat} {b19:Nat} {b21:Nat} {wb:World} {Z:As} {w0:World} {r:(Bool×Qac×(List (Qad×Bool))×(List (Qad×Bool))×Qac×Int×Bool×Unit×Unit)} (hs:St wb [Cells b3 (Qaf a2) 71,MapAs b7 QaE bool a5,Cells b6 ([Value.map (some b7)]) 67,Cells b11 (Qaf a10) 71,Cells b14 ((encI .i64) a13) 2,Cells b17 (encB a16) 4,Cells b19 ([Value.func (Fn.func 61) #[] #[pointer (some ⟨b6,0,none⟩),pointer (some ⟨b11,0,none⟩),pointer (some ⟨b14,0,none⟩),pointer (some ⟨b17,0,none⟩)]]) 113,Cells b21 ([Value.func (Fn.func 77) #[] #[pointer (some ⟨b3,0,none⟩),pointer (some ⟨b19,0,none⟩),pointer (some ⟨b21,0,none⟩)]]) 131,Z] w0) (H:QaQ.f N self a1 a2 a5 a10 a13 a16=some r):
 Calls Try.prog 77 #[int .i64 2,agg (QaA a1).toArray,pointer (some ⟨b3,0,none⟩),pointer (some ⟨b19,0,none⟩),pointer (some ⟨b21,0,none⟩)] w0 fun e w=>∃ v,e= .returned v∧QaQ.post wb Z b3 b7 b6 b7 b11 b14 b17 b19 b21 r v w:=by
 unfold QaQ.f at H
 refine calls_of_g (n:=45) Try.func77 rfl rfl ?_
 show G _ _ _ _ [_,_,_,_,_,_,_,_,_,_,_,_,_,_,_,_,_,_,_,_,_,_,_,_,_,_,_,_,_,_,_,_,_,_,_,_,_,_,_,_,_,_,_,_,_,_,_,_,_,_] _
 refine Qag (Qan [0,1] rfl ?_)
 refine Qbw hs rfl rfl (cs:=(QaA a1)) rfl rfl ?_
 intro b23 w hs
 refine Qab (v:=bool false) rfl rfl rfl (Qaa (Qag (Qag (Qan [0,1] rfl ?_))))
 refine Qab (v:=int .i64 2) rfl rfl rfl ?_
 refine Qab (v:=bool false) rfl rfl rfl ?_
 show G _ _ _ _ [_,_,_,_,_,_,_,_,_,_,_,_,_,_,_,_,_,_,_,_,_,_,_,_,_,_,_,_,_,_,_,_,_,_,_,_,_,_,_,_,_,_,_,_,_,_,_,_,_,_] _
 refine Qaa (Qax rfl (QaS (Qag (Qag (Qan [0,1,2,3,4,5] rfl ?_)))))
 refine Qab (v:=int .i64 2) rfl rfl rfl ?_
 refine Qab (v:=pointer (some ⟨b3,0,none⟩)) rfl rfl rfl ?_
 obtain ⟨g1,H⟩:=ite_get H
 refine Qa1 (n:=2) (m:=1) rfl (fun _=>rfl) g1.1 g1.2 rfl rfl rfl rfl rfl ?_
 refine Qaz rfl rfl (v:=int .i64 (a2.Qav.get 2 0)) rfl rfl (fun _=>rfl) (cells_load (hs.cells 1 rfl) _ _ (part_get (i:=2) (fkI .i64).len a2.Qav 0 g1.1 g1.2 [] (encB a2.QaU) (by simp [Qaf,encI,encB,encS]) (by first|rfl|simp [encAI_len,encAB_len,encA_len]))) ?_
 refine Qab (v:=int .i64 (i64w ((a2.Qav.get 2 0)+1))) rfl rfl rfl ?_
 show G _ _ _ _ [_,_,_,_,_,_,_,_,_,_,_,_,_,_,_,_,_,_,_,_,_,_,_,_,_,_,_,_,_,_,_,_,_,_,_,_,_,_,_,_,_,_,_,_,_,_,_,_,_,_] _
 refine Qab (v:=int .i64 0) rfl rfl rfl (Qaa ?_)
 obtain ⟨o1_,Ho,Hr1_⟩:=bind_get H
 refine Qa2 (J:=fun t w=>∃ x65:Qac,∃ x66:(List (Qad×Bool)),∃ x67:Qac,∃ x68:Int,∃ x69:Bool,QaQ.a0 N self x65 x66 x67 x68 x69=some r∧Fr t (fun O=>([O 0,O 1,O 2,O 3,O 4,O 5,O 6,O 7,O 8,O 9,O 10,O 11,O 12,O 13,O 14,O 15,O 16,O 17,O 18,O 19,O 20,O 21,O 22,O 23,O 24,O 25,O 26,O 27,O 28,O 29,O 30,O 31,O 32,O 33,O 34,O 35,O 36,O 37,O 38,O 39,O 40,O 41,O 42,O 43,O 44,O 45,O 46,O 47,O 48,O 49]:List Value))∧St wb [Cells b3 (Qaf x65) 71,MapAs b7 QaE bool x66,Cells b6 ([Value.map (some b7)]) 67,Cells b11 (Qaf x67) 71,Cells b14 ((encI .i64) x68) 2,Cells b17 (encB x69) 4,Cells b19 ([Value.func (Fn.func 61) #[] #[pointer (some ⟨b6,0,none⟩),pointer (some ⟨b11,0,none⟩),pointer (some ⟨b14,0,none⟩),pointer (some ⟨b17,0,none⟩)]]) 113,Cells b21 ([Value.func (Fn.func 77) #[] #[pointer (some ⟨b3,0,none⟩),pointer (some ⟨b19,0,none⟩),pointer (some ⟨b21,0,none⟩)]]) 131,Z] w) ?_ ?_
 ·
  rintro t w ⟨x65,x66,x67,x68,x69,H,hf,hs⟩
  obtain ⟨O,rfl⟩:=hf.open
  show G _ _ _ _ [_,_,_,_,_,_,_,_,_,_,_,_,_,_,_,_,_,_,_,_,_,_,_,_,_,_,_,_,_,_,_,_,_,_,_,_,_,_,_,_,_,_,_,_,_,_,_,_,_,_] _
  unfold QaQ.a0 at H
  refine Qag (Qan [0] rfl ?_)
  refine Qab (v:=bool true) rfl rfl rfl ?_
  show G _ _ _ _ [_,_,_,_,_,_,_,_,_,_,_,_,_,_,_,_,_,_,_,_,_,_,_,_,_,_,_,_,_,_,_,_,_,_,_,_,_,_,_,_,_,_,_,_,_,_,_,_,_,_] _
  refine Qaa ?_
  obtain rfl:=QsJ H
  refine QaK Try.func77 (v:=bool true) (res1 rfl rfl) ?_
  have hs:=hs.pull 8 rfl
  have hs:=hs.pull 8 rfl
  have hs:=hs.pull 8 rfl
  have hs:=hs.pull 8 rfl
  have hs:=hs.pull 8 rfl
  have hs:=hs.pull 8 rfl
  have hs:=hs.pull 8 rfl
  have hs:=hs.pull 8 rfl
  have hs:=hs.pull 8 rfl
  have hs:St _ [_,_,_,_,_,_,_,_,_] _:=St.take (Γ':=[]) hs
  exact ⟨_,rfl,rfl,hs⟩
 intro ha1_
 have hs:=hs.pull 9 rfl
 have hs:=hs.pull 1 rfl
 have hs:=hs.pull 9 rfl
 have hs:=hs.pull 9 rfl
 have hs:=hs.pull 9 rfl
 have hs:=hs.pull 9 rfl
 have hs:=hs.pull 9 rfl
 have hs:=hs.pull 9 rfl
 have hs:=hs.pull 9 rfl
 have hs:=hs.pull 9 rfl
 have hs:St _ [_,_,_,_,_,_,_,_,_,_] _:=St.take (Γ':=[]) hs
 refine Qbk (I:=fun n_ t w=>∃ x42:Qac,∃ x43:(List (Qad×Bool)),∃ x44:Qac,∃ x45:Int,∃ x46:Bool,∃ x47:Qas,∃ x48:Int,rounds (fun s=>QaQ.b0 N self a2 s.1 s.2.1 s.2.2.1 s.2.2.2.1 s.2.2.2.2.1 s.2.2.2.2.2.1 s.2.2.2.2.2.2) n_ (x42,x43,x44,x45,x46,x47,x48)=some o1_∧Fr t (fun O=>([int .i64 2,O 1,pointer (some ⟨b3,0,none⟩),O 3,pointer (some ⟨b21,0,none⟩),O 5,pointer (some ⟨b23,0,none⟩),O 7,O 8,O 9,O 10,O 11,O 12,O 13,O 14,O 15,O 16,O 17,O 18,O 19,int .i64 (i64w ((a2.Qav.get 2 0)+1)),int .i64 x48,O 22,O 23,O 24,O 25,O 26,O 27,O 28,O 29,O 30,O 31,O 32,O 33,O 34,O 35,O 36,O 37,O 38,O 39,O 40,O 41,O 42,O 43,O 44,O 45,O 46,O 47,O 48,O 49]:List Value))∧St wb [Cells b3 (Qaf x42) 71,MapAs b7 QaE bool x43,Cells b6 ([Value.map (some b7)]) 67,Cells b11 (Qaf x44) 71,Cells b14 ((encI .i64) x45) 2,Cells b17 (encB x46) 4,Cells b19 ([Value.func (Fn.func 61) #[] #[pointer (some ⟨b6,0,none⟩),pointer (some ⟨b11,0,none⟩),pointer (some ⟨b14,0,none⟩),pointer (some ⟨b17,0,none⟩)]]) 113,Cells b21 ([Value.func (Fn.func 77) #[] #[pointer (some ⟨b3,0,none⟩),pointer (some ⟨b19,0,none⟩),pointer (some ⟨b21,0,none⟩)]]) 131,Cells b23 (QaA x47) 111,Z] w) N ⟨a2,a5,a10,a13,a16,a1,0,Ho,rfl,hs⟩ ?_ ?_
 ·
  rintro _ _ ⟨x42,x43,x44,x45,x46,x47,x48,h,_⟩
  exact rounds_zero h
 intro n_ ih1_
 rintro t w ⟨x42,x43,x44,x45,x46,x47,x48,Ho,hf,hs⟩
 obtain ⟨O,rfl⟩:=hf.open
 show G _ _ _ _ [_,_,_,_,_,_,_,_,_,_,_,_,_,_,_,_,_,_,_,_,_,_,_,_,_,_,_,_,_,_,_,_,_,_,_,_,_,_,_,_,_,_,_,_,_,_,_,_,_,_] _
 obtain ⟨x18_,H,Hx1_⟩:=rounds_succ Ho
 have H:QaQ.b0 N self a2 x42 x43 x44 x45 x46 x47 x48=some x18_:=H
 unfold QaQ.b0 at H
 refine Qag (Qan [0] rfl ?_)
 refine QaR (B:=decide (x48< (i64w ((a2.Qav.get 2 0)+1)))) rfl rfl rfl ?_ ?_
 ·
  intro hb
  rw [if_pos (b_dec_t hb)] at H
  refine Qaa (Qag (Qaw rfl (QaS (Qag ?_))))
  refine QbP (Qag (Qan [0,1] rfl ?_))
  refine Qab (v:=int .i64 x48) rfl rfl rfl ?_
  refine Qab (v:=int .i64 x48) rfl rfl rfl ?_
  show G _ _ _ _ [_,_,_,_,_,_,_,_,_,_,_,_,_,_,_,_,_,_,_,_,_,_,_,_,_,_,_,_,_,_,_,_,_,_,_,_,_,_,_,_,_,_,_,_,_,_,_,_,_,_] _
  refine Qaa (Qag (Qan [0,1,2,3,4,5,6,7] rfl ?_))
  refine Qab (v:=int .i64 2) rfl rfl rfl ?_
  refine Qab (v:=pointer (some ⟨b3,0,none⟩)) rfl rfl rfl ?_
  obtain ⟨g10,H⟩:=ite_get H
  refine Qa1 (n:=2) (m:=1) rfl (fun _=>rfl) g10.1 g10.2 rfl rfl rfl rfl rfl ?_
  refine Qaz rfl rfl (v:=int .i64 (x42.Qav.get 2 0)) rfl rfl (fun _=>rfl) (cells_load (hs.cells 0 rfl) _ _ (part_get (i:=2) (fkI .i64).len x42.Qav 0 g10.1 g10.2 [] (encB x42.QaU) (by simp [Qaf,encI,encB,encS]) (by first|rfl|simp [encAI_len,encAB_len,encA_len]))) ?_
  refine Qab (v:=int .i64 x48) rfl rfl rfl ?_
  refine Qab (v:=int .i64 (i64w ((x42.Qav.get 2 0) - x48))) rfl rfl rfl ?_
  show G _ _ _ _ [_,_,_,_,_,_,_,_,_,_,_,_,_,_,_,_,_,_,_,_,_,_,_,_,_,_,_,_,_,_,_,_,_,_,_,_,_,_,_,_,_,_,_,_,_,_,_,_,_,_] _
  refine Qab (v:=int .i64 (i64w ((i64w ((x42.Qav.get 2 0) - x48))+1))) rfl rfl rfl ?_
  refine Qab (v:=int .i64 0) rfl rfl rfl (Qaa ?_)
  obtain ⟨o2_,Ho,Hr2_⟩:=bind_get H
  refine Qa2 (J:=fun t w=>∃ x59:Qac,∃ x60:(List (Qad×Bool)),∃ x61:Qac,∃ x62:Int,∃ x63:Bool,∃ x64:Qas,QaQ.a2 N self x48 x59 x60 x61 x62 x63 x64=some x18_∧Fr t (fun O=>([int .i64 2,O 1,pointer (some ⟨b3,0,none⟩),O 3,pointer (some ⟨b21,0,none⟩),O 5,pointer (some ⟨b23,0,none⟩),O 7,O 8,O 9,O 10,O 11,O 12,O 13,O 14,O 15,O 16,O 17,O 18,O 19,int .i64 (i64w ((a2.Qav.get 2 0)+1)),int .i64 x48,O 22,O 23,O 24,O 25,O 26,O 27,O 28,O 29,O 30,O 31,O 32,O 33,O 34,O 35,O 36,O 37,O 38,O 39,O 40,O 41,O 42,O 43,O 44,O 45,O 46,O 47,O 48,O 49]:List Value))∧St wb [Cells b3 (Qaf x59) 71,Cells b21 ([Value.func (Fn.func 77) #[] #[pointer (some ⟨b3,0,none⟩),pointer (some ⟨b19,0,none⟩),pointer (some ⟨b21,0,none⟩)]]) 131,Cells b19 ([Value.func (Fn.func 61) #[] #[pointer (some ⟨b6,0,none⟩),pointer (some ⟨b11,0,none⟩),pointer (some ⟨b14,0,none⟩),pointer (some ⟨b17,0,none⟩)]]) 113,Cells b6 ([Value.map (some b7)]) 67,MapAs b7 QaE bool x60,Cells b11 (Qaf x61) 71,Cells b14 ((encI .i64) x62) 2,Cells b17 (encB x63) 4,Cells b23 (QaA x64) 111,Z] w) ?_ ?_
  ·
   rintro t w ⟨x59,x60,x61,x62,x63,x64,H,hf,hs⟩
   obtain ⟨O,rfl⟩:=hf.open
   show G _ _ _ _ [_,_,_,_,_,_,_,_,_,_,_,_,_,_,_,_,_,_,_,_,_,_,_,_,_,_,_,_,_,_,_,_,_,_,_,_,_,_,_,_,_,_,_,_,_,_,_,_,_,_] _
   unfold QaQ.a2 at H
   refine Qa5 (Qan [0,1] rfl ?_)
   refine Qab (v:=int .i64 (i64w (x48+1))) rfl rfl rfl ?_
   refine Qab (v:=int .i64 (i64w (x48+1))) rfl rfl rfl (Qaa ?_)
   obtain rfl:=QsJ H
   have hs:=hs.pull 9 rfl
   have hs:=hs.pull 9 rfl
   have hs:=hs.pull 3 rfl
   have hs:=hs.pull 4 rfl
   have hs:=hs.pull 9 rfl
   have hs:=hs.pull 9 rfl
   have hs:=hs.pull 9 rfl
   have hs:=hs.pull 8 rfl
   have hs:=hs.pull 9 rfl
   have hs:=hs.pull 9 rfl
   have hs:St _ [_,_,_,_,_,_,_,_,_,_] _:=St.take (Γ':=[]) hs
   exact ih1_ _ _ ⟨x59,x60,x61,x62,x63,x64,i64w (x48+1),Hx1_,rfl,hs⟩
  intro ha2_
  have hs:=hs.pull 9 rfl
  have hs:=hs.pull 9 rfl
  have hs:=hs.pull 9 rfl
  have hs:=hs.pull 9 rfl
  have hs:=hs.pull 9 rfl
  have hs:=hs.pull 9 rfl
  have hs:=hs.pull 9 rfl
  have hs:=hs.pull 9 rfl
  have hs:=hs.pull 9 rfl
  have hs:=hs.pull 9 rfl
  have hs:St _ [_,_,_,_,_,_,_,_,_,_] _:=St.take (Γ':=[]) hs
  refine Qbk (I:=fun n_ t w=>∃ x51:Qac,∃ x52:(List (Qad×Bool)),∃ x53:Qac,∃ x54:Int,∃ x55:Bool,∃ x56:Qas,∃ x57:Int,rounds (fun s=>QaQ.b2 N self x42 x48 s.1 s.2.1 s.2.2.1 s.2.2.2.1 s.2.2.2.2.1 s.2.2.2.2.2.1 s.2.2.2.2.2.2) n_ (x51,x52,x53,x54,x55,x56,x57)=some o2_∧Fr t (fun O=>([int .i64 2,O 1,pointer (some ⟨b3,0,none⟩),O 3,pointer (some ⟨b21,0,none⟩),O 5,pointer (some ⟨b23,0,none⟩),O 7,int .i64 x48,O 9,O 10,O 11,O 12,O 13,O 14,O 15,O 16,O 17,O 18,O 19,int .i64 (i64w ((a2.Qav.get 2 0)+1)),int .i64 x48,O 22,O 23,O 24,O 25,O 26,O 27,O 28,O 29,int .i64 (i64w ((i64w ((x42.Qav.get 2 0) - x48))+1)),int .i64 x57,O 32,O 33,O 34,O 35,O 36,O 37,O 38,O 39,O 40,O 41,O 42,O 43,O 44,O 45,O 46,O 47,O 48,O 49]:List Value))∧St wb [Cells b3 (Qaf x51) 71,MapAs b7 QaE bool x52,Cells b6 ([Value.map (some b7)]) 67,Cells b11 (Qaf x53) 71,Cells b14 ((encI .i64) x54) 2,Cells b17 (encB x55) 4,Cells b19 ([Value.func (Fn.func 61) #[] #[pointer (some ⟨b6,0,none⟩),pointer (some ⟨b11,0,none⟩),pointer (some ⟨b14,0,none⟩),pointer (some ⟨b17,0,none⟩)]]) 113,Cells b21 ([Value.func (Fn.func 77) #[] #[pointer (some ⟨b3,0,none⟩),pointer (some ⟨b19,0,none⟩),pointer (some ⟨b21,0,none⟩)]]) 131,Cells b23 (QaA x56) 111,Z] w) N ⟨x42,x43,x44,x45,x46,x47,0,Ho,rfl,hs⟩ ?_ ?_
  ·
   rintro _ _ ⟨x51,x52,x53,x54,x55,x56,x57,h,_⟩
   exact rounds_zero h
  intro n_ ih2_
  rintro t w ⟨x51,x52,x53,x54,x55,x56,x57,Ho,hf,hs⟩
  obtain ⟨O,rfl⟩:=hf.open
  show G _ _ _ _ [_,_,_,_,_,_,_,_,_,_,_,_,_,_,_,_,_,_,_,_,_,_,_,_,_,_,_,_,_,_,_,_,_,_,_,_,_,_,_,_,_,_,_,_,_,_,_,_,_,_] _
  obtain ⟨x17_,H,Hx2_⟩:=rounds_succ Ho
  have H:QaQ.b2 N self x42 x48 x51 x52 x53 x54 x55 x56 x57=some x17_:=H
  unfold QaQ.b2 at H
  refine Qag (Qan [0] rfl ?_)
  refine QaR (B:=decide (x57< (i64w ((i64w ((x42.Qav.get 2 0) - x48))+1)))) rfl rfl rfl ?_ ?_
  ·
   intro hb
   rw [if_pos (b_dec_t hb)] at H
   show G _ _ _ _ [_,_,_,_,_,_,_,_,_,_,_,_,_,_,_,_,_,_,_,_,_,_,_,_,_,_,_,_,_,_,_,_,_,_,_,_,_,_,_,_,_,_,_,_,_,_,_,_,_,_] _
   refine Qaa (Qag (Qaw rfl (QaS (Qag ?_))))
   refine QbP (Qag (Qan [0,1] rfl ?_))
   refine Qab (v:=int .i64 x57) rfl rfl rfl ?_
   refine Qab (v:=int .i64 x57) rfl rfl rfl (Qaa (Qag (Qan [0,1,2,3,4,5,6,7,8,9] rfl ?_)))
   refine Qab (v:=int .i64 2) rfl rfl rfl ?_
   refine Qab (v:=int .i64 2) rfl rfl rfl ?_
   refine Qab (v:=int .i64 x48) rfl rfl rfl ?_
   refine Qab (v:=int .i64 x57) rfl rfl rfl ?_
   refine Qab (v:=pointer (some ⟨b23,0,none⟩)) rfl rfl rfl ?_
   obtain ⟨g14,H⟩:=ite_get H
   refine Qa1 (n:=2) (m:=1) rfl (fun _=>rfl) g14.1 g14.2 rfl rfl rfl rfl rfl ?_
   have hs:St _ [_,_,_,_,_,_,_,_,_,_] _:=hs.pull 8 rfl
   refine Qcq (y:=x48) (a:=x56.Qao) (fkI .i64).len (fkI .i64).one g14.1 g14.2 [] ((encA (encI .i64)) x56.Qaj) (by simp [QaA,encI,encB,encS]) (by first|rfl|simp [encAI_len,encAB_len,encA_len]) hs rfl rfl (cs':=(QaA (⟨x56.Qao.set 2 x48,x56.Qaj⟩:Qas))) (by simp [QaA,encI,encB,encS]) rfl rfl rfl (fun _=>rfl) ?_
   intro w hs
   refine Qab (v:=pointer (some ⟨b23,4,none⟩)) rfl rfl rfl ?_
   obtain ⟨g15,H⟩:=ite_get H
   refine Qa1 (n:=2) (m:=1) rfl (fun _=>rfl) g15.1 g15.2 rfl rfl rfl rfl rfl ?_
   show G _ _ _ _ [_,_,_,_,_,_,_,_,_,_,_,_,_,_,_,_,_,_,_,_,_,_,_,_,_,_,_,_,_,_,_,_,_,_,_,_,_,_,_,_,_,_,_,_,_,_,_,_,_,_] _
   refine Qcq (y:=x57) (a:=((⟨x56.Qao.set 2 x48,x56.Qaj⟩:Qas).Qaj)) (fkI .i64).len (fkI .i64).one g15.1 g15.2 ((encA (encI .i64)) ((⟨x56.Qao.set 2 x48,x56.Qaj⟩:Qas).Qao)) [] (by simp [QaA,encI,encB,encS]) (by first|rfl|simp [encAI_len,encAB_len,encA_len]) hs rfl rfl (cs':=(QaA (⟨(⟨x56.Qao.set 2 x48,x56.Qaj⟩:Qas).Qao,((⟨x56.Qao.set 2 x48,x56.Qaj⟩:Qas).Qaj).set 2 x57⟩:Qas))) (by simp [QaA,encI,encB,encS]) rfl rfl rfl (fun _=>rfl) ?_
   intro w hs
   refine Qaa (Qag (Qan [0,1,2,3,4,5] rfl ?_))
   refine Qaz rfl rfl (v:=Value.func (Fn.func 77) #[] #[pointer (some ⟨b3,0,none⟩),pointer (some ⟨b19,0,none⟩),pointer (some ⟨b21,0,none⟩)]) rfl rfl (fun _=>rfl) (cells_load (hs.cells 8 rfl) 0 1 rfl) ?_
   refine Qab (v:=int .i64 2) rfl rfl rfl ?_
   refine Qab (v:=int .i64 3) rfl rfl rfl ?_
   refine QaG rfl rfl (es:=(QaA (⟨(⟨x56.Qao.set 2 x48,x56.Qaj⟩:Qas).Qao,((⟨x56.Qao.set 2 x48,x56.Qaj⟩:Qas).Qaj).set 2 x57⟩:Qas))) rfl rfl (fun _=>rfl) (n:=8) (fun _=>rfl) (Qco.len _) (cells_all (hs.cells 0 rfl)) ?_
   show G _ _ _ _ [_,_,_,_,_,_,_,_,_,_,_,_,_,_,_,_,_,_,_,_,_,_,_,_,_,_,_,_,_,_,_,_,_,_,_,_,_,_,_,_,_,_,_,_,_,_,_,_,_,_] _
   obtain ⟨r58,Hr58,H⟩:=bind_get H
   have hs:=hs.pull 8 rfl
   have hs:=hs.pull 8 rfl
   have hs:=hs.pull 8 rfl
   have hs:=hs.pull 8 rfl
   have hs:=hs.pull 8 rfl
   have hs:=hs.pull 8 rfl
   have hs:=hs.pull 8 rfl
   have hs:St _ [_,_,_,_,_,_,_,_,_,_] _:=hs.pull 8 rfl
   have hs:=hs.pack 8
   refine QaP (args:=[int .i64 3,agg (QaA (⟨(⟨x56.Qao.set 2 x48,x56.Qaj⟩:Qas).Qao,((⟨x56.Qao.set 2 x48,x56.Qaj⟩:Qas).Qaj).set 2 x57⟩:Qas)).toArray,pointer (some ⟨b3,0,none⟩),pointer (some ⟨b19,0,none⟩),pointer (some ⟨b21,0,none⟩)]) rfl rfl (QcT rfl (callFunc_enter Try.func77 rfl rfl) rfl rfl) (QbD.calls ih (a1:=(⟨(⟨x56.Qao.set 2 x48,x56.Qaj⟩:Qas).Qao,((⟨x56.Qao.set 2 x48,x56.Qaj⟩:Qas).Qaj).set 2 x57⟩:Qas)) (a2:=x51) (a5:=x52) (a10:=x53) (a13:=x54) (a16:=x55) hs Hr58) ?_
   rintro _ w ⟨rfl,hs⟩
   have hs:=St.unpack (Γ:=[_,_,_,_,_,_,_,_]) hs
   have hs:St _ [_,_,_,_,_,_,_,_,_,_] _:=hs
   generalize hb16_:r58.1=b_ at H ⊢
   cases b_ with
   |true=>
    rw [if_pos rfl] at H
    refine Qab (v:=bool false) rfl rfl rfl (Qaa (Qax rfl (QaS ?_)))
    refine Qa5 (Qan [0,1] rfl ?_)
    refine Qab (v:=int .i64 (i64w (x57+1))) rfl rfl rfl ?_
    show G _ _ _ _ [_,_,_,_,_,_,_,_,_,_,_,_,_,_,_,_,_,_,_,_,_,_,_,_,_,_,_,_,_,_,_,_,_,_,_,_,_,_,_,_,_,_,_,_,_,_,_,_,_,_] _
    refine Qab (v:=int .i64 (i64w (x57+1))) rfl rfl rfl (Qaa ?_)
    obtain rfl:=QsJ H
    have hs:=hs.pull 9 rfl
    have hs:=hs.pull 9 rfl
    have hs:=hs.pull 9 rfl
    have hs:=hs.pull 9 rfl
    have hs:=hs.pull 9 rfl
    have hs:=hs.pull 9 rfl
    have hs:=hs.pull 9 rfl
    have hs:=hs.pull 9 rfl
    have hs:=hs.pull 9 rfl
    have hs:=hs.pull 9 rfl
    have hs:St _ [_,_,_,_,_,_,_,_,_,_] _:=St.take (Γ':=[]) hs
    exact ih2_ _ _ ⟨r58.2.1,r58.2.2.1,r58.2.2.2.2.1,r58.2.2.2.2.2.1,r58.2.2.2.2.2.2.1,(⟨(⟨x56.Qao.set 2 x48,x56.Qaj⟩:Qas).Qao,((⟨x56.Qao.set 2 x48,x56.Qaj⟩:Qas).Qaj).set 2 x57⟩:Qas),i64w (x57+1),Hx2_,rfl,hs⟩
   |false=>
    rw [if_neg Bool.false_ne_true] at H
    refine Qab (v:=bool true) rfl rfl rfl (Qaa (Qaw rfl (Qag (Qan [0] rfl ?_))))
    refine Qab (v:=bool false) rfl rfl rfl ?_
    show G _ _ _ _ [_,_,_,_,_,_,_,_,_,_,_,_,_,_,_,_,_,_,_,_,_,_,_,_,_,_,_,_,_,_,_,_,_,_,_,_,_,_,_,_,_,_,_,_,_,_,_,_,_,_] _
    refine Qaa ?_
    obtain rfl:=QsJ H
    subst Hx2_
    have H:=QsJ Hr2_
    subst H
    subst Hx1_
    have H:=QsJ Hr1_
    subst H
    refine QaK Try.func77 (v:=bool false) (res1 rfl rfl) ?_
    have hs:=hs.pull 9 rfl
    have hs:=hs.pull 8 rfl
    have hs:=hs.pull 8 rfl
    have hs:=hs.pull 8 rfl
    have hs:=hs.pull 8 rfl
    have hs:=hs.pull 8 rfl
    have hs:=hs.pull 8 rfl
    have hs:=hs.pull 8 rfl
    have hs:=hs.pull 8 rfl
    have hs:St _ [_,_,_,_,_,_,_,_,_] _:=St.take (Γ':=[_]) hs
    exact ⟨_,rfl,rfl,hs⟩
  intro hb
  rw [if_neg (b_dec_f hb)] at H
  refine Qaa (Qag (Qax rfl ?_))
  obtain rfl:=QsJ H
  subst Hx2_
  have hs:=hs.pull 9 rfl
  have hs:=hs.pull 9 rfl
  have hs:=hs.pull 7 rfl
  have hs:=hs.pull 7 rfl
  have hs:=hs.pull 7 rfl
  have hs:=hs.pull 6 rfl
  have hs:=hs.pull 7 rfl
  have hs:=hs.pull 8 rfl
  have hs:=hs.pull 9 rfl
  have hs:=hs.pull 9 rfl
  have hs:St _ [_,_,_,_,_,_,_,_,_,_] _:=St.take (Γ':=[]) hs
  refine QbG rfl ?_
  exact ha2_ _ _ ⟨x51,x52,x53,x54,x55,x56,Hr2_,rfl,hs⟩
 intro hb
 rw [if_neg (b_dec_f hb)] at H
 refine Qaa (Qag (Qax rfl ?_))
 obtain rfl:=QsJ H
 subst Hx1_
 have hs:=hs.pull 9 rfl
 have hs:=hs.pull 8 rfl
 have hs:=hs.pull 8 rfl
 have hs:=hs.pull 8 rfl
 have hs:=hs.pull 8 rfl
 have hs:=hs.pull 8 rfl
 have hs:=hs.pull 8 rfl
 have hs:=hs.pull 8 rfl
 have hs:=hs.pull 8 rfl
 have hs:St _ [_,_,_,_,_,_,_,_,_] _:=St.take (Γ':=[_]) hs
 refine QbG rfl ?_
 exact ha1_ _ _ ⟨x42,x43,x44,x45,x46,Hr1_,rfl,hs⟩
def QaO.post (wb:World) (Z:As) (b3:Nat) (b7:Nat) (b6:Nat) (b7:Nat) (b11:Nat) (b14:Nat) (b17:Nat) (b19:Nat) (b21:Nat) (r:(Bool×Qac×(List (Qad×Bool))×(List (Qad×Bool))×Qac×Int×Bool×Unit×Unit)) (v:Value) (w:World):Prop:=v=bool r.1∧St wb [Cells b3 (Qaf r.2.1) 71,MapAs b7 QaE bool r.2.2.1,Cells b6 ([Value.map (some b7)]) 67,Cells b11 (Qaf r.2.2.2.2.1) 71,Cells b14 ((encI .i64) r.2.2.2.2.2.1) 2,Cells b17 (encB r.2.2.2.2.2.2.1) 4,Cells b19 ([Value.func (Fn.func 61) #[] #[pointer (some ⟨b6,0,none⟩),pointer (some ⟨b11,0,none⟩),pointer (some ⟨b14,0,none⟩),pointer (some ⟨b17,0,none⟩)]]) 113,Cells b21 ([Value.func (Fn.func 77) #[] #[pointer (some ⟨b3,0,none⟩),pointer (some ⟨b19,0,none⟩),pointer (some ⟨b21,0,none⟩)]]) 131,Z] w
theorem QaO.calls {N:Nat} {self:(List (Qad×Bool))→Qac→Int→Option (Bool×(List (Qad×Bool)))} (ih:∀ (a1:(List (Qad×Bool))) (a4:Qac) (a5:Int) (b2:Nat) (wb:World) (Z:As) (w0:World) (r:(Bool×(List (Qad×Bool)))) (hs:St wb [MapAs b2 QaE bool a1,Z] w0),self a1 a4 a5=some r→Calls Try.prog 32 #[Value.map (some b2),agg (Qaf a4).toArray,int .i64 a5] w0 fun e w=>∃ v,e= .returned v∧QaH.post wb Z b2 r v w) {a1:Qas} {a2:Qac} {a5:(List (Qad×Bool))} {a10:Qac} {a13:Int} {a16:Bool} {b3:Nat} {b6:Nat} {b7:Nat} {b11:Nat} {b14:Nat} {b17:Nat} {b19:Nat} {b21:Nat} {wb:World} {Z:As} {w0:World} {r:(Bool×Qac×(List (Qad×Bool))×(List (Qad×Bool))×Qac×Int×Bool×Unit×Unit)} (hs:St wb [Cells b3 (Qaf a2) 71,MapAs b7 QaE bool a5,Cells b6 ([Value.map (some b7)]) 67,Cells b11 (Qaf a10) 71,Cells b14 ((encI .i64) a13) 2,Cells b17 (encB a16) 4,Cells b19 ([Value.func (Fn.func 61) #[] #[pointer (some ⟨b6,0,none⟩),pointer (some ⟨b11,0,none⟩),pointer (some ⟨b14,0,none⟩),pointer (some ⟨b17,0,none⟩)]]) 113,Cells b21 ([Value.func (Fn.func 77) #[] #[pointer (some ⟨b3,0,none⟩),pointer (some ⟨b19,0,none⟩),pointer (some ⟨b21,0,none⟩)]]) 131,Z] w0) (H:QaO.f N self a1 a2 a5 a10 a13 a16=some r):
 Calls Try.prog 77 #[int .i64 1,agg (QaA a1).toArray,pointer (some ⟨b3,0,none⟩),pointer (some ⟨b19,0,none⟩),pointer (some ⟨b21,0,none⟩)] w0 fun e w=>∃ v,e= .returned v∧QaO.post wb Z b3 b7 b6 b7 b11 b14 b17 b19 b21 r v w:=by
 unfold QaO.f at H
 refine calls_of_g (n:=45) Try.func77 rfl rfl ?_
 show G _ _ _ _ [_,_,_,_,_,_,_,_,_,_,_,_,_,_,_,_,_,_,_,_,_,_,_,_,_,_,_,_,_,_,_,_,_,_,_,_,_,_,_,_,_,_,_,_,_,_,_,_,_,_] _
 refine Qag (Qan [0,1] rfl ?_)
 refine Qbw hs rfl rfl (cs:=(QaA a1)) rfl rfl ?_
 intro b23 w hs
 refine Qab (v:=bool false) rfl rfl rfl (Qaa (Qag (Qag (Qan [0,1] rfl ?_))))
 refine Qab (v:=int .i64 1) rfl rfl rfl ?_
 refine Qab (v:=bool false) rfl rfl rfl ?_
 show G _ _ _ _ [_,_,_,_,_,_,_,_,_,_,_,_,_,_,_,_,_,_,_,_,_,_,_,_,_,_,_,_,_,_,_,_,_,_,_,_,_,_,_,_,_,_,_,_,_,_,_,_,_,_] _
 refine Qaa (Qax rfl (QaS (Qag (Qag (Qan [0,1,2,3,4,5] rfl ?_)))))
 refine Qab (v:=int .i64 1) rfl rfl rfl ?_
 refine Qab (v:=pointer (some ⟨b3,0,none⟩)) rfl rfl rfl ?_
 obtain ⟨g1,H⟩:=ite_get H
 refine Qa1 (n:=1) (m:=1) rfl (fun _=>rfl) g1.1 g1.2 rfl rfl rfl rfl rfl ?_
 refine Qaz rfl rfl (v:=int .i64 (a2.Qav.get 1 0)) rfl rfl (fun _=>rfl) (cells_load (hs.cells 1 rfl) _ _ (part_get (i:=1) (fkI .i64).len a2.Qav 0 g1.1 g1.2 [] (encB a2.QaU) (by simp [Qaf,encI,encB,encS]) (by first|rfl|simp [encAI_len,encAB_len,encA_len]))) ?_
 refine Qab (v:=int .i64 (i64w ((a2.Qav.get 1 0)+1))) rfl rfl rfl ?_
 show G _ _ _ _ [_,_,_,_,_,_,_,_,_,_,_,_,_,_,_,_,_,_,_,_,_,_,_,_,_,_,_,_,_,_,_,_,_,_,_,_,_,_,_,_,_,_,_,_,_,_,_,_,_,_] _
 refine Qab (v:=int .i64 0) rfl rfl rfl (Qaa ?_)
 obtain ⟨o1_,Ho,Hr1_⟩:=bind_get H
 refine Qa2 (J:=fun t w=>∃ x65:Qac,∃ x66:(List (Qad×Bool)),∃ x67:Qac,∃ x68:Int,∃ x69:Bool,QaO.a0 N self x65 x66 x67 x68 x69=some r∧Fr t (fun O=>([O 0,O 1,O 2,O 3,O 4,O 5,O 6,O 7,O 8,O 9,O 10,O 11,O 12,O 13,O 14,O 15,O 16,O 17,O 18,O 19,O 20,O 21,O 22,O 23,O 24,O 25,O 26,O 27,O 28,O 29,O 30,O 31,O 32,O 33,O 34,O 35,O 36,O 37,O 38,O 39,O 40,O 41,O 42,O 43,O 44,O 45,O 46,O 47,O 48,O 49]:List Value))∧St wb [Cells b3 (Qaf x65) 71,MapAs b7 QaE bool x66,Cells b6 ([Value.map (some b7)]) 67,Cells b11 (Qaf x67) 71,Cells b14 ((encI .i64) x68) 2,Cells b17 (encB x69) 4,Cells b19 ([Value.func (Fn.func 61) #[] #[pointer (some ⟨b6,0,none⟩),pointer (some ⟨b11,0,none⟩),pointer (some ⟨b14,0,none⟩),pointer (some ⟨b17,0,none⟩)]]) 113,Cells b21 ([Value.func (Fn.func 77) #[] #[pointer (some ⟨b3,0,none⟩),pointer (some ⟨b19,0,none⟩),pointer (some ⟨b21,0,none⟩)]]) 131,Z] w) ?_ ?_
 ·
  rintro t w ⟨x65,x66,x67,x68,x69,H,hf,hs⟩
  obtain ⟨O,rfl⟩:=hf.open
  show G _ _ _ _ [_,_,_,_,_,_,_,_,_,_,_,_,_,_,_,_,_,_,_,_,_,_,_,_,_,_,_,_,_,_,_,_,_,_,_,_,_,_,_,_,_,_,_,_,_,_,_,_,_,_] _
  unfold QaO.a0 at H
  refine Qag (Qan [0] rfl ?_)
  refine Qab (v:=bool true) rfl rfl rfl ?_
  show G _ _ _ _ [_,_,_,_,_,_,_,_,_,_,_,_,_,_,_,_,_,_,_,_,_,_,_,_,_,_,_,_,_,_,_,_,_,_,_,_,_,_,_,_,_,_,_,_,_,_,_,_,_,_] _
  refine Qaa ?_
  obtain rfl:=QsJ H
  refine QaK Try.func77 (v:=bool true) (res1 rfl rfl) ?_
  have hs:=hs.pull 8 rfl
  have hs:=hs.pull 8 rfl
  have hs:=hs.pull 8 rfl
  have hs:=hs.pull 8 rfl
  have hs:=hs.pull 8 rfl
  have hs:=hs.pull 8 rfl
  have hs:=hs.pull 8 rfl
  have hs:=hs.pull 8 rfl
  have hs:=hs.pull 8 rfl
  have hs:St _ [_,_,_,_,_,_,_,_,_] _:=St.take (Γ':=[]) hs
  exact ⟨_,rfl,rfl,hs⟩
 intro ha1_
 have hs:=hs.pull 9 rfl
 have hs:=hs.pull 1 rfl
 have hs:=hs.pull 9 rfl
 have hs:=hs.pull 9 rfl
 have hs:=hs.pull 9 rfl
 have hs:=hs.pull 9 rfl
 have hs:=hs.pull 9 rfl
 have hs:=hs.pull 9 rfl
 have hs:=hs.pull 9 rfl
 have hs:=hs.pull 9 rfl
 have hs:St _ [_,_,_,_,_,_,_,_,_,_] _:=St.take (Γ':=[]) hs
 refine Qbk (I:=fun n_ t w=>∃ x42:Qac,∃ x43:(List (Qad×Bool)),∃ x44:Qac,∃ x45:Int,∃ x46:Bool,∃ x47:Qas,∃ x48:Int,rounds (fun s=>QaO.b0 N self a2 s.1 s.2.1 s.2.2.1 s.2.2.2.1 s.2.2.2.2.1 s.2.2.2.2.2.1 s.2.2.2.2.2.2) n_ (x42,x43,x44,x45,x46,x47,x48)=some o1_∧Fr t (fun O=>([int .i64 1,O 1,pointer (some ⟨b3,0,none⟩),O 3,pointer (some ⟨b21,0,none⟩),O 5,pointer (some ⟨b23,0,none⟩),O 7,O 8,O 9,O 10,O 11,O 12,O 13,O 14,O 15,O 16,O 17,O 18,O 19,int .i64 (i64w ((a2.Qav.get 1 0)+1)),int .i64 x48,O 22,O 23,O 24,O 25,O 26,O 27,O 28,O 29,O 30,O 31,O 32,O 33,O 34,O 35,O 36,O 37,O 38,O 39,O 40,O 41,O 42,O 43,O 44,O 45,O 46,O 47,O 48,O 49]:List Value))∧St wb [Cells b3 (Qaf x42) 71,MapAs b7 QaE bool x43,Cells b6 ([Value.map (some b7)]) 67,Cells b11 (Qaf x44) 71,Cells b14 ((encI .i64) x45) 2,Cells b17 (encB x46) 4,Cells b19 ([Value.func (Fn.func 61) #[] #[pointer (some ⟨b6,0,none⟩),pointer (some ⟨b11,0,none⟩),pointer (some ⟨b14,0,none⟩),pointer (some ⟨b17,0,none⟩)]]) 113,Cells b21 ([Value.func (Fn.func 77) #[] #[pointer (some ⟨b3,0,none⟩),pointer (some ⟨b19,0,none⟩),pointer (some ⟨b21,0,none⟩)]]) 131,Cells b23 (QaA x47) 111,Z] w) N ⟨a2,a5,a10,a13,a16,a1,0,Ho,rfl,hs⟩ ?_ ?_
 ·
  rintro _ _ ⟨x42,x43,x44,x45,x46,x47,x48,h,_⟩
  exact rounds_zero h
 intro n_ ih1_
 rintro t w ⟨x42,x43,x44,x45,x46,x47,x48,Ho,hf,hs⟩
 obtain ⟨O,rfl⟩:=hf.open
 show G _ _ _ _ [_,_,_,_,_,_,_,_,_,_,_,_,_,_,_,_,_,_,_,_,_,_,_,_,_,_,_,_,_,_,_,_,_,_,_,_,_,_,_,_,_,_,_,_,_,_,_,_,_,_] _
 obtain ⟨x18_,H,Hx1_⟩:=rounds_succ Ho
 have H:QaO.b0 N self a2 x42 x43 x44 x45 x46 x47 x48=some x18_:=H
 unfold QaO.b0 at H
 refine Qag (Qan [0] rfl ?_)
 refine QaR (B:=decide (x48< (i64w ((a2.Qav.get 1 0)+1)))) rfl rfl rfl ?_ ?_
 ·
  intro hb
  rw [if_pos (b_dec_t hb)] at H
  refine Qaa (Qag (Qaw rfl (QaS (Qag ?_))))
  refine QbP (Qag (Qan [0,1] rfl ?_))
  refine Qab (v:=int .i64 x48) rfl rfl rfl ?_
  refine Qab (v:=int .i64 x48) rfl rfl rfl ?_
  show G _ _ _ _ [_,_,_,_,_,_,_,_,_,_,_,_,_,_,_,_,_,_,_,_,_,_,_,_,_,_,_,_,_,_,_,_,_,_,_,_,_,_,_,_,_,_,_,_,_,_,_,_,_,_] _
  refine Qaa (Qag (Qan [0,1,2,3,4,5,6,7] rfl ?_))
  refine Qab (v:=int .i64 1) rfl rfl rfl ?_
  refine Qab (v:=pointer (some ⟨b3,0,none⟩)) rfl rfl rfl ?_
  obtain ⟨g10,H⟩:=ite_get H
  refine Qa1 (n:=1) (m:=1) rfl (fun _=>rfl) g10.1 g10.2 rfl rfl rfl rfl rfl ?_
  refine Qaz rfl rfl (v:=int .i64 (x42.Qav.get 1 0)) rfl rfl (fun _=>rfl) (cells_load (hs.cells 0 rfl) _ _ (part_get (i:=1) (fkI .i64).len x42.Qav 0 g10.1 g10.2 [] (encB x42.QaU) (by simp [Qaf,encI,encB,encS]) (by first|rfl|simp [encAI_len,encAB_len,encA_len]))) ?_
  refine Qab (v:=int .i64 x48) rfl rfl rfl ?_
  refine Qab (v:=int .i64 (i64w ((x42.Qav.get 1 0) - x48))) rfl rfl rfl ?_
  show G _ _ _ _ [_,_,_,_,_,_,_,_,_,_,_,_,_,_,_,_,_,_,_,_,_,_,_,_,_,_,_,_,_,_,_,_,_,_,_,_,_,_,_,_,_,_,_,_,_,_,_,_,_,_] _
  refine Qab (v:=int .i64 (i64w ((i64w ((x42.Qav.get 1 0) - x48))+1))) rfl rfl rfl ?_
  refine Qab (v:=int .i64 0) rfl rfl rfl (Qaa ?_)
  obtain ⟨o2_,Ho,Hr2_⟩:=bind_get H
  refine Qa2 (J:=fun t w=>∃ x59:Qac,∃ x60:(List (Qad×Bool)),∃ x61:Qac,∃ x62:Int,∃ x63:Bool,∃ x64:Qas,QaO.a2 N self x48 x59 x60 x61 x62 x63 x64=some x18_∧Fr t (fun O=>([int .i64 1,O 1,pointer (some ⟨b3,0,none⟩),O 3,pointer (some ⟨b21,0,none⟩),O 5,pointer (some ⟨b23,0,none⟩),O 7,O 8,O 9,O 10,O 11,O 12,O 13,O 14,O 15,O 16,O 17,O 18,O 19,int .i64 (i64w ((a2.Qav.get 1 0)+1)),int .i64 x48,O 22,O 23,O 24,O 25,O 26,O 27,O 28,O 29,O 30,O 31,O 32,O 33,O 34,O 35,O 36,O 37,O 38,O 39,O 40,O 41,O 42,O 43,O 44,O 45,O 46,O 47,O 48,O 49]:List Value))∧St wb [Cells b3 (Qaf x59) 71,Cells b21 ([Value.func (Fn.func 77) #[] #[pointer (some ⟨b3,0,none⟩),pointer (some ⟨b19,0,none⟩),pointer (some ⟨b21,0,none⟩)]]) 131,Cells b19 ([Value.func (Fn.func 61) #[] #[pointer (some ⟨b6,0,none⟩),pointer (some ⟨b11,0,none⟩),pointer (some ⟨b14,0,none⟩),pointer (some ⟨b17,0,none⟩)]]) 113,Cells b6 ([Value.map (some b7)]) 67,MapAs b7 QaE bool x60,Cells b11 (Qaf x61) 71,Cells b14 ((encI .i64) x62) 2,Cells b17 (encB x63) 4,Cells b23 (QaA x64) 111,Z] w) ?_ ?_
  ·
   rintro t w ⟨x59,x60,x61,x62,x63,x64,H,hf,hs⟩
   obtain ⟨O,rfl⟩:=hf.open
   show G _ _ _ _ [_,_,_,_,_,_,_,_,_,_,_,_,_,_,_,_,_,_,_,_,_,_,_,_,_,_,_,_,_,_,_,_,_,_,_,_,_,_,_,_,_,_,_,_,_,_,_,_,_,_] _
   unfold QaO.a2 at H
   refine Qa5 (Qan [0,1] rfl ?_)
   refine Qab (v:=int .i64 (i64w (x48+1))) rfl rfl rfl ?_
   refine Qab (v:=int .i64 (i64w (x48+1))) rfl rfl rfl (Qaa ?_)
   obtain rfl:=QsJ H
   have hs:=hs.pull 9 rfl
   have hs:=hs.pull 9 rfl
   have hs:=hs.pull 3 rfl
   have hs:=hs.pull 4 rfl
   have hs:=hs.pull 9 rfl
   have hs:=hs.pull 9 rfl
   have hs:=hs.pull 9 rfl
   have hs:=hs.pull 8 rfl
   have hs:=hs.pull 9 rfl
   have hs:=hs.pull 9 rfl
   have hs:St _ [_,_,_,_,_,_,_,_,_,_] _:=St.take (Γ':=[]) hs
   exact ih1_ _ _ ⟨x59,x60,x61,x62,x63,x64,i64w (x48+1),Hx1_,rfl,hs⟩
  intro ha2_
  have hs:=hs.pull 9 rfl
  have hs:=hs.pull 9 rfl
  have hs:=hs.pull 9 rfl
  have hs:=hs.pull 9 rfl
  have hs:=hs.pull 9 rfl
  have hs:=hs.pull 9 rfl
  have hs:=hs.pull 9 rfl
  have hs:=hs.pull 9 rfl
  have hs:=hs.pull 9 rfl
  have hs:=hs.pull 9 rfl
  have hs:St _ [_,_,_,_,_,_,_,_,_,_] _:=St.take (Γ':=[]) hs
  refine Qbk (I:=fun n_ t w=>∃ x51:Qac,∃ x52:(List (Qad×Bool)),∃ x53:Qac,∃ x54:Int,∃ x55:Bool,∃ x56:Qas,∃ x57:Int,rounds (fun s=>QaO.b2 N self x42 x48 s.1 s.2.1 s.2.2.1 s.2.2.2.1 s.2.2.2.2.1 s.2.2.2.2.2.1 s.2.2.2.2.2.2) n_ (x51,x52,x53,x54,x55,x56,x57)=some o2_∧Fr t (fun O=>([int .i64 1,O 1,pointer (some ⟨b3,0,none⟩),O 3,pointer (some ⟨b21,0,none⟩),O 5,pointer (some ⟨b23,0,none⟩),O 7,int .i64 x48,O 9,O 10,O 11,O 12,O 13,O 14,O 15,O 16,O 17,O 18,O 19,int .i64 (i64w ((a2.Qav.get 1 0)+1)),int .i64 x48,O 22,O 23,O 24,O 25,O 26,O 27,O 28,O 29,int .i64 (i64w ((i64w ((x42.Qav.get 1 0) - x48))+1)),int .i64 x57,O 32,O 33,O 34,O 35,O 36,O 37,O 38,O 39,O 40,O 41,O 42,O 43,O 44,O 45,O 46,O 47,O 48,O 49]:List Value))∧St wb [Cells b3 (Qaf x51) 71,MapAs b7 QaE bool x52,Cells b6 ([Value.map (some b7)]) 67,Cells b11 (Qaf x53) 71,Cells b14 ((encI .i64) x54) 2,Cells b17 (encB x55) 4,Cells b19 ([Value.func (Fn.func 61) #[] #[pointer (some ⟨b6,0,none⟩),pointer (some ⟨b11,0,none⟩),pointer (some ⟨b14,0,none⟩),pointer (some ⟨b17,0,none⟩)]]) 113,Cells b21 ([Value.func (Fn.func 77) #[] #[pointer (some ⟨b3,0,none⟩),pointer (some ⟨b19,0,none⟩),pointer (some ⟨b21,0,none⟩)]]) 131,Cells b23 (QaA x56) 111,Z] w) N ⟨x42,x43,x44,x45,x46,x47,0,Ho,rfl,hs⟩ ?_ ?_
  ·
   rintro _ _ ⟨x51,x52,x53,x54,x55,x56,x57,h,_⟩
   exact rounds_zero h
  intro n_ ih2_
  rintro t w ⟨x51,x52,x53,x54,x55,x56,x57,Ho,hf,hs⟩
  obtain ⟨O,rfl⟩:=hf.open
  show G _ _ _ _ [_,_,_,_,_,_,_,_,_,_,_,_,_,_,_,_,_,_,_,_,_,_,_,_,_,_,_,_,_,_,_,_,_,_,_,_,_,_,_,_,_,_,_,_,_,_,_,_,_,_] _
  obtain ⟨x17_,H,Hx2_⟩:=rounds_succ Ho
  have H:QaO.b2 N self x42 x48 x51 x52 x53 x54 x55 x56 x57=some x17_:=H
  unfold QaO.b2 at H
  refine Qag (Qan [0] rfl ?_)
  refine QaR (B:=decide (x57< (i64w ((i64w ((x42.Qav.get 1 0) - x48))+1)))) rfl rfl rfl ?_ ?_
  ·
   intro hb
   rw [if_pos (b_dec_t hb)] at H
   show G _ _ _ _ [_,_,_,_,_,_,_,_,_,_,_,_,_,_,_,_,_,_,_,_,_,_,_,_,_,_,_,_,_,_,_,_,_,_,_,_,_,_,_,_,_,_,_,_,_,_,_,_,_,_] _
   refine Qaa (Qag (Qaw rfl (QaS (Qag ?_))))
   refine QbP (Qag (Qan [0,1] rfl ?_))
   refine Qab (v:=int .i64 x57) rfl rfl rfl ?_
   refine Qab (v:=int .i64 x57) rfl rfl rfl (Qaa (Qag (Qan [0,1,2,3,4,5,6,7,8,9] rfl ?_)))
   refine Qab (v:=int .i64 1) rfl rfl rfl ?_
   refine Qab (v:=int .i64 1) rfl rfl rfl ?_
   refine Qab (v:=int .i64 x48) rfl rfl rfl ?_
   refine Qab (v:=int .i64 x57) rfl rfl rfl ?_
   refine Qab (v:=pointer (some ⟨b23,0,none⟩)) rfl rfl rfl ?_
   obtain ⟨g14,H⟩:=ite_get H
   refine Qa1 (n:=1) (m:=1) rfl (fun _=>rfl) g14.1 g14.2 rfl rfl rfl rfl rfl ?_
   have hs:St _ [_,_,_,_,_,_,_,_,_,_] _:=hs.pull 8 rfl
   refine Qcq (y:=x48) (a:=x56.Qao) (fkI .i64).len (fkI .i64).one g14.1 g14.2 [] ((encA (encI .i64)) x56.Qaj) (by simp [QaA,encI,encB,encS]) (by first|rfl|simp [encAI_len,encAB_len,encA_len]) hs rfl rfl (cs':=(QaA (⟨x56.Qao.set 1 x48,x56.Qaj⟩:Qas))) (by simp [QaA,encI,encB,encS]) rfl rfl rfl (fun _=>rfl) ?_
   intro w hs
   refine Qab (v:=pointer (some ⟨b23,4,none⟩)) rfl rfl rfl ?_
   obtain ⟨g15,H⟩:=ite_get H
   refine Qa1 (n:=1) (m:=1) rfl (fun _=>rfl) g15.1 g15.2 rfl rfl rfl rfl rfl ?_
   show G _ _ _ _ [_,_,_,_,_,_,_,_,_,_,_,_,_,_,_,_,_,_,_,_,_,_,_,_,_,_,_,_,_,_,_,_,_,_,_,_,_,_,_,_,_,_,_,_,_,_,_,_,_,_] _
   refine Qcq (y:=x57) (a:=((⟨x56.Qao.set 1 x48,x56.Qaj⟩:Qas).Qaj)) (fkI .i64).len (fkI .i64).one g15.1 g15.2 ((encA (encI .i64)) ((⟨x56.Qao.set 1 x48,x56.Qaj⟩:Qas).Qao)) [] (by simp [QaA,encI,encB,encS]) (by first|rfl|simp [encAI_len,encAB_len,encA_len]) hs rfl rfl (cs':=(QaA (⟨(⟨x56.Qao.set 1 x48,x56.Qaj⟩:Qas).Qao,((⟨x56.Qao.set 1 x48,x56.Qaj⟩:Qas).Qaj).set 1 x57⟩:Qas))) (by simp [QaA,encI,encB,encS]) rfl rfl rfl (fun _=>rfl) ?_
   intro w hs
   refine Qaa (Qag (Qan [0,1,2,3,4,5] rfl ?_))
   refine Qaz rfl rfl (v:=Value.func (Fn.func 77) #[] #[pointer (some ⟨b3,0,none⟩),pointer (some ⟨b19,0,none⟩),pointer (some ⟨b21,0,none⟩)]) rfl rfl (fun _=>rfl) (cells_load (hs.cells 8 rfl) 0 1 rfl) ?_
   refine Qab (v:=int .i64 1) rfl rfl rfl ?_
   refine Qab (v:=int .i64 2) rfl rfl rfl ?_
   refine QaG rfl rfl (es:=(QaA (⟨(⟨x56.Qao.set 1 x48,x56.Qaj⟩:Qas).Qao,((⟨x56.Qao.set 1 x48,x56.Qaj⟩:Qas).Qaj).set 1 x57⟩:Qas))) rfl rfl (fun _=>rfl) (n:=8) (fun _=>rfl) (Qco.len _) (cells_all (hs.cells 0 rfl)) ?_
   show G _ _ _ _ [_,_,_,_,_,_,_,_,_,_,_,_,_,_,_,_,_,_,_,_,_,_,_,_,_,_,_,_,_,_,_,_,_,_,_,_,_,_,_,_,_,_,_,_,_,_,_,_,_,_] _
   obtain ⟨r58,Hr58,H⟩:=bind_get H
   have hs:=hs.pull 8 rfl
   have hs:=hs.pull 8 rfl
   have hs:=hs.pull 8 rfl
   have hs:=hs.pull 8 rfl
   have hs:=hs.pull 8 rfl
   have hs:=hs.pull 8 rfl
   have hs:=hs.pull 8 rfl
   have hs:St _ [_,_,_,_,_,_,_,_,_,_] _:=hs.pull 8 rfl
   have hs:=hs.pack 8
   refine QaP (args:=[int .i64 2,agg (QaA (⟨(⟨x56.Qao.set 1 x48,x56.Qaj⟩:Qas).Qao,((⟨x56.Qao.set 1 x48,x56.Qaj⟩:Qas).Qaj).set 1 x57⟩:Qas)).toArray,pointer (some ⟨b3,0,none⟩),pointer (some ⟨b19,0,none⟩),pointer (some ⟨b21,0,none⟩)]) rfl rfl (QcT rfl (callFunc_enter Try.func77 rfl rfl) rfl rfl) (QaQ.calls ih (a1:=(⟨(⟨x56.Qao.set 1 x48,x56.Qaj⟩:Qas).Qao,((⟨x56.Qao.set 1 x48,x56.Qaj⟩:Qas).Qaj).set 1 x57⟩:Qas)) (a2:=x51) (a5:=x52) (a10:=x53) (a13:=x54) (a16:=x55) hs Hr58) ?_
   rintro _ w ⟨rfl,hs⟩
   have hs:=St.unpack (Γ:=[_,_,_,_,_,_,_,_]) hs
   have hs:St _ [_,_,_,_,_,_,_,_,_,_] _:=hs
   generalize hb16_:r58.1=b_ at H ⊢
   cases b_ with
   |true=>
    rw [if_pos rfl] at H
    refine Qab (v:=bool false) rfl rfl rfl (Qaa (Qax rfl (QaS ?_)))
    refine Qa5 (Qan [0,1] rfl ?_)
    refine Qab (v:=int .i64 (i64w (x57+1))) rfl rfl rfl ?_
    show G _ _ _ _ [_,_,_,_,_,_,_,_,_,_,_,_,_,_,_,_,_,_,_,_,_,_,_,_,_,_,_,_,_,_,_,_,_,_,_,_,_,_,_,_,_,_,_,_,_,_,_,_,_,_] _
    refine Qab (v:=int .i64 (i64w (x57+1))) rfl rfl rfl (Qaa ?_)
    obtain rfl:=QsJ H
    have hs:=hs.pull 9 rfl
    have hs:=hs.pull 9 rfl
    have hs:=hs.pull 9 rfl
    have hs:=hs.pull 9 rfl
    have hs:=hs.pull 9 rfl
    have hs:=hs.pull 9 rfl
    have hs:=hs.pull 9 rfl
    have hs:=hs.pull 9 rfl
    have hs:=hs.pull 9 rfl
    have hs:=hs.pull 9 rfl
    have hs:St _ [_,_,_,_,_,_,_,_,_,_] _:=St.take (Γ':=[]) hs
    exact ih2_ _ _ ⟨r58.2.1,r58.2.2.1,r58.2.2.2.2.1,r58.2.2.2.2.2.1,r58.2.2.2.2.2.2.1,(⟨(⟨x56.Qao.set 1 x48,x56.Qaj⟩:Qas).Qao,((⟨x56.Qao.set 1 x48,x56.Qaj⟩:Qas).Qaj).set 1 x57⟩:Qas),i64w (x57+1),Hx2_,rfl,hs⟩
   |false=>
    rw [if_neg Bool.false_ne_true] at H
    refine Qab (v:=bool true) rfl rfl rfl (Qaa (Qaw rfl (Qag (Qan [0] rfl ?_))))
    refine Qab (v:=bool false) rfl rfl rfl ?_
    show G _ _ _ _ [_,_,_,_,_,_,_,_,_,_,_,_,_,_,_,_,_,_,_,_,_,_,_,_,_,_,_,_,_,_,_,_,_,_,_,_,_,_,_,_,_,_,_,_,_,_,_,_,_,_] _
    refine Qaa ?_
    obtain rfl:=QsJ H
    subst Hx2_
    have H:=QsJ Hr2_
    subst H
    subst Hx1_
    have H:=QsJ Hr1_
    subst H
    refine QaK Try.func77 (v:=bool false) (res1 rfl rfl) ?_
    have hs:=hs.pull 9 rfl
    have hs:=hs.pull 8 rfl
    have hs:=hs.pull 8 rfl
    have hs:=hs.pull 8 rfl
    have hs:=hs.pull 8 rfl
    have hs:=hs.pull 8 rfl
    have hs:=hs.pull 8 rfl
    have hs:=hs.pull 8 rfl
    have hs:=hs.pull 8 rfl
    have hs:St _ [_,_,_,_,_,_,_,_,_] _:=St.take (Γ':=[_]) hs
    exact ⟨_,rfl,rfl,hs⟩
  intro hb
  rw [if_neg (b_dec_f hb)] at H
  refine Qaa (Qag (Qax rfl ?_))
  obtain rfl:=QsJ H
  subst Hx2_
  have hs:=hs.pull 9 rfl
  have hs:=hs.pull 9 rfl
  have hs:=hs.pull 7 rfl
  have hs:=hs.pull 7 rfl
  have hs:=hs.pull 7 rfl
  have hs:=hs.pull 6 rfl
  have hs:=hs.pull 7 rfl
  have hs:=hs.pull 8 rfl
  have hs:=hs.pull 9 rfl
  have hs:=hs.pull 9 rfl
  have hs:St _ [_,_,_,_,_,_,_,_,_,_] _:=St.take (Γ':=[]) hs
  refine QbG rfl ?_
  exact ha2_ _ _ ⟨x51,x52,x53,x54,x55,x56,Hr2_,rfl,hs⟩
 intro hb
 rw [if_neg (b_dec_f hb)] at H
 refine Qaa (Qag (Qax rfl ?_))
 obtain rfl:=QsJ H
 subst Hx1_
 have hs:=hs.pull 9 rfl
 have hs:=hs.pull 8 rfl
 have hs:=hs.pull 8 rfl
 have hs:=hs.pull 8 rfl
 have hs:=hs.pull 8 rfl
 have hs:=hs.pull 8 rfl
 have hs:=hs.pull 8 rfl
 have hs:=hs.pull 8 rfl
 have hs:=hs.pull 8 rfl
 have hs:St _ [_,_,_,_,_,_,_,_,_] _:=St.take (Γ':=[_]) hs
 refine QbG rfl ?_
 exact ha1_ _ _ ⟨x42,x43,x44,x45,x46,Hr1_,rfl,hs⟩
def QaV.post (wb:World) (Z:As) (b3:Nat) (b7:Nat) (b6:Nat) (b7:Nat) (b11:Nat) (b14:Nat) (b17:Nat) (b19:Nat) (b21:Nat) (r:(Bool×Qac×(List (Qad×Bool))×(List (Qad×Bool))×Qac×Int×Bool×Unit×Unit)) (v:Value) (w:World):Prop:=v=bool r.1∧St wb [Cells b3 (Qaf r.2.1) 71,MapAs b7 QaE bool r.2.2.1,Cells b6 ([Value.map (some b7)]) 67,Cells b11 (Qaf r.2.2.2.2.1) 71,Cells b14 ((encI .i64) r.2.2.2.2.2.1) 2,Cells b17 (encB r.2.2.2.2.2.2.1) 4,Cells b19 ([Value.func (Fn.func 61) #[] #[pointer (some ⟨b6,0,none⟩),pointer (some ⟨b11,0,none⟩),pointer (some ⟨b14,0,none⟩),pointer (some ⟨b17,0,none⟩)]]) 113,Cells b21 ([Value.func (Fn.func 77) #[] #[pointer (some ⟨b3,0,none⟩),pointer (some ⟨b19,0,none⟩),pointer (some ⟨b21,0,none⟩)]]) 131,Z] w
theorem QaV.calls {N:Nat} {self:(List (Qad×Bool))→Qac→Int→Option (Bool×(List (Qad×Bool)))} (ih:∀ (a1:(List (Qad×Bool))) (a4:Qac) (a5:Int) (b2:Nat) (wb:World) (Z:As) (w0:World) (r:(Bool×(List (Qad×Bool)))) (hs:St wb [MapAs b2 QaE bool a1,Z] w0),self a1 a4 a5=some r→Calls Try.prog 32 #[Value.map (some b2),agg (Qaf a4).toArray,int .i64 a5] w0 fun e w=>∃ v,e= .returned v∧QaH.post wb Z b2 r v w) {a1:Qas} {a2:Qac} {a5:(List (Qad×Bool))} {a10:Qac} {a13:Int} {a16:Bool} {b3:Nat} {b6:Nat} {b7:Nat} {b11:Nat} {b14:Nat} {b17:Nat} {b19:Nat} {b21:Nat} {wb:World} {Z:As} {w0:World} {r:(Bool×Qac×(List (Qad×Bool))×(List (Qad×Bool))×Qac×Int×Bool×Unit×Unit)} (hs:St wb [Cells b3 (Qaf a2) 71,MapAs b7 QaE bool a5,Cells b6 ([Value.map (some b7)]) 67,Cells b11 (Qaf a10) 71,Cells b14 ((encI .i64) a13) 2,Cells b17 (encB a16) 4,Cells b19 ([Value.func (Fn.func 61) #[] #[pointer (some ⟨b6,0,none⟩),pointer (some ⟨b11,0,none⟩),pointer (some ⟨b14,0,none⟩),pointer (some ⟨b17,0,none⟩)]]) 113,Cells b21 ([Value.func (Fn.func 77) #[] #[pointer (some ⟨b3,0,none⟩),pointer (some ⟨b19,0,none⟩),pointer (some ⟨b21,0,none⟩)]]) 131,Z] w0) (H:QaV.f N self a1 a2 a5 a10 a13 a16=some r):
 Calls Try.prog 77 #[int .i64 0,agg (QaA a1).toArray,pointer (some ⟨b3,0,none⟩),pointer (some ⟨b19,0,none⟩),pointer (some ⟨b21,0,none⟩)] w0 fun e w=>∃ v,e= .returned v∧QaV.post wb Z b3 b7 b6 b7 b11 b14 b17 b19 b21 r v w:=by
 unfold QaV.f at H
 refine calls_of_g (n:=45) Try.func77 rfl rfl ?_
 show G _ _ _ _ [_,_,_,_,_,_,_,_,_,_,_,_,_,_,_,_,_,_,_,_,_,_,_,_,_,_,_,_,_,_,_,_,_,_,_,_,_,_,_,_,_,_,_,_,_,_,_,_,_,_] _
 refine Qag (Qan [0,1] rfl ?_)
 refine Qbw hs rfl rfl (cs:=(QaA a1)) rfl rfl ?_
 intro b23 w hs
 refine Qab (v:=bool false) rfl rfl rfl (Qaa (Qag (Qag (Qan [0,1] rfl ?_))))
 refine Qab (v:=int .i64 0) rfl rfl rfl ?_
 refine Qab (v:=bool false) rfl rfl rfl ?_
 show G _ _ _ _ [_,_,_,_,_,_,_,_,_,_,_,_,_,_,_,_,_,_,_,_,_,_,_,_,_,_,_,_,_,_,_,_,_,_,_,_,_,_,_,_,_,_,_,_,_,_,_,_,_,_] _
 refine Qaa (Qax rfl (QaS (Qag (Qag (Qan [0,1,2,3,4,5] rfl ?_)))))
 refine Qab (v:=int .i64 0) rfl rfl rfl ?_
 refine Qab (v:=pointer (some ⟨b3,0,none⟩)) rfl rfl rfl ?_
 obtain ⟨g1,H⟩:=ite_get H
 refine Qa1 (n:=0) (m:=1) rfl (fun _=>rfl) g1.1 g1.2 rfl rfl rfl rfl rfl ?_
 refine Qaz rfl rfl (v:=int .i64 (a2.Qav.get 0 0)) rfl rfl (fun _=>rfl) (cells_load (hs.cells 1 rfl) _ _ (part_get (i:=0) (fkI .i64).len a2.Qav 0 g1.1 g1.2 [] (encB a2.QaU) (by simp [Qaf,encI,encB,encS]) (by first|rfl|simp [encAI_len,encAB_len,encA_len]))) ?_
 refine Qab (v:=int .i64 (i64w ((a2.Qav.get 0 0)+1))) rfl rfl rfl ?_
 show G _ _ _ _ [_,_,_,_,_,_,_,_,_,_,_,_,_,_,_,_,_,_,_,_,_,_,_,_,_,_,_,_,_,_,_,_,_,_,_,_,_,_,_,_,_,_,_,_,_,_,_,_,_,_] _
 refine Qab (v:=int .i64 0) rfl rfl rfl (Qaa ?_)
 obtain ⟨o1_,Ho,Hr1_⟩:=bind_get H
 refine Qa2 (J:=fun t w=>∃ x65:Qac,∃ x66:(List (Qad×Bool)),∃ x67:Qac,∃ x68:Int,∃ x69:Bool,QaV.a0 N self x65 x66 x67 x68 x69=some r∧Fr t (fun O=>([O 0,O 1,O 2,O 3,O 4,O 5,O 6,O 7,O 8,O 9,O 10,O 11,O 12,O 13,O 14,O 15,O 16,O 17,O 18,O 19,O 20,O 21,O 22,O 23,O 24,O 25,O 26,O 27,O 28,O 29,O 30,O 31,O 32,O 33,O 34,O 35,O 36,O 37,O 38,O 39,O 40,O 41,O 42,O 43,O 44,O 45,O 46,O 47,O 48,O 49]:List Value))∧St wb [Cells b3 (Qaf x65) 71,MapAs b7 QaE bool x66,Cells b6 ([Value.map (some b7)]) 67,Cells b11 (Qaf x67) 71,Cells b14 ((encI .i64) x68) 2,Cells b17 (encB x69) 4,Cells b19 ([Value.func (Fn.func 61) #[] #[pointer (some ⟨b6,0,none⟩),pointer (some ⟨b11,0,none⟩),pointer (some ⟨b14,0,none⟩),pointer (some ⟨b17,0,none⟩)]]) 113,Cells b21 ([Value.func (Fn.func 77) #[] #[pointer (some ⟨b3,0,none⟩),pointer (some ⟨b19,0,none⟩),pointer (some ⟨b21,0,none⟩)]]) 131,Z] w) ?_ ?_
 ·
  rintro t w ⟨x65,x66,x67,x68,x69,H,hf,hs⟩
  obtain ⟨O,rfl⟩:=hf.open
  show G _ _ _ _ [_,_,_,_,_,_,_,_,_,_,_,_,_,_,_,_,_,_,_,_,_,_,_,_,_,_,_,_,_,_,_,_,_,_,_,_,_,_,_,_,_,_,_,_,_,_,_,_,_,_] _
  unfold QaV.a0 at H
  refine Qag (Qan [0] rfl ?_)
  refine Qab (v:=bool true) rfl rfl rfl ?_
  show G _ _ _ _ [_,_,_,_,_,_,_,_,_,_,_,_,_,_,_,_,_,_,_,_,_,_,_,_,_,_,_,_,_,_,_,_,_,_,_,_,_,_,_,_,_,_,_,_,_,_,_,_,_,_] _
  refine Qaa ?_
  obtain rfl:=QsJ H
  refine QaK Try.func77 (v:=bool true) (res1 rfl rfl) ?_
  have hs:=hs.pull 8 rfl
  have hs:=hs.pull 8 rfl
  have hs:=hs.pull 8 rfl
  have hs:=hs.pull 8 rfl
  have hs:=hs.pull 8 rfl
  have hs:=hs.pull 8 rfl
  have hs:=hs.pull 8 rfl
  have hs:=hs.pull 8 rfl
  have hs:=hs.pull 8 rfl
  have hs:St _ [_,_,_,_,_,_,_,_,_] _:=St.take (Γ':=[]) hs
  exact ⟨_,rfl,rfl,hs⟩
 intro ha1_
 have hs:=hs.pull 9 rfl
 have hs:=hs.pull 1 rfl
 have hs:=hs.pull 9 rfl
 have hs:=hs.pull 9 rfl
 have hs:=hs.pull 9 rfl
 have hs:=hs.pull 9 rfl
 have hs:=hs.pull 9 rfl
 have hs:=hs.pull 9 rfl
 have hs:=hs.pull 9 rfl
 have hs:=hs.pull 9 rfl
 have hs:St _ [_,_,_,_,_,_,_,_,_,_] _:=St.take (Γ':=[]) hs
 refine Qbk (I:=fun n_ t w=>∃ x42:Qac,∃ x43:(List (Qad×Bool)),∃ x44:Qac,∃ x45:Int,∃ x46:Bool,∃ x47:Qas,∃ x48:Int,rounds (fun s=>QaV.b0 N self a2 s.1 s.2.1 s.2.2.1 s.2.2.2.1 s.2.2.2.2.1 s.2.2.2.2.2.1 s.2.2.2.2.2.2) n_ (x42,x43,x44,x45,x46,x47,x48)=some o1_∧Fr t (fun O=>([int .i64 0,O 1,pointer (some ⟨b3,0,none⟩),O 3,pointer (some ⟨b21,0,none⟩),O 5,pointer (some ⟨b23,0,none⟩),O 7,O 8,O 9,O 10,O 11,O 12,O 13,O 14,O 15,O 16,O 17,O 18,O 19,int .i64 (i64w ((a2.Qav.get 0 0)+1)),int .i64 x48,O 22,O 23,O 24,O 25,O 26,O 27,O 28,O 29,O 30,O 31,O 32,O 33,O 34,O 35,O 36,O 37,O 38,O 39,O 40,O 41,O 42,O 43,O 44,O 45,O 46,O 47,O 48,O 49]:List Value))∧St wb [Cells b3 (Qaf x42) 71,MapAs b7 QaE bool x43,Cells b6 ([Value.map (some b7)]) 67,Cells b11 (Qaf x44) 71,Cells b14 ((encI .i64) x45) 2,Cells b17 (encB x46) 4,Cells b19 ([Value.func (Fn.func 61) #[] #[pointer (some ⟨b6,0,none⟩),pointer (some ⟨b11,0,none⟩),pointer (some ⟨b14,0,none⟩),pointer (some ⟨b17,0,none⟩)]]) 113,Cells b21 ([Value.func (Fn.func 77) #[] #[pointer (some ⟨b3,0,none⟩),pointer (some ⟨b19,0,none⟩),pointer (some ⟨b21,0,none⟩)]]) 131,Cells b23 (QaA x47) 111,Z] w) N ⟨a2,a5,a10,a13,a16,a1,0,Ho,rfl,hs⟩ ?_ ?_
 ·
  rintro _ _ ⟨x42,x43,x44,x45,x46,x47,x48,h,_⟩
  exact rounds_zero h
 intro n_ ih1_
 rintro t w ⟨x42,x43,x44,x45,x46,x47,x48,Ho,hf,hs⟩
 obtain ⟨O,rfl⟩:=hf.open
 show G _ _ _ _ [_,_,_,_,_,_,_,_,_,_,_,_,_,_,_,_,_,_,_,_,_,_,_,_,_,_,_,_,_,_,_,_,_,_,_,_,_,_,_,_,_,_,_,_,_,_,_,_,_,_] _
 obtain ⟨x18_,H,Hx1_⟩:=rounds_succ Ho
 have H:QaV.b0 N self a2 x42 x43 x44 x45 x46 x47 x48=some x18_:=H
 unfold QaV.b0 at H
 refine Qag (Qan [0] rfl ?_)
 refine QaR (B:=decide (x48< (i64w ((a2.Qav.get 0 0)+1)))) rfl rfl rfl ?_ ?_
 ·
  intro hb
  rw [if_pos (b_dec_t hb)] at H
  refine Qaa (Qag (Qaw rfl (QaS (Qag ?_))))
  refine QbP (Qag (Qan [0,1] rfl ?_))
  refine Qab (v:=int .i64 x48) rfl rfl rfl ?_
  refine Qab (v:=int .i64 x48) rfl rfl rfl ?_
  show G _ _ _ _ [_,_,_,_,_,_,_,_,_,_,_,_,_,_,_,_,_,_,_,_,_,_,_,_,_,_,_,_,_,_,_,_,_,_,_,_,_,_,_,_,_,_,_,_,_,_,_,_,_,_] _
  refine Qaa (Qag (Qan [0,1,2,3,4,5,6,7] rfl ?_))
  refine Qab (v:=int .i64 0) rfl rfl rfl ?_
  refine Qab (v:=pointer (some ⟨b3,0,none⟩)) rfl rfl rfl ?_
  obtain ⟨g10,H⟩:=ite_get H
  refine Qa1 (n:=0) (m:=1) rfl (fun _=>rfl) g10.1 g10.2 rfl rfl rfl rfl rfl ?_
  refine Qaz rfl rfl (v:=int .i64 (x42.Qav.get 0 0)) rfl rfl (fun _=>rfl) (cells_load (hs.cells 0 rfl) _ _ (part_get (i:=0) (fkI .i64).len x42.Qav 0 g10.1 g10.2 [] (encB x42.QaU) (by simp [Qaf,encI,encB,encS]) (by first|rfl|simp [encAI_len,encAB_len,encA_len]))) ?_
  refine Qab (v:=int .i64 x48) rfl rfl rfl ?_
  refine Qab (v:=int .i64 (i64w ((x42.Qav.get 0 0) - x48))) rfl rfl rfl ?_
  show G _ _ _ _ [_,_,_,_,_,_,_,_,_,_,_,_,_,_,_,_,_,_,_,_,_,_,_,_,_,_,_,_,_,_,_,_,_,_,_,_,_,_,_,_,_,_,_,_,_,_,_,_,_,_] _
  refine Qab (v:=int .i64 (i64w ((i64w ((x42.Qav.get 0 0) - x48))+1))) rfl rfl rfl ?_
  refine Qab (v:=int .i64 0) rfl rfl rfl (Qaa ?_)
  obtain ⟨o2_,Ho,Hr2_⟩:=bind_get H
  refine Qa2 (J:=fun t w=>∃ x59:Qac,∃ x60:(List (Qad×Bool)),∃ x61:Qac,∃ x62:Int,∃ x63:Bool,∃ x64:Qas,QaV.a2 N self x48 x59 x60 x61 x62 x63 x64=some x18_∧Fr t (fun O=>([int .i64 0,O 1,pointer (some ⟨b3,0,none⟩),O 3,pointer (some ⟨b21,0,none⟩),O 5,pointer (some ⟨b23,0,none⟩),O 7,O 8,O 9,O 10,O 11,O 12,O 13,O 14,O 15,O 16,O 17,O 18,O 19,int .i64 (i64w ((a2.Qav.get 0 0)+1)),int .i64 x48,O 22,O 23,O 24,O 25,O 26,O 27,O 28,O 29,O 30,O 31,O 32,O 33,O 34,O 35,O 36,O 37,O 38,O 39,O 40,O 41,O 42,O 43,O 44,O 45,O 46,O 47,O 48,O 49]:List Value))∧St wb [Cells b3 (Qaf x59) 71,Cells b21 ([Value.func (Fn.func 77) #[] #[pointer (some ⟨b3,0,none⟩),pointer (some ⟨b19,0,none⟩),pointer (some ⟨b21,0,none⟩)]]) 131,Cells b19 ([Value.func (Fn.func 61) #[] #[pointer (some ⟨b6,0,none⟩),pointer (some ⟨b11,0,none⟩),pointer (some ⟨b14,0,none⟩),pointer (some ⟨b17,0,none⟩)]]) 113,Cells b6 ([Value.map (some b7)]) 67,MapAs b7 QaE bool x60,Cells b11 (Qaf x61) 71,Cells b14 ((encI .i64) x62) 2,Cells b17 (encB x63) 4,Cells b23 (QaA x64) 111,Z] w) ?_ ?_
  ·
   rintro t w ⟨x59,x60,x61,x62,x63,x64,H,hf,hs⟩
   obtain ⟨O,rfl⟩:=hf.open
   show G _ _ _ _ [_,_,_,_,_,_,_,_,_,_,_,_,_,_,_,_,_,_,_,_,_,_,_,_,_,_,_,_,_,_,_,_,_,_,_,_,_,_,_,_,_,_,_,_,_,_,_,_,_,_] _
   unfold QaV.a2 at H
   refine Qa5 (Qan [0,1] rfl ?_)
   refine Qab (v:=int .i64 (i64w (x48+1))) rfl rfl rfl ?_
   refine Qab (v:=int .i64 (i64w (x48+1))) rfl rfl rfl (Qaa ?_)
   obtain rfl:=QsJ H
   have hs:=hs.pull 9 rfl
   have hs:=hs.pull 9 rfl
   have hs:=hs.pull 3 rfl
   have hs:=hs.pull 4 rfl
   have hs:=hs.pull 9 rfl
   have hs:=hs.pull 9 rfl
   have hs:=hs.pull 9 rfl
   have hs:=hs.pull 8 rfl
   have hs:=hs.pull 9 rfl
   have hs:=hs.pull 9 rfl
   have hs:St _ [_,_,_,_,_,_,_,_,_,_] _:=St.take (Γ':=[]) hs
   exact ih1_ _ _ ⟨x59,x60,x61,x62,x63,x64,i64w (x48+1),Hx1_,rfl,hs⟩
  intro ha2_
  have hs:=hs.pull 9 rfl
  have hs:=hs.pull 9 rfl
  have hs:=hs.pull 9 rfl
  have hs:=hs.pull 9 rfl
  have hs:=hs.pull 9 rfl
  have hs:=hs.pull 9 rfl
  have hs:=hs.pull 9 rfl
  have hs:=hs.pull 9 rfl
  have hs:=hs.pull 9 rfl
  have hs:=hs.pull 9 rfl
  have hs:St _ [_,_,_,_,_,_,_,_,_,_] _:=St.take (Γ':=[]) hs
  refine Qbk (I:=fun n_ t w=>∃ x51:Qac,∃ x52:(List (Qad×Bool)),∃ x53:Qac,∃ x54:Int,∃ x55:Bool,∃ x56:Qas,∃ x57:Int,rounds (fun s=>QaV.b2 N self x42 x48 s.1 s.2.1 s.2.2.1 s.2.2.2.1 s.2.2.2.2.1 s.2.2.2.2.2.1 s.2.2.2.2.2.2) n_ (x51,x52,x53,x54,x55,x56,x57)=some o2_∧Fr t (fun O=>([int .i64 0,O 1,pointer (some ⟨b3,0,none⟩),O 3,pointer (some ⟨b21,0,none⟩),O 5,pointer (some ⟨b23,0,none⟩),O 7,int .i64 x48,O 9,O 10,O 11,O 12,O 13,O 14,O 15,O 16,O 17,O 18,O 19,int .i64 (i64w ((a2.Qav.get 0 0)+1)),int .i64 x48,O 22,O 23,O 24,O 25,O 26,O 27,O 28,O 29,int .i64 (i64w ((i64w ((x42.Qav.get 0 0) - x48))+1)),int .i64 x57,O 32,O 33,O 34,O 35,O 36,O 37,O 38,O 39,O 40,O 41,O 42,O 43,O 44,O 45,O 46,O 47,O 48,O 49]:List Value))∧St wb [Cells b3 (Qaf x51) 71,MapAs b7 QaE bool x52,Cells b6 ([Value.map (some b7)]) 67,Cells b11 (Qaf x53) 71,Cells b14 ((encI .i64) x54) 2,Cells b17 (encB x55) 4,Cells b19 ([Value.func (Fn.func 61) #[] #[pointer (some ⟨b6,0,none⟩),pointer (some ⟨b11,0,none⟩),pointer (some ⟨b14,0,none⟩),pointer (some ⟨b17,0,none⟩)]]) 113,Cells b21 ([Value.func (Fn.func 77) #[] #[pointer (some ⟨b3,0,none⟩),pointer (some ⟨b19,0,none⟩),pointer (some ⟨b21,0,none⟩)]]) 131,Cells b23 (QaA x56) 111,Z] w) N ⟨x42,x43,x44,x45,x46,x47,0,Ho,rfl,hs⟩ ?_ ?_
  ·
   rintro _ _ ⟨x51,x52,x53,x54,x55,x56,x57,h,_⟩
   exact rounds_zero h
  intro n_ ih2_
  rintro t w ⟨x51,x52,x53,x54,x55,x56,x57,Ho,hf,hs⟩
  obtain ⟨O,rfl⟩:=hf.open
  show G _ _ _ _ [_,_,_,_,_,_,_,_,_,_,_,_,_,_,_,_,_,_,_,_,_,_,_,_,_,_,_,_,_,_,_,_,_,_,_,_,_,_,_,_,_,_,_,_,_,_,_,_,_,_] _
  obtain ⟨x17_,H,Hx2_⟩:=rounds_succ Ho
  have H:QaV.b2 N self x42 x48 x51 x52 x53 x54 x55 x56 x57=some x17_:=H
  unfold QaV.b2 at H
  refine Qag (Qan [0] rfl ?_)
  refine QaR (B:=decide (x57< (i64w ((i64w ((x42.Qav.get 0 0) - x48))+1)))) rfl rfl rfl ?_ ?_
  ·
   intro hb
   rw [if_pos (b_dec_t hb)] at H
   show G _ _ _ _ [_,_,_,_,_,_,_,_,_,_,_,_,_,_,_,_,_,_,_,_,_,_,_,_,_,_,_,_,_,_,_,_,_,_,_,_,_,_,_,_,_,_,_,_,_,_,_,_,_,_] _
   refine Qaa (Qag (Qaw rfl (QaS (Qag ?_))))
   refine QbP (Qag (Qan [0,1] rfl ?_))
   refine Qab (v:=int .i64 x57) rfl rfl rfl ?_
   refine Qab (v:=int .i64 x57) rfl rfl rfl (Qaa (Qag (Qan [0,1,2,3,4,5,6,7,8,9] rfl ?_)))
   refine Qab (v:=int .i64 0) rfl rfl rfl ?_
   refine Qab (v:=int .i64 0) rfl rfl rfl ?_
   refine Qab (v:=int .i64 x48) rfl rfl rfl ?_
   refine Qab (v:=int .i64 x57) rfl rfl rfl ?_
   refine Qab (v:=pointer (some ⟨b23,0,none⟩)) rfl rfl rfl ?_
   obtain ⟨g14,H⟩:=ite_get H
   refine Qa1 (n:=0) (m:=1) rfl (fun _=>rfl) g14.1 g14.2 rfl rfl rfl rfl rfl ?_
   have hs:St _ [_,_,_,_,_,_,_,_,_,_] _:=hs.pull 8 rfl
   refine Qcq (y:=x48) (a:=x56.Qao) (fkI .i64).len (fkI .i64).one g14.1 g14.2 [] ((encA (encI .i64)) x56.Qaj) (by simp [QaA,encI,encB,encS]) (by first|rfl|simp [encAI_len,encAB_len,encA_len]) hs rfl rfl (cs':=(QaA (⟨x56.Qao.set 0 x48,x56.Qaj⟩:Qas))) (by simp [QaA,encI,encB,encS]) rfl rfl rfl (fun _=>rfl) ?_
   intro w hs
   refine Qab (v:=pointer (some ⟨b23,4,none⟩)) rfl rfl rfl ?_
   obtain ⟨g15,H⟩:=ite_get H
   refine Qa1 (n:=0) (m:=1) rfl (fun _=>rfl) g15.1 g15.2 rfl rfl rfl rfl rfl ?_
   show G _ _ _ _ [_,_,_,_,_,_,_,_,_,_,_,_,_,_,_,_,_,_,_,_,_,_,_,_,_,_,_,_,_,_,_,_,_,_,_,_,_,_,_,_,_,_,_,_,_,_,_,_,_,_] _
   refine Qcq (y:=x57) (a:=((⟨x56.Qao.set 0 x48,x56.Qaj⟩:Qas).Qaj)) (fkI .i64).len (fkI .i64).one g15.1 g15.2 ((encA (encI .i64)) ((⟨x56.Qao.set 0 x48,x56.Qaj⟩:Qas).Qao)) [] (by simp [QaA,encI,encB,encS]) (by first|rfl|simp [encAI_len,encAB_len,encA_len]) hs rfl rfl (cs':=(QaA (⟨(⟨x56.Qao.set 0 x48,x56.Qaj⟩:Qas).Qao,((⟨x56.Qao.set 0 x48,x56.Qaj⟩:Qas).Qaj).set 0 x57⟩:Qas))) (by simp [QaA,encI,encB,encS]) rfl rfl rfl (fun _=>rfl) ?_
   intro w hs
   refine Qaa (Qag (Qan [0,1,2,3,4,5] rfl ?_))
   refine Qaz rfl rfl (v:=Value.func (Fn.func 77) #[] #[pointer (some ⟨b3,0,none⟩),pointer (some ⟨b19,0,none⟩),pointer (some ⟨b21,0,none⟩)]) rfl rfl (fun _=>rfl) (cells_load (hs.cells 8 rfl) 0 1 rfl) ?_
   refine Qab (v:=int .i64 0) rfl rfl rfl ?_
   refine Qab (v:=int .i64 1) rfl rfl rfl ?_
   refine QaG rfl rfl (es:=(QaA (⟨(⟨x56.Qao.set 0 x48,x56.Qaj⟩:Qas).Qao,((⟨x56.Qao.set 0 x48,x56.Qaj⟩:Qas).Qaj).set 0 x57⟩:Qas))) rfl rfl (fun _=>rfl) (n:=8) (fun _=>rfl) (Qco.len _) (cells_all (hs.cells 0 rfl)) ?_
   show G _ _ _ _ [_,_,_,_,_,_,_,_,_,_,_,_,_,_,_,_,_,_,_,_,_,_,_,_,_,_,_,_,_,_,_,_,_,_,_,_,_,_,_,_,_,_,_,_,_,_,_,_,_,_] _
   obtain ⟨r58,Hr58,H⟩:=bind_get H
   have hs:=hs.pull 8 rfl
   have hs:=hs.pull 8 rfl
   have hs:=hs.pull 8 rfl
   have hs:=hs.pull 8 rfl
   have hs:=hs.pull 8 rfl
   have hs:=hs.pull 8 rfl
   have hs:=hs.pull 8 rfl
   have hs:St _ [_,_,_,_,_,_,_,_,_,_] _:=hs.pull 8 rfl
   have hs:=hs.pack 8
   refine QaP (args:=[int .i64 1,agg (QaA (⟨(⟨x56.Qao.set 0 x48,x56.Qaj⟩:Qas).Qao,((⟨x56.Qao.set 0 x48,x56.Qaj⟩:Qas).Qaj).set 0 x57⟩:Qas)).toArray,pointer (some ⟨b3,0,none⟩),pointer (some ⟨b19,0,none⟩),pointer (some ⟨b21,0,none⟩)]) rfl rfl (QcT rfl (callFunc_enter Try.func77 rfl rfl) rfl rfl) (QaO.calls ih (a1:=(⟨(⟨x56.Qao.set 0 x48,x56.Qaj⟩:Qas).Qao,((⟨x56.Qao.set 0 x48,x56.Qaj⟩:Qas).Qaj).set 0 x57⟩:Qas)) (a2:=x51) (a5:=x52) (a10:=x53) (a13:=x54) (a16:=x55) hs Hr58) ?_
   rintro _ w ⟨rfl,hs⟩
   have hs:=St.unpack (Γ:=[_,_,_,_,_,_,_,_]) hs
   have hs:St _ [_,_,_,_,_,_,_,_,_,_] _:=hs
   generalize hb16_:r58.1=b_ at H ⊢
   cases b_ with
   |true=>
    rw [if_pos rfl] at H
    refine Qab (v:=bool false) rfl rfl rfl (Qaa (Qax rfl (QaS ?_)))
    refine Qa5 (Qan [0,1] rfl ?_)
    refine Qab (v:=int .i64 (i64w (x57+1))) rfl rfl rfl ?_
    show G _ _ _ _ [_,_,_,_,_,_,_,_,_,_,_,_,_,_,_,_,_,_,_,_,_,_,_,_,_,_,_,_,_,_,_,_,_,_,_,_,_,_,_,_,_,_,_,_,_,_,_,_,_,_] _
    refine Qab (v:=int .i64 (i64w (x57+1))) rfl rfl rfl (Qaa ?_)
    obtain rfl:=QsJ H
    have hs:=hs.pull 9 rfl
    have hs:=hs.pull 9 rfl
    have hs:=hs.pull 9 rfl
    have hs:=hs.pull 9 rfl
    have hs:=hs.pull 9 rfl
    have hs:=hs.pull 9 rfl
    have hs:=hs.pull 9 rfl
    have hs:=hs.pull 9 rfl
    have hs:=hs.pull 9 rfl
    have hs:=hs.pull 9 rfl
    have hs:St _ [_,_,_,_,_,_,_,_,_,_] _:=St.take (Γ':=[]) hs
    exact ih2_ _ _ ⟨r58.2.1,r58.2.2.1,r58.2.2.2.2.1,r58.2.2.2.2.2.1,r58.2.2.2.2.2.2.1,(⟨(⟨x56.Qao.set 0 x48,x56.Qaj⟩:Qas).Qao,((⟨x56.Qao.set 0 x48,x56.Qaj⟩:Qas).Qaj).set 0 x57⟩:Qas),i64w (x57+1),Hx2_,rfl,hs⟩
   |false=>
    rw [if_neg Bool.false_ne_true] at H
    refine Qab (v:=bool true) rfl rfl rfl (Qaa (Qaw rfl (Qag (Qan [0] rfl ?_))))
    refine Qab (v:=bool false) rfl rfl rfl ?_
    show G _ _ _ _ [_,_,_,_,_,_,_,_,_,_,_,_,_,_,_,_,_,_,_,_,_,_,_,_,_,_,_,_,_,_,_,_,_,_,_,_,_,_,_,_,_,_,_,_,_,_,_,_,_,_] _
    refine Qaa ?_
    obtain rfl:=QsJ H
    subst Hx2_
    have H:=QsJ Hr2_
    subst H
    subst Hx1_
    have H:=QsJ Hr1_
    subst H
    refine QaK Try.func77 (v:=bool false) (res1 rfl rfl) ?_
    have hs:=hs.pull 9 rfl
    have hs:=hs.pull 8 rfl
    have hs:=hs.pull 8 rfl
    have hs:=hs.pull 8 rfl
    have hs:=hs.pull 8 rfl
    have hs:=hs.pull 8 rfl
    have hs:=hs.pull 8 rfl
    have hs:=hs.pull 8 rfl
    have hs:=hs.pull 8 rfl
    have hs:St _ [_,_,_,_,_,_,_,_,_] _:=St.take (Γ':=[_]) hs
    exact ⟨_,rfl,rfl,hs⟩
  intro hb
  rw [if_neg (b_dec_f hb)] at H
  refine Qaa (Qag (Qax rfl ?_))
  obtain rfl:=QsJ H
  subst Hx2_
  have hs:=hs.pull 9 rfl
  have hs:=hs.pull 9 rfl
  have hs:=hs.pull 7 rfl
  have hs:=hs.pull 7 rfl
  have hs:=hs.pull 7 rfl
  have hs:=hs.pull 6 rfl
  have hs:=hs.pull 7 rfl
  have hs:=hs.pull 8 rfl
  have hs:=hs.pull 9 rfl
  have hs:=hs.pull 9 rfl
  have hs:St _ [_,_,_,_,_,_,_,_,_,_] _:=St.take (Γ':=[]) hs
  refine QbG rfl ?_
  exact ha2_ _ _ ⟨x51,x52,x53,x54,x55,x56,Hr2_,rfl,hs⟩
 intro hb
 rw [if_neg (b_dec_f hb)] at H
 refine Qaa (Qag (Qax rfl ?_))
 obtain rfl:=QsJ H
 subst Hx1_
 have hs:=hs.pull 9 rfl
 have hs:=hs.pull 8 rfl
 have hs:=hs.pull 8 rfl
 have hs:=hs.pull 8 rfl
 have hs:=hs.pull 8 rfl
 have hs:=hs.pull 8 rfl
 have hs:=hs.pull 8 rfl
 have hs:=hs.pull 8 rfl
 have hs:=hs.pull 8 rfl
 have hs:St _ [_,_,_,_,_,_,_,_,_] _:=St.take (Γ':=[_]) hs
 refine QbG rfl ?_
 exact ha1_ _ _ ⟨x42,x43,x44,x45,x46,Hr1_,rfl,hs⟩
def Qbt.post (wb:World) (Z:As) (b4:Nat) (b3:Nat) (b4:Nat) (b8:Nat) (b11:Nat) (b14:Nat) (r:((List (Qad×Bool))×(List (Qad×Bool))×Qac×Int×Bool)) (v:Value) (w:World):Prop:=v=tuple #[]∧St wb [MapAs b4 QaE bool r.1,Cells b3 ([Value.map (some b4)]) 67,Cells b8 (Qaf r.2.2.1) 71,Cells b11 ((encI .i64) r.2.2.2.1) 2,Cells b14 (encB r.2.2.2.2) 4,Z] w
theorem Qbt.calls {N:Nat} {self:(List (Qad×Bool))→Qac→Int→Option (Bool×(List (Qad×Bool)))} (ih:∀ (a1:(List (Qad×Bool))) (a4:Qac) (a5:Int) (b2:Nat) (wb:World) (Z:As) (w0:World) (r:(Bool×(List (Qad×Bool)))) (hs:St wb [MapAs b2 QaE bool a1,Z] w0),self a1 a4 a5=some r→Calls Try.prog 32 #[Value.map (some b2),agg (Qaf a4).toArray,int .i64 a5] w0 fun e w=>∃ v,e= .returned v∧QaH.post wb Z b2 r v w) {a1:Qac} {a2:(List (Qad×Bool))} {a7:Qac} {a10:Int} {a13:Bool} {b3:Nat} {b4:Nat} {b8:Nat} {b11:Nat} {b14:Nat} {wb:World} {Z:As} {w0:World} {r:((List (Qad×Bool))×(List (Qad×Bool))×Qac×Int×Bool)} (hs:St wb [MapAs b4 QaE bool a2,Cells b3 ([Value.map (some b4)]) 67,Cells b8 (Qaf a7) 71,Cells b11 ((encI .i64) a10) 2,Cells b14 (encB a13) 4,Z] w0) (H:Qbt.f N self a1 a2 a7 a10 a13=some r):
 Calls Try.prog 60 #[agg (Qaf a1).toArray,Value.func (Fn.func 61) #[] #[pointer (some ⟨b3,0,none⟩),pointer (some ⟨b8,0,none⟩),pointer (some ⟨b11,0,none⟩),pointer (some ⟨b14,0,none⟩)]] w0 fun e w=>∃ v,e= .returned v∧Qbt.post wb Z b4 b3 b4 b8 b11 b14 r v w:=by
 unfold Qbt.f at H
 refine calls_of_g (n:=7) Try.func60 rfl rfl ?_
 show G _ _ _ _ [_,_,_,_,_,_,_,_,_] _
 refine Qag (Qan [0,1] rfl ?_)
 refine Qbw hs rfl rfl (cs:=(Qaf a1)) rfl rfl ?_
 intro b16 w hs
 refine Qbw hs rfl rfl (cs:=[Value.func (Fn.func 61) #[] #[pointer (some ⟨b3,0,none⟩),pointer (some ⟨b8,0,none⟩),pointer (some ⟨b11,0,none⟩),pointer (some ⟨b14,0,none⟩)]]) rfl rfl ?_
 intro b18 w hs
 refine Qaa (Qag (Qan [0] rfl ?_))
 refine QbH hs rfl rfl (z:=(Value.nilFunc)) (cs:=[Value.nilFunc]) rfl (fun _=>rfl) rfl ?_
 intro b20 w hs
 show G _ _ _ _ [_,_,_,_,_,_,_,_,_] _
 refine Qaa (Qag (Qan [0,1] rfl ?_))
 refine Qab (v:=Value.func (Fn.func 77) #[] #[pointer (some ⟨b16,0,none⟩),pointer (some ⟨b18,0,none⟩),pointer (some ⟨b20,0,none⟩)]) rfl rfl (Qc1 rfl rfl) ?_
 refine Qa9 (n:=1) hs rfl rfl rfl (vs:=[Value.func (Fn.func 77) #[] #[pointer (some ⟨b16,0,none⟩),pointer (some ⟨b18,0,none⟩),pointer (some ⟨b20,0,none⟩)]]) rfl rfl rfl (fun _=>rfl) rfl (by simp [Value.oneCell']) ?_
 intro w hs
 refine Qaa (Qan [0,1,2] rfl ?_)
 refine Qaz rfl rfl (v:=Value.func (Fn.func 77) #[] #[pointer (some ⟨b16,0,none⟩),pointer (some ⟨b18,0,none⟩),pointer (some ⟨b20,0,none⟩)]) rfl rfl (fun _=>rfl) (cells_load (hs.cells 0 rfl) 0 1 rfl) ?_
 show G _ _ _ _ [_,_,_,_,_,_,_,_,_] _
 refine Qab (v:=agg (QaA (⟨(Ar.rep 4 0),(Ar.rep 4 0)⟩:Qas)).toArray) rfl rfl (Qcn (cs:=(QaA (⟨(Ar.rep 4 0),(Ar.rep 4 0)⟩:Qas))) (segs:=[[int .i64 0,int .i64 0,int .i64 0,int .i64 0],[int .i64 0,int .i64 0,int .i64 0,int .i64 0]]) rfl rfl (fun _=>rfl) ⟨rfl,(fun _=>rfl),rfl,(fun _=>rfl),trivial⟩ (by simp) (by first|rfl|(simp [ev,QaA];done)|(simp [ev,QaA];rfl))) ?_
 show G _ _ _ _ [_,_,_,_,_,_,_,_,_] _
 obtain ⟨r22,Hr22,H⟩:=bind_get H
 have hs:=hs.pull 0 rfl
 have hs:=hs.pull 1 rfl
 have hs:=hs.pull 7 rfl
 have hs:=hs.pull 7 rfl
 have hs:=hs.pull 7 rfl
 have hs:=hs.pull 7 rfl
 have hs:=hs.pull 7 rfl
 have hs:St _ [_,_,_,_,_,_,_,_,_] _:=hs.pull 7 rfl
 have hs:=hs.pack 8
 refine QaP (args:=[int .i64 0,agg (QaA (⟨(Ar.rep 4 0),(Ar.rep 4 0)⟩:Qas)).toArray,pointer (some ⟨b16,0,none⟩),pointer (some ⟨b18,0,none⟩),pointer (some ⟨b20,0,none⟩)]) rfl rfl (QcT rfl (callFunc_enter Try.func77 rfl rfl) rfl rfl) (QaV.calls ih (a1:=(⟨(Ar.rep 4 0),(Ar.rep 4 0)⟩:Qas)) (a2:=a1) (a5:=a2) (a10:=a7) (a13:=a10) (a16:=a13) hs Hr22) ?_
 rintro _ w ⟨rfl,hs⟩
 have hs:=St.unpack (Γ:=[_,_,_,_,_,_,_,_]) hs
 have hs:St _ [_,_,_,_,_,_,_,_,_] _:=hs
 refine Qaa ?_
 obtain rfl:=QsJ H
 refine QdO Try.func60 (v:=tuple #[]) (resN (l:=Try.f60.results.toList) (vs:=[]) rfl trivial (by simp)) ?_
 have hs:=hs.pull 8 rfl
 have hs:=hs.pull 6 rfl
 have hs:=hs.pull 6 rfl
 have hs:=hs.pull 6 rfl
 have hs:=hs.pull 6 rfl
 have hs:=hs.pull 6 rfl
 have hs:St _ [_,_,_,_,_,_] _:=St.take (Γ':=[_,_,_]) hs
 exact ⟨_,rfl,rfl,hs⟩
end Go.Proofs.YtgpdpedpmhonkaaX
