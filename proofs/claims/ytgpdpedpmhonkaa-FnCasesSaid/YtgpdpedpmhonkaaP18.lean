import Derived.Test.YtgpdpedpmhonkaaProg
import Derived.Test.YtgpdpedpmhonkaaP3
import Derived.Test.YtgpdpedpmhonkaaP4
import Derived.Test.YtgpdpedpmhonkaaP6
import Derived.Test.YtgpdpedpmhonkaaP11
import Derived.Test.YtgpdpedpmhonkaaP13
import Derived.Test.YtgpdpedpmhonkaaP15
import Derived.Test.YtgpdpedpmhonkaaP16
import Derived.Test.YtgpdpedpmhonkaaP17
import Derived.Test.YtgpdpedpmhonkaaP10
namespace Go.Proofs.YtgpdpedpmhonkaaX
open Go Go.RowKit Go.Proofs
open Go.Value (int pointer bool agg slice string tuple)
set_option maxHeartbeats 8000000
set_option maxRecDepth 100000
set_option linter.unusedVariables false
set_option linter.unusedSimpArgs false
theorem QaN.step {N:Nat} {self:Qap→Qar→Int→Option (Bool×(List Int)×Qap)} (ih:∀ (a1:Qap) (a6:Qar) (a7:Int) (b2:Nat) (v3:Value) (wb:World) (Z:As) (w0:World) (r:(Bool×(List Int)×Qap)) (hs:St wb [Row 22 (K.int .i8) v3 a1.QbY,Cells b2 (([int .i64 a1.Qbu,v3]:List Value)) 99,Z] w0),self a1 a6 a7=some r→Calls Try.prog 30 #[pointer (some ⟨b2,0,none⟩),agg (Qam a6).toArray,int .i64 a7] w0 fun e w=>∃ v,e= .returned v∧QaN.post wb Z v3 b2 v3 r v w) (a1:Qap) (a6:Qar) (a7:Int) (b2:Nat) (v3:Value) (wb:World) (Z:As) (w0:World) (r:(Bool×(List Int)×Qap)) (hs:St wb [Row 22 (K.int .i8) v3 a1.QbY,Cells b2 (([int .i64 a1.Qbu,v3]:List Value)) 99,Z] w0) (H:QaN.body N self a1 a6 a7=some r):
 Calls Try.prog 30 #[pointer (some ⟨b2,0,none⟩),agg (Qam a6).toArray,int .i64 a7] w0 fun e w=>∃ v,e= .returned v∧QaN.post wb Z v3 b2 v3 r v w:=by
 unfold QaN.body at H
 refine calls_of_g (n:=72) Try.func30 rfl rfl ?_
 show G _ _ _ _ (_::_::_::_::_::_::_::_::_::_::_::_::_::_::_::_::_::_::_::_::_::_::_::_::_::_::_::_::_::_::_::_::_::_::_::_::_::_::_::_::_::_::_::_::_::_::_::_::_::_::_::_::_::_::_::_::_::_::_::_::_::_::_::_::_::_::_::_::_::_::_::_::_::_::_::[]) _
 refine Qag (Qan [0,1] rfl ?_)
 refine Qbw hs rfl rfl (cs:=(Qam a6)) rfl rfl ?_
 intro b8 w hs
 refine g_d rfl ?_
 refine Qab (v:=bool false) rfl rfl rfl (g_d rfl ?_)
 try dsimp only [set0,setS]
 refine Qaa (Qag (Qag (Qan [0,1,2] rfl ?_)))
 refine QaG rfl rfl (es:=(Qam a6)) rfl rfl (fun _=>rfl) (n:=4) (fun _=>rfl) (Qa4.len _) (cells_all (hs.cells 0 rfl)) (g_d rfl ?_)
 obtain ⟨r10,Hr10,H⟩:=bind_get H
 refine QaP (args:=[agg (Qam a6).toArray]) rfl rfl (QaT rfl (callFunc_enter Try.func56 rfl rfl) rfl) (QbZ.calls (a1:=a6) Hr10) ?_
 rintro _ w ⟨rfl,hs2⟩
 have hs:St _ [_,_,_,_] _:=hs.call hs2
 refine g_d rfl ?_
 try dsimp only [set0,setS]
 refine QaR (B:=decide (r10≤1)) rfl rfl rfl ?_ ?_
 ·
  intro hb
  rw [if_pos (b_dec_t hb)] at H
  refine g_d rfl ?_
  try dsimp only [set0,setS]
  refine Qaa (Qaw rfl (Qag (Qan [0] rfl ?_)))
  refine Qab (v:=bool true) rfl rfl rfl (g_d rfl (Qaa ?_))
  obtain rfl:=QsJ H
  refine QaK Try.func30 (v:=bool true) (res1 rfl rfl) ?_
  have hs:=hs.pull 3 rfl
  have hs:=hs.pull 3 rfl
  have hs:=hs.pull 3 rfl
  have hs:St _ [_,_,_] _:=St.take (Γ':=[_]) hs
  exact ⟨_,rfl,rfl,hs⟩
 intro hb
 rw [if_neg (b_dec_f hb)] at H
 refine g_d rfl (Qaa (Qax rfl (QaS (Qag (Qag (Qan [0,1,2,3,4,5,6,7,8] rfl ?_))))))
 refine Qab (v:=int .i64 a7) rfl rfl rfl (g_d rfl ?_)
 refine QaR (B:=decide (a7≤0)) rfl rfl rfl ?_ ?_
 ·
  intro hb
  rw [if_pos (b_dec_t hb)] at H
  refine g_d rfl ?_
  refine Qab (v:=bool true) rfl rfl rfl (g_d rfl (Qal rfl rfl (g_d rfl ?_)))
  try dsimp only [set0,setS]
  refine Qal rfl rfl (g_d rfl (Qal rfl rfl (g_d rfl (Qal rfl rfl (g_d rfl ?_)))))
  try dsimp only [set0,setS]
  refine Qal rfl rfl (g_d rfl ?_)
  refine Qab (v:=bool true) rfl rfl rfl (g_d rfl ?_)
  try dsimp only [set0,setS]
  refine Qaa (Qaw rfl (Qag (Qan [0] rfl ?_)))
  refine Qab (v:=bool false) rfl rfl rfl (g_d rfl (Qaa ?_))
  obtain rfl:=QsJ H
  refine QaK Try.func30 (v:=bool false) (res1 rfl rfl) ?_
  have hs:=hs.pull 3 rfl
  have hs:=hs.pull 3 rfl
  have hs:=hs.pull 3 rfl
  have hs:St _ [_,_,_] _:=St.take (Γ':=[_]) hs
  exact ⟨_,rfl,rfl,hs⟩
 intro hb
 rw [if_neg (b_dec_f hb)] at H
 refine g_d rfl ?_
 try dsimp only [set0,setS]
 refine Qab (v:=bool false) rfl rfl rfl (g_d rfl ?_)
 refine QaG rfl rfl (es:=(Qam a6)) rfl rfl (fun _=>rfl) (n:=4) (fun _=>rfl) (Qa4.len _) (cells_all (hs.cells 0 rfl)) (g_d rfl ?_)
 obtain ⟨r11,Hr11,H⟩:=bind_get H
 refine QaP (args:=[agg (Qam a6).toArray]) rfl rfl (QaT rfl (callFunc_enter Try.func56 rfl rfl) rfl) (QbZ.calls (a1:=a6) Hr11) ?_
 rintro _ w ⟨rfl,hs2⟩
 have hs:St _ [_,_,_,_] _:=hs.call hs2
 refine g_d rfl ?_
 try dsimp only [set0,setS]
 refine Qab (v:=int .i64 a7) rfl rfl rfl (g_d rfl ?_)
 obtain ⟨r12,Hr12,H⟩:=bind_get H
 refine QaP (args:=[int .i64 a7]) rfl rfl (QaT rfl (callFunc_enter Try.func57 rfl rfl) rfl) (QbF.calls (a1:=a7) Hr12) ?_
 rintro _ w ⟨rfl,hs2⟩
 have hs:St _ [_,_,_,_] _:=hs.call hs2
 refine g_d rfl ?_
 refine QaR (B:=decide (r11>r12)) rfl rfl rfl ?_ ?_
 ·
  intro hb
  rw [if_pos (b_dec_t hb)] at H
  refine g_d rfl ?_
  try dsimp only [set0,setS]
  refine Qab (v:=bool true) rfl rfl rfl (g_d rfl (Qaa (Qaw rfl (Qag (Qan [0] rfl ?_)))))
  refine Qab (v:=bool false) rfl rfl rfl (g_d rfl ?_)
  try dsimp only [set0,setS]
  refine Qaa ?_
  obtain rfl:=QsJ H
  refine QaK Try.func30 (v:=bool false) (res1 rfl rfl) ?_
  have hs:=hs.pull 3 rfl
  have hs:=hs.pull 3 rfl
  have hs:=hs.pull 3 rfl
  have hs:St _ [_,_,_] _:=St.take (Γ':=[_]) hs
  exact ⟨_,rfl,rfl,hs⟩
 intro hb
 rw [if_neg (b_dec_f hb)] at H
 refine g_d rfl ?_
 try dsimp only [set0,setS]
 refine Qab (v:=bool false) rfl rfl rfl (g_d rfl (Qaa (Qax rfl (QaS (Qag (Qan [0,1,2,3,4,5,6,7,8,9,10,11,12,13,14,15,16,17] rfl ?_))))))
 refine Qab (v:=pointer (some ⟨b8,0,none⟩)) rfl rfl rfl (g_d rfl ?_)
 refine Qaz rfl rfl (v:=int .i64 a6.Qa3) rfl rfl (fun _=>rfl) (cells_load (hs.cells 0 rfl) 0 1 rfl) (g_d rfl ?_)
 try dsimp only [set0,setS]
 refine Qab (v:=int .i64 (i64w (a6.Qa3*14))) rfl rfl rfl (g_d rfl ?_)
 refine Qab (v:=pointer (some ⟨b8,1,none⟩)) rfl rfl rfl (g_d rfl ?_)
 refine Qaz rfl rfl (v:=int .i64 a6.QaY) rfl rfl (fun _=>rfl) (cells_load (hs.cells 0 rfl) 1 1 rfl) (g_d rfl ?_)
 try dsimp only [set0,setS]
 refine Qab (v:=int .i64 (i64w ((i64w (a6.Qa3*14))+a6.QaY))) rfl rfl rfl (g_d rfl ?_)
 refine Qab (v:=int .i64 (i64w ((i64w ((i64w (a6.Qa3*14))+a6.QaY))*14))) rfl rfl rfl (g_d rfl ?_)
 try dsimp only [set0,setS]
 refine Qab (v:=pointer (some ⟨b8,2,none⟩)) rfl rfl rfl (g_d rfl ?_)
 refine Qaz rfl rfl (v:=int .i64 a6.QaZ) rfl rfl (fun _=>rfl) (cells_load (hs.cells 0 rfl) 2 1 rfl) (g_d rfl ?_)
 refine Qab (v:=int .i64 (i64w ((i64w ((i64w ((i64w (a6.Qa3*14))+a6.QaY))*14))+a6.QaZ))) rfl rfl rfl (g_d rfl ?_)
 try dsimp only [set0,setS]
 refine Qab (v:=int .i64 (i64w ((i64w ((i64w ((i64w ((i64w (a6.Qa3*14))+a6.QaY))*14))+a6.QaZ))*2))) rfl rfl rfl (g_d rfl ?_)
 refine Qab (v:=pointer (some ⟨b8,3,none⟩)) rfl rfl rfl (g_d rfl ?_)
 refine Qaz rfl rfl (v:=int .i64 a6.QaU) rfl rfl (fun _=>rfl) (cells_load (hs.cells 0 rfl) 3 1 rfl) (g_d rfl ?_)
 try dsimp only [set0,setS]
 refine Qab (v:=int .i64 (i64w ((i64w ((i64w ((i64w ((i64w ((i64w (a6.Qa3*14))+a6.QaY))*14))+a6.QaZ))*2))+a6.QaU))) rfl rfl rfl (g_d rfl ?_)
 refine Qab (v:=int .i64 (i64w ((i64w ((i64w ((i64w ((i64w ((i64w ((i64w (a6.Qa3*14))+a6.QaY))*14))+a6.QaZ))*2))+a6.QaU))*6))) rfl rfl rfl (g_d rfl ?_)
 try dsimp only [set0,setS]
 refine Qab (v:=int .i64 a7) rfl rfl rfl (g_d rfl ?_)
 refine Qab (v:=int .i64 (i64w ((i64w ((i64w ((i64w ((i64w ((i64w ((i64w ((i64w (a6.Qa3*14))+a6.QaY))*14))+a6.QaZ))*2))+a6.QaU))*6))+a7))) rfl rfl rfl (g_d rfl ?_)
 refine Qab (v:=int .i64 (i64w ((i64w ((i64w ((i64w ((i64w ((i64w ((i64w ((i64w (a6.Qa3*14))+a6.QaY))*14))+a6.QaZ))*2))+a6.QaU))*6))+a7))) rfl rfl rfl (g_d rfl ?_)
 try dsimp only [set0,setS]
 refine Qaa (Qag (Qag ?_))
 refine QcB (J:=(fun t w=>∃ x19:Int,∃ x20:(List Int),QaN.j0 N self a6 a7 x19 x20=some r∧Fr t (fun O=>(pointer (some ⟨b2,0,none⟩)::O 1::O 2::O 3::O 4::O 5::O 6::int .i64 (i64w ((i64w ((i64w ((i64w ((i64w ((i64w ((i64w ((i64w (a6.Qa3*14))+a6.QaY))*14))+a6.QaZ))*2))+a6.QaU))*6))+a7))::O 8::O 9::oT O 1 (oT O 2 (oT O 3 (oT O 4 (oT O 5 (oT O 6 (O 70::O 71::O 72::O 73::O 74::[])))))):List Value))∧St wb [Cells b2 (([int .i64 x19,v3]:List Value)) 99,Row 22 (K.int .i8) v3 x20,Z] w)) ?_ ?_
 ·
  rintro t w ⟨x19,x20,H,hf,hs⟩
  obtain ⟨O,rfl⟩:=hf.open
  try dsimp only [oT]
  unfold QaN.j0 at H
  refine Qag (Qan [0,1,2,3,4,5,6,7,8] rfl ?_)
  refine Qab (v:=pointer (some ⟨b2,0,none⟩)) rfl rfl rfl (g_d rfl ?_)
  refine Qab (v:=pointer (some ⟨b2,0,none⟩)) rfl rfl rfl (g_d rfl ?_)
  refine Qab (v:=pointer (some ⟨b2,1,none⟩)) rfl rfl rfl (g_d rfl ?_)
  refine Qaz rfl rfl (v:=v3) rfl rfl (fun _=>rfl) (cells_load (hs.cells 0 rfl) 1 1 rfl) (g_d rfl ?_)
  try dsimp only [set0,setS]
  refine Qab (v:=int .i64 (i64w ((i64w ((i64w ((i64w ((i64w ((i64w ((i64w ((i64w (a6.Qa3*14))+a6.QaY))*14))+a6.QaZ))*2))+a6.QaU))*6))+a7))) rfl rfl rfl (g_d rfl ?_)
  obtain ⟨g4,H⟩:=ite_get H
  refine QcS (fkI .i8) 0 (hs.row 1 rfl) rfl (fun _=>rfl) g4.1 g4.2 rfl rfl rfl rfl rfl ?_
  intro p22 hp22 lp22 op22
  refine g_d rfl ?_
  refine Qaz rfl rfl (v:=int .i8 (rdL x20 (i64w ((i64w ((i64w ((i64w ((i64w ((i64w ((i64w ((i64w (a6.Qa3*14))+a6.QaY))*14))+a6.QaZ))*2))+a6.QaU))*6))+a7)) 0)) rfl rfl (fun _=>rfl) hp22 (g_d rfl ?_)
  try dsimp only [set0,setS]
  refine Qab (v:=bool ((rdL x20 (i64w ((i64w ((i64w ((i64w ((i64w ((i64w ((i64w ((i64w (a6.Qa3*14))+a6.QaY))*14))+a6.QaZ))*2))+a6.QaU))*6))+a7)) 0)==2)) rfl rfl rfl (g_d rfl ?_)
  refine Qab (v:=bool ((rdL x20 (i64w ((i64w ((i64w ((i64w ((i64w ((i64w ((i64w ((i64w (a6.Qa3*14))+a6.QaY))*14))+a6.QaZ))*2))+a6.QaU))*6))+a7)) 0)==2)) rfl rfl rfl (g_d rfl ?_)
  try dsimp only [set0,setS]
  refine Qaa ?_
  obtain rfl:=QsJ H
  refine QaK Try.func30 (v:=bool ((rdL x20 (i64w ((i64w ((i64w ((i64w ((i64w ((i64w ((i64w ((i64w (a6.Qa3*14))+a6.QaY))*14))+a6.QaZ))*2))+a6.QaU))*6))+a7)) 0)==2)) (res1 rfl rfl) ?_
  have hs:=hs.pull 2 rfl
  have hs:=hs.pull 1 rfl
  have hs:=hs.pull 2 rfl
  have hs:St _ [_,_,_] _:=St.take (Γ':=[]) hs
  exact ⟨_,rfl,rfl,hs⟩
 intro ha
 refine Qan [0,1,2,3,4,5,6,7] rfl ?_
 refine Qab (v:=pointer (some ⟨b2,0,none⟩)) rfl rfl rfl (g_d rfl ?_)
 refine Qab (v:=pointer (some ⟨b2,0,none⟩)) rfl rfl rfl (g_d rfl ?_)
 refine Qab (v:=pointer (some ⟨b2,1,none⟩)) rfl rfl rfl (g_d rfl ?_)
 refine Qaz rfl rfl (v:=v3) rfl rfl (fun _=>rfl) (cells_load (hs.cells 2 rfl) 1 1 rfl) (g_d rfl ?_)
 refine Qab (v:=int .i64 (i64w ((i64w ((i64w ((i64w ((i64w ((i64w ((i64w ((i64w (a6.Qa3*14))+a6.QaY))*14))+a6.QaZ))*2))+a6.QaU))*6))+a7))) rfl rfl rfl (g_d rfl ?_)
 obtain ⟨g1,H⟩:=ite_get H
 refine QcS (fkI .i8) 0 (hs.row 1 rfl) rfl (fun _=>rfl) g1.1 g1.2 rfl rfl rfl rfl rfl ?_
 intro p13 hp13 lp13 op13
 refine g_d rfl ?_
 try dsimp only [set0,setS]
 refine Qaz rfl rfl (v:=int .i8 (rdL a1.QbY (i64w ((i64w ((i64w ((i64w ((i64w ((i64w ((i64w ((i64w (a6.Qa3*14))+a6.QaY))*14))+a6.QaZ))*2))+a6.QaU))*6))+a7)) 0)) rfl rfl (fun _=>rfl) hp13 (g_d rfl ?_)
 refine QaR (B:=(rdL a1.QbY (i64w ((i64w ((i64w ((i64w ((i64w ((i64w ((i64w ((i64w (a6.Qa3*14))+a6.QaY))*14))+a6.QaZ))*2))+a6.QaU))*6))+a7)) 0)==0) rfl rfl rfl ?_ ?_
 ·
  intro hb
  rw [if_pos (b_beq_t hb)] at H
  refine g_d rfl (Qaa (Qaw rfl (Qag (Qan [0,1,2,3,4,5,6] rfl ?_))))
  refine Qab (v:=pointer (some ⟨b2,0,none⟩)) rfl rfl rfl (g_d rfl ?_)
  refine Qab (v:=pointer (some ⟨b2,0,none⟩)) rfl rfl rfl (g_d rfl ?_)
  refine Qab (v:=pointer (some ⟨b2,1,none⟩)) rfl rfl rfl (g_d rfl ?_)
  refine Qaz rfl rfl (v:=v3) rfl rfl (fun _=>rfl) (cells_load (hs.cells 2 rfl) 1 1 rfl) (g_d rfl ?_)
  try dsimp only [set0,setS]
  refine Qab (v:=int .i64 (i64w ((i64w ((i64w ((i64w ((i64w ((i64w ((i64w ((i64w (a6.Qa3*14))+a6.QaY))*14))+a6.QaZ))*2))+a6.QaU))*6))+a7))) rfl rfl rfl (g_d rfl ?_)
  obtain ⟨g2,H⟩:=ite_get H
  refine QcS (fkI .i8) 0 (hs.row 1 rfl) rfl (fun _=>rfl) g2.1 g2.2 rfl rfl rfl rfl rfl ?_
  intro p14 hp14 lp14 op14
  refine g_d rfl ?_
  have hs:St _ [_,_,_,_] _:=hs.pull 1 rfl
  refine Qdr (y:=1) (fkI .i8) g2.1 g2.2 op14 hs rfl rfl rfl rfl rfl (fun _=>rfl) ?_
  intro w hs
  refine g_n rfl (Qaa (Qag (Qan [0,1,2,3,4,5,6,7,8,9] rfl ?_)))
  refine Qab (v:=pointer (some ⟨b2,0,none⟩)) rfl rfl rfl (g_d rfl ?_)
  refine QaG rfl rfl (es:=(Qam a6)) rfl rfl (fun _=>rfl) (n:=4) (fun _=>rfl) (Qa4.len _) (cells_all (hs.cells 1 rfl)) (g_d rfl ?_)
  try dsimp only [set0,setS]
  refine Qab (v:=int .i64 a7) rfl rfl rfl (g_d rfl ?_)
  obtain ⟨r15,Hr15,H⟩:=bind_get H
  have hs:=hs.pull 2 rfl
  have hs:St _ [_,_,_,_] _:=hs.pull 1 rfl
  have hs:=hs.pack 2
  refine QaP (args:=[pointer (some ⟨b2,0,none⟩),agg (Qam a6).toArray,int .i64 a7]) rfl rfl (QaT rfl (callFunc_enter Try.func58 rfl rfl) rfl) (Qat.calls ih (a1:=(⟨a1.Qbu,stL a1.QbY (i64w ((i64w ((i64w ((i64w ((i64w ((i64w ((i64w ((i64w (a6.Qa3*14))+a6.QaY))*14))+a6.QaZ))*2))+a6.QaU))*6))+a7)) 1⟩:Qap)) (a6:=a6) (a7:=a7) hs Hr15) ?_
  rintro _ w ⟨rfl,hs⟩
  have hs:=St.unpack (Γ:=[_,_]) hs
  have hs:St _ [_,_,_,_] _:=hs
  refine g_d rfl ?_
  refine Qab (v:=tuple #[agg ((encA (encI .i64)) r15.1).toArray,bool r15.2.1]) rfl rfl rfl (g_d rfl ?_)
  refine Qab (v:=agg ((encA (encI .i64)) r15.1).toArray) rfl rfl rfl (g_d rfl ?_)
  refine Qab (v:=bool r15.2.1) rfl rfl rfl (g_d rfl ?_)
  refine QbH hs rfl rfl (z:=(agg #[int .i64 0,int .i64 0,int .i64 0,int .i64 0,int .i64 0,int .i64 0,int .i64 0,int .i64 0])) (cs:=((encA (encI .i64)) (Ar.rep 8 0))) rfl (fun _=>rfl) rfl ?_
  intro b16 w hs
  refine g_d rfl ?_
  try dsimp only [set0,setS]
  refine Qa9 (n:=8) hs ((fkA (n:=8) (he:=(fkI .i64).len) (h1:=(fkI .i64).one)).len _) rfl rfl (vs:=((encA (encI .i64)) r15.1)) rfl rfl rfl (fun _=>rfl) ((fkA (n:=8) (he:=(fkI .i64).len) (h1:=(fkI .i64).one)).len _) ((fkA (n:=8) (he:=(fkI .i64).len) (h1:=(fkI .i64).one)).one _) ?_
  intro w hs
  refine g_n rfl ?_
  refine Qab (v:=bool r15.2.1) rfl rfl rfl (g_d rfl (Qaa (Qag (Qan [0] rfl ?_))))
  refine QaR (B:=r15.2.1) rfl rfl rfl ?_ ?_
  ·
   intro hb
   rw [if_pos (b_var_t hb)] at H
   refine g_d rfl (Qaa (Qaw rfl (Qan [0,1,2,3,4,5,6] rfl ?_)))
   refine Qab (v:=pointer (some ⟨b2,0,none⟩)) rfl rfl rfl (g_d rfl ?_)
   refine Qab (v:=pointer (some ⟨b2,0,none⟩)) rfl rfl rfl (g_d rfl ?_)
   refine Qab (v:=pointer (some ⟨b2,1,none⟩)) rfl rfl rfl (g_d rfl ?_)
   refine Qaz rfl rfl (v:=v3) rfl rfl (fun _=>rfl) (cells_load (hs.cells 2 rfl) 1 1 rfl) (g_d rfl ?_)
   try dsimp only [set0,setS]
   refine Qab (v:=int .i64 (i64w ((i64w ((i64w ((i64w ((i64w ((i64w ((i64w ((i64w (a6.Qa3*14))+a6.QaY))*14))+a6.QaZ))*2))+a6.QaU))*6))+a7))) rfl rfl rfl (g_d rfl ?_)
   obtain ⟨g3,H⟩:=ite_get H
   refine QcS (fkI .i8) 0 (hs.row 1 rfl) rfl (fun _=>rfl) g3.1 g3.2 rfl rfl rfl rfl rfl ?_
   intro p18 hp18 lp18 op18
   refine g_d rfl ?_
   have hs:St _ [_,_,_,_,_] _:=hs.pull 1 rfl
   refine Qdr (y:=2) (fkI .i8) g3.1 g3.2 op18 hs rfl rfl rfl rfl rfl (fun _=>rfl) ?_
   intro w hs
   refine g_n rfl (Qaa ?_)
   have hs:=hs.pull 4 rfl
   have hs:=hs.pull 1 rfl
   have hs:=hs.pull 3 rfl
   have hs:St _ [_,_,_] _:=St.take (Γ':=[_,_]) hs
   exact ha _ _ ⟨r15.2.2.2.Qbu,stL r15.2.2.1 (i64w ((i64w ((i64w ((i64w ((i64w ((i64w ((i64w ((i64w (a6.Qa3*14))+a6.QaY))*14))+a6.QaZ))*2))+a6.QaU))*6))+a7)) 2,H,rfl,hs⟩
  intro hb
  rw [if_neg (b_var_f hb)] at H
  refine g_d rfl (Qaa (Qax rfl (QaS ?_)))
  have hs:=hs.pull 4 rfl
  have hs:=hs.pull 2 rfl
  have hs:=hs.pull 3 rfl
  have hs:St _ [_,_,_] _:=St.take (Γ':=[_,_]) hs
  exact ha _ _ ⟨r15.2.2.2.Qbu,r15.2.2.1,H,rfl,hs⟩
 intro hb
 rw [if_neg (b_beq_f hb)] at H
 refine g_d rfl ?_
 try dsimp only [set0,setS]
 refine Qaa (Qax rfl (QaS ?_))
 have hs:=hs.pull 3 rfl
 have hs:=hs.pull 2 rfl
 have hs:=hs.pull 3 rfl
 have hs:St _ [_,_,_] _:=St.take (Γ':=[_]) hs
 exact ha _ _ ⟨a1.Qbu,a1.QbY,H,rfl,hs⟩
theorem QaN.rec {N:Nat}:∀ (k:Nat) (a1:Qap) (a6:Qar) (a7:Int) (b2:Nat) (v3:Value) (wb:World) (Z:As) (w0:World) (r:(Bool×(List Int)×Qap)) (hs:St wb [Row 22 (K.int .i8) v3 a1.QbY,Cells b2 (([int .i64 a1.Qbu,v3]:List Value)) 99,Z] w0) (H:QaN.g N k a1 a6 a7=some r),Calls Try.prog 30 #[pointer (some ⟨b2,0,none⟩),agg (Qam a6).toArray,int .i64 a7] w0 fun e w=>∃ v,e= .returned v∧QaN.post wb Z v3 b2 v3 r v w
 |0,a1,a6,a7,b2,v3,wb,Z,w0,r,hs,H=>by cases H
 |k+1,a1,a6,a7,b2,v3,wb,Z,w0,r,hs,H=>QaN.step (fun a1 a6 a7 b2 v3 wb Z w0 r hs H=>QaN.rec k a1 a6 a7 b2 v3 wb Z w0 r hs H) a1 a6 a7 b2 v3 wb Z w0 r hs H
theorem QaN.ih {N:Nat}:∀ (a1:Qap) (a6:Qar) (a7:Int) (b2:Nat) (v3:Value) (wb:World) (Z:As) (w0:World) (r:(Bool×(List Int)×Qap)) (hs:St wb [Row 22 (K.int .i8) v3 a1.QbY,Cells b2 (([int .i64 a1.Qbu,v3]:List Value)) 99,Z] w0),QaN.f N a1 a6 a7=some r→Calls Try.prog 30 #[pointer (some ⟨b2,0,none⟩),agg (Qam a6).toArray,int .i64 a7] w0 fun e w=>∃ v,e= .returned v∧QaN.post wb Z v3 b2 v3 r v w:=fun a1 a6 a7 b2 v3 wb Z w0 r hs H=>QaN.rec N a1 a6 a7 b2 v3 wb Z w0 r hs H
theorem QaN.calls {N:Nat} {a1:Qap} {a6:Qar} {a7:Int} {b2:Nat} {v3:Value} {wb:World} {Z:As} {w0:World} {r:(Bool×(List Int)×Qap)} (hs:St wb [Row 22 (K.int .i8) v3 a1.QbY,Cells b2 (([int .i64 a1.Qbu,v3]:List Value)) 99,Z] w0) (H:QaN.f N a1 a6 a7=some r):
 Calls Try.prog 30 #[pointer (some ⟨b2,0,none⟩),agg (Qam a6).toArray,int .i64 a7] w0 fun e w=>∃ v,e= .returned v∧QaN.post wb Z v3 b2 v3 r v w:=QaN.rec N a1 a6 a7 b2 v3 wb Z w0 r hs H
def Qbn.post (w0:World) (r:(Int×Int)) (v:Value) (w:World):Prop:=v=tuple #[int .i64 r.1,int .i64 r.2]∧St w0 [] w
theorem Qbn.calls {N:Nat} {a1:Qaq} {w0:World} {r:(Int×Int)} (H:Qbn.f N a1=some r):
 Calls Try.prog 9 #[agg (Qae a1).toArray] w0 fun e w=>∃ v,e= .returned v∧Qbn.post w0 r v w:=by
 unfold Qbn.f at H
 have hs:St w0 [] w0:=St.refl w0
 refine calls_of_g (n:=23) Try.func9 rfl rfl ?_
 show G _ _ _ _ [_,_,_,_,_,_,_,_,_,_,_,_,_,_,_,_,_,_,_,_,_,_,_,_] _
 refine Qag (Qan [0,1,2] rfl ?_)
 refine Qbw hs rfl rfl (cs:=(Qae a1)) rfl rfl ?_
 intro b2 w hs
 show G _ _ _ _ [_,_,_,_,_,_,_,_,_,_,_,_,_,_,_,_,_,_,_,_,_,_,_,_] _
 refine Qab (v:=int .i64 0) rfl rfl rfl ?_
 refine Qab (v:=int .i64 0) rfl rfl rfl (Qaa (Qag (Qag (Qan [0,1,2] rfl ?_))))
 refine QaG rfl rfl (es:=(Qae a1)) rfl rfl (fun _=>rfl) (n:=4) (fun _=>rfl) (QaJ.len _) (cells_all (hs.cells 0 rfl)) ?_
 show G _ _ _ _ [_,_,_,_,_,_,_,_,_,_,_,_,_,_,_,_,_,_,_,_,_,_,_,_] _
 obtain ⟨r4,Hr4,H⟩:=bind_get H
 refine QaP (args:=[agg (Qae a1).toArray]) rfl rfl (QaT rfl (callFunc_enter Try.func27 rfl rfl) rfl) (Qce.calls (a1:=a1) Hr4) ?_
 rintro _ w ⟨rfl,hs2⟩
 have hs:St _ [_] _:=hs.call hs2
 cases r4 with
 |true=>
  rw [if_pos rfl] at H
  refine Qab (v:=bool false) rfl rfl rfl (Qaa (Qax rfl (QaS (Qag (Qan [0,1,2,3,4,5,6,7] rfl ?_)))))
  refine QaG rfl rfl (es:=(Qae a1)) rfl rfl (fun _=>rfl) (n:=4) (fun _=>rfl) (QaJ.len _) (cells_all (hs.cells 0 rfl)) ?_
  show G _ _ _ _ [_,_,_,_,_,_,_,_,_,_,_,_,_,_,_,_,_,_,_,_,_,_,_,_] _
  obtain ⟨r5,Hr5,H⟩:=bind_get H
  refine QaP (args:=[agg (Qae a1).toArray]) rfl rfl (QaT rfl (callFunc_enter Try.func29 rfl rfl) rfl) (QbA.calls (a1:=a1) Hr5) ?_
  rintro _ w ⟨b6,v7,rfl,hs2⟩
  have hs:St _ [_,_,_] _:=hs.call hs2
  refine Qab (v:=tuple #[pointer (some ⟨b6,0,none⟩),agg (Qam r5.2).toArray]) rfl rfl rfl ?_
  refine Qab (v:=pointer (some ⟨b6,0,none⟩)) rfl rfl rfl ?_
  show G _ _ _ _ [_,_,_,_,_,_,_,_,_,_,_,_,_,_,_,_,_,_,_,_,_,_,_,_] _
  refine Qab (v:=agg (Qam r5.2).toArray) rfl rfl rfl ?_
  refine QbH hs rfl rfl (z:=(agg #[int .i64 0,int .i64 0,int .i64 0,int .i64 0])) (cs:=(Qam QbW)) rfl (fun _=>rfl) rfl ?_
  intro b10 w hs
  refine Qab (v:=pointer (some ⟨b6,0,none⟩)) rfl rfl rfl ?_
  show G _ _ _ _ [_,_,_,_,_,_,_,_,_,_,_,_,_,_,_,_,_,_,_,_,_,_,_,_] _
  refine Qa9 (n:=4) hs (Qa4.len _) rfl rfl (vs:=(Qam r5.2)) rfl rfl rfl (fun _=>rfl) (Qa4.len _) (Qa4.one _) ?_
  intro w hs
  refine Qaa (Qag (Qag (Qan [0] rfl ?_)))
  refine Qab (v:=int .i64 0) rfl rfl rfl (Qaa ?_)
  obtain ⟨o1_,Ho,Hr1_⟩:=bind_get H
  refine Qa2 (J:=fun t w=>Qbn.a0 N=some r∧Fr t (fun O=>([O 0,O 1,O 2,O 3,O 4,O 5,O 6,O 7,O 8,O 9,O 10,O 11,O 12,O 13,O 14,O 15,O 16,O 17,O 18,O 19,O 20,O 21,O 22,O 23]:List Value))∧St w0 [] w) ?_ ?_
  ·
   rintro t w ⟨H,hf,hs⟩
   obtain ⟨O,rfl⟩:=hf.open
   show G _ _ _ _ [_,_,_,_,_,_,_,_,_,_,_,_,_,_,_,_,_,_,_,_,_,_,_,_] _
   unfold Qbn.a0 at H
   refine Qag (Qan [0,1] rfl ?_)
   refine Qab (v:=int .i64 0) rfl rfl rfl ?_
   refine Qab (v:=int .i64 6) rfl rfl rfl (Qaa ?_)
   obtain rfl:=QsJ H
   refine QaK Try.func9 (v:=tuple #[int .i64 0,int .i64 6]) (resN (l:=Try.f9.results.toList) (vs:=[int .i64 0,int .i64 6]) rfl ⟨rfl,rfl,trivial⟩ (by simp)) ?_
   have hs:St _ [] _:=St.take (Γ':=[]) hs
   exact ⟨_,rfl,rfl,hs⟩
  intro ha1_
  have hs:=hs.pull 0 rfl
  have hs:=hs.pull 1 rfl
  have hs:=hs.pull 2 rfl
  have hs:St _ [_,_,_] _:=St.take (Γ':=[_]) hs
  refine Qbk (I:=fun n_ t w=>∃ x14:Int,∃ x15:(List Int),∃ x16:Int,rounds (fun s=>Qbn.b0 N r5 s.1 s.2.1 s.2.2) n_ (x14,x15,x16)=some o1_∧Fr t (fun O=>([O 0,O 1,O 2,O 3,pointer (some ⟨b6,0,none⟩),pointer (some ⟨b10,0,none⟩),int .i64 x16,O 7,O 8,O 9,O 10,O 11,O 12,O 13,O 14,O 15,O 16,O 17,O 18,O 19,O 20,O 21,O 22,O 23]:List Value))∧St w0 [Row 22 (K.int .i8) v7 x15,Cells b6 (([int .i64 x14,v7]:List Value)) 99,Cells b10 (Qam r5.2) 62] w) N ⟨r5.1.Qbu,r5.1.QbY,0,Ho,rfl,hs⟩ ?_ ?_
  ·
   rintro _ _ ⟨x14,x15,x16,h,_⟩
   exact rounds_zero h
  intro n_ ih1_
  rintro t w ⟨x14,x15,x16,Ho,hf,hs⟩
  obtain ⟨O,rfl⟩:=hf.open
  show G _ _ _ _ [_,_,_,_,_,_,_,_,_,_,_,_,_,_,_,_,_,_,_,_,_,_,_,_] _
  obtain ⟨x3_,H,Hx1_⟩:=rounds_succ Ho
  have H:Qbn.b0 N r5 x14 x15 x16=some x3_:=H
  unfold Qbn.b0 at H
  refine Qag (Qag (Qan [0,1] rfl ?_))
  refine Qab (v:=int .i64 x16) rfl rfl rfl ?_
  refine QaR (B:=decide (x16≤5)) rfl rfl rfl ?_ ?_
  ·
   intro hb
   rw [if_pos (b_dec_t hb)] at H
   refine Qaa (Qaw rfl (QaS (Qag ?_)))
   refine QbP (Qag (Qan [0,1,2,3] rfl ?_))
   refine Qab (v:=pointer (some ⟨b6,0,none⟩)) rfl rfl rfl ?_
   refine QaG rfl rfl (es:=(Qam r5.2)) rfl rfl (fun _=>rfl) (n:=4) (fun _=>rfl) (Qa4.len _) (cells_all (hs.cells 2 rfl)) ?_
   show G _ _ _ _ [_,_,_,_,_,_,_,_,_,_,_,_,_,_,_,_,_,_,_,_,_,_,_,_] _
   refine Qab (v:=int .i64 x16) rfl rfl rfl ?_
   obtain ⟨r17,Hr17,H⟩:=bind_get H
   have hs:=hs.pull 1 rfl
   have hs:St _ [_,_,_] _:=hs.pull 1 rfl
   have hs:=hs.pack 2
   refine QaP (args:=[pointer (some ⟨b6,0,none⟩),agg (Qam r5.2).toArray,int .i64 x16]) rfl rfl (QaT rfl (callFunc_enter Try.func30 rfl rfl) rfl) (QaN.calls (a1:=(⟨x14,x15⟩:Qap)) (a6:=r5.2) (a7:=x16) hs Hr17) ?_
   rintro _ w ⟨rfl,hs⟩
   have hs:=St.unpack (Γ:=[_,_]) hs
   have hs:St _ [_,_,_] _:=hs
   generalize hb2_:r17.1=b_ at H ⊢
   cases b_ with
   |true=>
    rw [if_pos rfl] at H
    show G _ _ _ _ [_,_,_,_,_,_,_,_,_,_,_,_,_,_,_,_,_,_,_,_,_,_,_,_] _
    refine Qaa (Qaw rfl (Qag (Qan [0,1,2] rfl ?_)))
    refine Qab (v:=int .i64 x16) rfl rfl rfl ?_
    refine Qab (v:=int .i64 x16) rfl rfl rfl ?_
    refine Qab (v:=int .i64 0) rfl rfl rfl ?_
    show G _ _ _ _ [_,_,_,_,_,_,_,_,_,_,_,_,_,_,_,_,_,_,_,_,_,_,_,_] _
    refine Qaa ?_
    obtain rfl:=QsJ H
    subst Hx1_
    have H:=QsJ Hr1_
    subst H
    refine QaK Try.func9 (v:=tuple #[int .i64 x16,int .i64 0]) (resN (l:=Try.f9.results.toList) (vs:=[int .i64 x16,int .i64 0]) rfl ⟨rfl,rfl,trivial⟩ (by simp)) ?_
    have hs:St _ [] _:=St.take (Γ':=[_,_,_]) hs
    exact ⟨_,rfl,rfl,hs⟩
   |false=>
    rw [if_neg Bool.false_ne_true] at H
    refine Qaa (Qax rfl (QaS ?_))
    refine Qa5 (Qan [0,1,2] rfl ?_)
    refine Qab (v:=int .i64 x16) rfl rfl rfl ?_
    show G _ _ _ _ [_,_,_,_,_,_,_,_,_,_,_,_,_,_,_,_,_,_,_,_,_,_,_,_] _
    refine Qab (v:=int .i64 (i64w (x16+1))) rfl rfl rfl ?_
    refine Qab (v:=int .i64 (i64w (x16+1))) rfl rfl rfl (Qaa ?_)
    obtain rfl:=QsJ H
    have hs:=hs.pull 2 rfl
    have hs:=hs.pull 2 rfl
    have hs:=hs.pull 2 rfl
    have hs:St _ [_,_,_] _:=St.take (Γ':=[]) hs
    exact ih1_ _ _ ⟨r17.2.2.Qbu,r17.2.1,i64w (x16+1),Hx1_,rfl,hs⟩
  intro hb
  rw [if_neg (b_dec_f hb)] at H
  show G _ _ _ _ [_,_,_,_,_,_,_,_,_,_,_,_,_,_,_,_,_,_,_,_,_,_,_,_] _
  refine Qaa (Qax rfl ?_)
  obtain rfl:=QsJ H
  subst Hx1_
  have hs:St _ [] _:=St.take (Γ':=[_,_,_]) hs
  refine QbG rfl ?_
  exact ha1_ _ _ ⟨Hr1_,rfl,hs⟩
 |false=>
  rw [if_neg Bool.false_ne_true] at H
  refine Qab (v:=bool true) rfl rfl rfl (Qaa (Qaw rfl (Qag (Qan [0,1] rfl ?_))))
  refine Qab (v:=int .i64 0) rfl rfl rfl ?_
  show G _ _ _ _ [_,_,_,_,_,_,_,_,_,_,_,_,_,_,_,_,_,_,_,_,_,_,_,_] _
  refine Qab (v:=int .i64 1) rfl rfl rfl (Qaa ?_)
  obtain rfl:=QsJ H
  refine QaK Try.func9 (v:=tuple #[int .i64 0,int .i64 1]) (resN (l:=Try.f9.results.toList) (vs:=[int .i64 0,int .i64 1]) rfl ⟨rfl,rfl,trivial⟩ (by simp)) ?_
  have hs:St _ [] _:=St.take (Γ':=[_]) hs
  exact ⟨_,rfl,rfl,hs⟩
def Qcs.post (w0:World) (r:(Bool×Int)) (v:Value) (w:World):Prop:=v=tuple #[bool r.1,int .i64 r.2]∧St w0 [] w
theorem Qcs.calls {N:Nat} {a1:Qaq} {a2:Int} {w0:World} {r:(Bool×Int)} (H:Qcs.f N a1 a2=some r):
 Calls Try.prog 8 #[agg (Qae a1).toArray,int .i64 a2] w0 fun e w=>∃ v,e= .returned v∧Qcs.post w0 r v w:=by
 unfold Qcs.f at H
 have hs:St w0 [] w0:=St.refl w0
 refine calls_of_g (n:=20) Try.func8 rfl rfl ?_
 show G _ _ _ _ [_,_,_,_,_,_,_,_,_,_,_,_,_,_,_,_,_,_,_,_,_,_] _
 refine Qag (Qan [0,1,2] rfl ?_)
 refine Qbw hs rfl rfl (cs:=(Qae a1)) rfl rfl ?_
 intro b3 w hs
 refine Qab (v:=bool false) rfl rfl rfl ?_
 refine Qab (v:=int .i64 0) rfl rfl rfl ?_
 show G _ _ _ _ [_,_,_,_,_,_,_,_,_,_,_,_,_,_,_,_,_,_,_,_,_,_] _
 refine Qaa (Qag ?_)
 refine QbP (Qag (Qan [0,1,2,3] rfl ?_))
 refine QaG rfl rfl (es:=(Qae a1)) rfl rfl (fun _=>rfl) (n:=4) (fun _=>rfl) (QaJ.len _) (cells_all (hs.cells 0 rfl)) ?_
 obtain ⟨r5,Hr5,H⟩:=bind_get H
 refine QaP (args:=[agg (Qae a1).toArray]) rfl rfl (QaT rfl (callFunc_enter Try.func21 rfl rfl) rfl) (Qbr.calls (a1:=a1) Hr5) ?_
 rintro _ w ⟨rfl,hs2⟩
 have hs:St _ [_] _:=hs.call hs2
 cases r5 with
 |true=>
  rw [if_pos rfl] at H
  show G _ _ _ _ [_,_,_,_,_,_,_,_,_,_,_,_,_,_,_,_,_,_,_,_,_,_] _
  refine Qab (v:=bool false) rfl rfl rfl ?_
  refine Qab (v:=bool false) rfl rfl rfl (Qaa (Qax rfl (Qag (Qan [0,1,2,3] rfl ?_))))
  refine Qab (v:=int .i64 a2) rfl rfl rfl ?_
  show G _ _ _ _ [_,_,_,_,_,_,_,_,_,_,_,_,_,_,_,_,_,_,_,_,_,_] _
  obtain ⟨r6,Hr6,H⟩:=bind_get H
  refine QaP (args:=[int .i64 a2,int .i64 0,int .i64 5]) rfl rfl (QaT rfl (callFunc_enter Try.func31 rfl rfl) rfl) (Qb0.calls (a1:=a2) (a2:=0) (a3:=5) Hr6) ?_
  rintro _ w ⟨rfl,hs2⟩
  have hs:St _ [_] _:=hs.call hs2
  cases r6 with
  |true=>
   rw [if_pos rfl] at H
   refine Qab (v:=bool false) rfl rfl rfl ?_
   show G _ _ _ _ [_,_,_,_,_,_,_,_,_,_,_,_,_,_,_,_,_,_,_,_,_,_] _
   refine Qab (v:=bool false) rfl rfl rfl (Qaa (Qax rfl (QaS ?_)))
   refine Qa5 (Qag ?_)
   refine QcQ (n:=10) rfl [0,1,2,3,4,5,6,7,8,9] [0,1,2,3,4,5,6,7,8,9] rfl rfl ?_
   intro rest w hh hbw hO
   have hs:=hs.samew hh hbw
   show G _ _ _ _ [_,_,_,_,_,_,_,_,_,_,_,_,_,_,_,_,_,_,_,_,_,_] _
   obtain ⟨r9,Hr9,H⟩:=bind_get H
   obtain ⟨r18,Hr18,H⟩:=bind_get H
   refine QbT ?_
   intro T hT
   refine QcJ (m0:=0) hO rfl 127 [0,1,2,3,4,5,6] [0,0,2,0,8,30,0,127,255,511] (by decide+kernel) (fun D t w=>∃ b7:Nat,∃ v10:Value,∃ v11:Value,∃ v12:Value,∃ v13:Value,∃ O:Nat→Value,t=[agg (Qae a1).toArray,int .i64 a2,pointer (some ⟨b3,0,none⟩),O 3,bool false,int .i64 0,bool false,agg (Qae a1).toArray,bool true,bool false,bool false,int .i64 a2,bool true,bool false,cnd (D 0) (Value.map (some b7)) (O 14),cnd (D 1) (agg (Qae a1).toArray) (O 15),cnd (D 2) (agg (([v10,v11,v12,v13]:List Value)).toArray) (O 16),cnd (D 3) (pointer (some ⟨b3,2,none⟩)) (O 17),cnd (D 4) (bool a1.QbU) (O 18),cnd (D 5) (agg (Qaf r18).toArray) (O 19),cnd (D 6) (int .i64 a2) (O 20),O 21]∧St w0 [Asc (D 0) (MapAs b7 QaE bool ([]:(List (Qad×Bool)))),Asc (D 2) (Row 22 (K.int .i8) v10 (r9.get 0 [])),Asc (D 2) (Row 22 (K.int .i8) v11 (r9.get 1 [])),Asc (D 2) (Row 22 (K.int .i8) v12 (r9.get 2 [])),Asc (D 2) (Row 22 (K.int .i8) v13 (r9.get 3 [])),Cells b3 (Qae a1) 27] w) ?_ ⟨?_,⟨?_,⟨?_,⟨?_,⟨?_,⟨?_,⟨?_,trivial⟩⟩⟩⟩⟩⟩⟩ ?_
   ·
    have hs:=hs.emp
    have hs:=hs.emp
    have hs:=hs.emp
    have hs:=hs.emp
    have hs:=hs.emp
    exact ⟨0,undef,undef,undef,undef,fun i=>T.getD i undef,(by subst hT;rfl),hs⟩
   ·
    rintro D t w hD hp hcl ⟨b7,v10,v11,v12,v13,O,ht,hs⟩ rest hk
    have hp:AllDone D []:=hp
    simp only [hD,cq,oT] at ht hs
    subst ht
    refine Qdh (ek:=QaE) (en:=bool) hs rfl rfl rfl ?_
    intro b7 w hs
    show G _ _ _ _ [_,_,_,_,_,_,_,_,_,_,_,_,_,_,_,_,_,_,_,_,_,_] _
    have hs:=hs.fill 0 rfl
    refine hk _ _ ⟨b7,v10,v11,v12,v13,O,?_,hs.cast ?_⟩<;>simp only [oT,lq,cq,Nat.reduceBEq]
   ·
    rintro D t w hD hp hcl ⟨b7,v10,v11,v12,v13,O,ht,hs⟩ rest hk
    have hp:AllDone D []:=hp
    have q2_:=ny hcl 2 0 hD
    have q5_:=ny hcl 5 0 q2_
    simp only [hD,q2_,q5_,cq,oT] at ht hs
    subst ht
    refine QaG rfl rfl (es:=(Qae a1)) rfl rfl (fun _=>rfl) (n:=4) (fun _=>rfl) (QaJ.len _) (cells_all (hs.cells 5 rfl)) ?_
    show G _ _ _ _ [_,_,_,_,_,_,_,_,_,_,_,_,_,_,_,_,_,_,_,_,_,_] _
    refine hk _ _ ⟨b7,v10,v11,v12,v13,O,?_,hs.cast ?_⟩<;>simp only [oT,lq,cq,Nat.reduceBEq,q2_,q5_]
   ·
    rintro D t w hD hp hcl ⟨b7,v10,v11,v12,v13,O,ht,hs⟩ rest hk
    have hp:AllDone D [1]:=hp
    obtain ⟨p1_,_⟩:=hp
    have q5_:=ny hcl 5 0 hD
    simp only [hD,p1_,q5_,cq,oT] at ht hs
    subst ht
    refine QaP (args:=[agg (Qae a1).toArray]) rfl rfl (QaT rfl (callFunc_enter Try.func33 rfl rfl) rfl) (Qba.calls (a1:=a1) Hr9) ?_
    rintro _ w ⟨v10,v11,v12,v13,rfl,hs2⟩
    have hs:St _ [_,_,_,_,_,_,_,_,_,_] _:=hs.call hs2
    show G _ _ _ _ [_,_,_,_,_,_,_,_,_,_,_,_,_,_,_,_,_,_,_,_,_,_] _
    have hs:=hs.fill 4 rfl
    have hs:=hs.fill 4 rfl
    have hs:=hs.fill 4 rfl
    have hs:=hs.fill 4 rfl
    refine hk _ _ ⟨b7,v10,v11,v12,v13,O,?_,hs.cast ?_⟩<;>simp only [oT,lq,cq,Nat.reduceBEq,p1_,q5_]
   ·
    rintro D t w hD hp hcl ⟨b7,v10,v11,v12,v13,O,ht,hs⟩ rest hk
    have hp:AllDone D []:=hp
    have q4_:=ny hcl 4 0 hD
    have q5_:=ny hcl 5 1 q4_
    simp only [hD,q4_,q5_,cq,oT] at ht hs
    subst ht
    refine Qab (v:=pointer (some ⟨b3,2,none⟩)) rfl rfl rfl ?_
    show G _ _ _ _ [_,_,_,_,_,_,_,_,_,_,_,_,_,_,_,_,_,_,_,_,_,_] _
    refine hk _ _ ⟨b7,v10,v11,v12,v13,O,?_,hs.cast ?_⟩<;>simp only [oT,lq,cq,Nat.reduceBEq,q4_,q5_]
   ·
    rintro D t w hD hp hcl ⟨b7,v10,v11,v12,v13,O,ht,hs⟩ rest hk
    have hp:AllDone D [3]:=hp
    obtain ⟨p3_,_⟩:=hp
    have q5_:=ny hcl 5 1 hD
    simp only [hD,p3_,q5_,cq,oT] at ht hs
    subst ht
    refine Qaz rfl rfl (v:=bool a1.QbU) rfl rfl (fun _=>rfl) (cells_load (hs.cells 5 rfl) 2 1 rfl) ?_
    show G _ _ _ _ [_,_,_,_,_,_,_,_,_,_,_,_,_,_,_,_,_,_,_,_,_,_] _
    refine hk _ _ ⟨b7,v10,v11,v12,v13,O,?_,hs.cast ?_⟩<;>simp only [oT,lq,cq,Nat.reduceBEq,p3_,q5_]
   ·
    rintro D t w hD hp hcl ⟨b7,v10,v11,v12,v13,O,ht,hs⟩ rest hk
    have hp:AllDone D [2,4,2]:=hp
    obtain ⟨p2_,p4_,_,_⟩:=hp
    obtain ⟨p3_,_⟩:=(show D 4=true→AllDone D [3] from hcl 4 (by decide)) p4_
    obtain ⟨p1_,_⟩:=(show D 2=true→AllDone D [1] from hcl 2 (by decide)) p2_
    simp only [hD,p1_,p2_,p3_,p4_,cq,oT] at ht hs
    subst ht
    refine QaP (args:=[agg (([v10,v11,v12,v13]:List Value)).toArray,bool a1.QbU]) rfl rfl (QaT rfl (callFunc_enter Try.func34 rfl rfl) rfl) (Qbj.calls (a1:=(⟨[(r9.get 0 []),(r9.get 1 []),(r9.get 2 []),(r9.get 3 [])],rfl⟩:(Ar (List Int) 4))) (a10:=a1.QbU) (hs.row 1 rfl) (hs.row 2 rfl) (hs.row 3 rfl) (hs.row 4 rfl) Hr18) ?_
    rintro _ w ⟨rfl,hs2⟩
    have hs:St _ [_,_,_,_,_,_] _:=hs.call hs2
    show G _ _ _ _ [_,_,_,_,_,_,_,_,_,_,_,_,_,_,_,_,_,_,_,_,_,_] _
    refine hk _ _ ⟨b7,v10,v11,v12,v13,O,?_,hs.cast ?_⟩<;>simp only [oT,lq,cq,Nat.reduceBEq,p1_,p2_,p3_,p4_]
   ·
    rintro D t w hD hp hcl ⟨b7,v10,v11,v12,v13,O,ht,hs⟩ rest hk
    have hp:AllDone D []:=hp
    simp only [hD,cq,oT] at ht hs
    subst ht
    refine Qab (v:=int .i64 a2) rfl rfl rfl ?_
    show G _ _ _ _ [_,_,_,_,_,_,_,_,_,_,_,_,_,_,_,_,_,_,_,_,_,_] _
    refine hk _ _ ⟨b7,v10,v11,v12,v13,O,?_,hs.cast ?_⟩<;>simp only [oT,lq,cq,Nat.reduceBEq]
   intro D t w rest hall hO1_ hI
   obtain ⟨b7,v10,v11,v12,v13,O,ht,hs⟩:=hI
   have p0_:=hall 0 (by decide) rfl
   have p1_:=hall 1 (by decide) rfl
   have p2_:=hall 2 (by decide) rfl
   have p3_:=hall 3 (by decide) rfl
   have p4_:=hall 4 (by decide) rfl
   have p5_:=hall 5 (by decide) rfl
   have p6_:=hall 6 (by decide) rfl
   simp only [p0_,p1_,p2_,p3_,p4_,p5_,p6_,cq,oT] at ht hs
   subst ht
   obtain ⟨rest,rfl,hO2_⟩:=ord_one (m:=127) hO1_ rfl 7 (m':=255) (by decide+kernel) rfl
   clear hO1_
   obtain ⟨r24,Hr24,H⟩:=bind_get H
   have hs:St _ [_,_,_,_,_,_] _:=hs.pull 0 rfl
   have hs:=hs.pack 1
   refine QaP (args:=[Value.map (some b7),agg (Qaf r18).toArray,int .i64 a2]) rfl rfl (QaT rfl (callFunc_enter Try.func32 rfl rfl) rfl) (QaH.calls (a1:=([]:(List (Qad×Bool)))) (a4:=r18) (a5:=a2) hs Hr24) ?_
   rintro _ w ⟨rfl,hs⟩
   have hs:=St.unpack (Γ:=[_]) hs
   have hs:St _ [_,_,_,_,_,_] _:=hs
   obtain ⟨rest,rfl,hO3_⟩:=ord_one (m:=255) hO2_ rfl 8 (m':=511) (by decide+kernel) rfl
   clear hO2_
   refine Qab (v:=bool r24.1) rfl rfl rfl ?_
   show G _ _ _ _ [_,_,_,_,_,_,_,_,_,_,_,_,_,_,_,_,_,_,_,_,_,_] _
   obtain ⟨rest,rfl,hO4_⟩:=ord_one (m:=511) hO3_ rfl 9 (m':=1023) (by decide+kernel) rfl
   clear hO3_
   refine Qab (v:=int .i64 0) rfl rfl rfl ?_
   obtain rfl:=ord_end hO4_ rfl (by decide+kernel)
   refine Qaa ?_
   obtain rfl:=QsJ H
   refine QaK Try.func8 (v:=tuple #[bool r24.1,int .i64 0]) (resN (l:=Try.f8.results.toList) (vs:=[bool r24.1,int .i64 0]) rfl ⟨rfl,rfl,trivial⟩ (by simp)) ?_
   have hs:St _ [] _:=St.take (Γ':=[_,_,_,_,_,_]) hs
   exact ⟨_,rfl,rfl,hs⟩
  |false=>
   rw [if_neg Bool.false_ne_true] at H
   refine Qab (v:=bool true) rfl rfl rfl ?_
   refine Qab (v:=bool true) rfl rfl rfl ?_
   show G _ _ _ _ [_,_,_,_,_,_,_,_,_,_,_,_,_,_,_,_,_,_,_,_,_,_] _
   refine Qaa (Qaw rfl (Qag (Qan [0,1] rfl ?_)))
   refine Qab (v:=bool false) rfl rfl rfl ?_
   refine Qab (v:=int .i64 2) rfl rfl rfl (Qaa ?_)
   obtain rfl:=QsJ H
   refine QaK Try.func8 (v:=tuple #[bool false,int .i64 2]) (resN (l:=Try.f8.results.toList) (vs:=[bool false,int .i64 2]) rfl ⟨rfl,rfl,trivial⟩ (by simp)) ?_
   have hs:St _ [] _:=St.take (Γ':=[_]) hs
   exact ⟨_,rfl,rfl,hs⟩
 |false=>
  rw [if_neg Bool.false_ne_true] at H
  refine Qab (v:=bool true) rfl rfl rfl ?_
  show G _ _ _ _ [_,_,_,_,_,_,_,_,_,_,_,_,_,_,_,_,_,_,_,_,_,_] _
  refine Qab (v:=bool true) rfl rfl rfl (Qaa (Qaw rfl (Qag (Qan [0,1] rfl ?_))))
  refine Qab (v:=bool false) rfl rfl rfl ?_
  refine Qab (v:=int .i64 1) rfl rfl rfl ?_
  show G _ _ _ _ [_,_,_,_,_,_,_,_,_,_,_,_,_,_,_,_,_,_,_,_,_,_] _
  refine Qaa ?_
  obtain rfl:=QsJ H
  refine QaK Try.func8 (v:=tuple #[bool false,int .i64 1]) (resN (l:=Try.f8.results.toList) (vs:=[bool false,int .i64 1]) rfl ⟨rfl,rfl,trivial⟩ (by simp)) ?_
  have hs:St _ [] _:=St.take (Γ':=[_]) hs
  exact ⟨_,rfl,rfl,hs⟩
def Qak.post (w0:World) (r:Bool) (v:Value) (w:World):Prop:=v=bool r∧St w0 [] w
theorem Qak.seg0 {N:Nat} {a1:(List Int)} {a3:(List Int)} {v2:Value} {v4:Value} {r150:(Int×Int)} {x153:Int} {r149:(Int×Int)} {w0:World} {r:Bool} (hr0:RdRow (K.int .u8) w0 v2 a1) (hr1:RdRow (K.int .u8) w0 v4 a3):
 ∀ t w,(fun t w=>Qak.j8 N r150 x153 r149=some r∧Fr t (fun O=>(oT O 0 (oT O 1 (O 20::O 21::O 22::O 23::O 24::O 25::O 26::O 27::O 28::int .i64 r149.1::O 30::O 31::int .i64 r150.2::int .i64 x153::O 34::O 35::O 36::O 37::O 38::O 39::oT O 4 (oT O 5 (oT O 6 (oT O 7 (oT O 8 (oT O 9 (oT O 10 (oT O 11 (oT O 12 (oT O 13 (oT O 14 (oT O 15 (oT O 16 (oT O 17 (oT O 18 (oT O 19 (oT O 20 (oT O 21 (oT O 22 (oT O 23 (oT O 24 (oT O 25 (oT O 26 (oT O 27 (oT O 28 (oT O 29 (O 300::O 301::O 302::O 303::[])))))))))))))))))))))))))))):List Value))∧St w0 [] w) t w→G Try.prog 5 (fun e w=>∃ v,e= .returned v∧Qak.post w0 r v w) [.code (Code.at_ (Try.f5.body.getD .skip) [1,1,1,1,1,1,1,1,1,1,1,1,1,1,1,1,1,1,1,1,1,1])] t w:=by
 rintro t w ⟨H,hf,hs⟩
 obtain ⟨O,rfl⟩:=hf.open
 try dsimp only [oT]
 unfold Qak.j8 at H
 refine Qag (Qan [0,1,2,3,4,5,6,7,8,9,10,11] rfl ?_)
 refine Qab (v:=int .i64 r150.2) rfl rfl rfl (g_d rfl ?_)
 refine QaR (B:=r150.2==0) rfl rfl rfl ?_ ?_
 ·
  intro hb
  rw [if_pos (b_beq_t hb)] at H
  refine g_d rfl ?_
  try dsimp only [set0,setS]
  refine Qab (v:=bool true) rfl rfl rfl (g_d rfl ?_)
  refine Qab (v:=int .i64 x153) rfl rfl rfl (g_d rfl ?_)
  refine Qab (v:=int .i64 r149.1) rfl rfl rfl (g_d rfl ?_)
  refine Qab (v:=bool (decide (x153≥r149.1))) rfl rfl rfl (g_d rfl ?_)
  refine QaR (B:=decide (x153≥r149.1)) rfl rfl rfl ?_ ?_
  ·
   intro hb
   rw [if_pos (b_dec_t hb)] at H
   refine g_d rfl ?_
   try dsimp only [set0,setS]
   refine Qab (v:=bool true) rfl rfl rfl (g_d rfl (Qal rfl rfl (g_d rfl (Qal rfl rfl (g_d rfl ?_)))))
   refine Qab (v:=bool true) rfl rfl rfl (g_d rfl ?_)
   try dsimp only [set0,setS]
   refine Qab (v:=bool true) rfl rfl rfl (g_d rfl (Qaa ?_))
   obtain rfl:=QsJ H
   refine QaK Try.func5 (v:=bool true) (res1 rfl rfl) ?_
   have hs:St _ [] _:=St.take (Γ':=[]) hs
   exact ⟨_,rfl,rfl,hs⟩
  intro hb
  rw [if_neg (b_dec_f hb)] at H
  refine g_d rfl ?_
  try dsimp only [set0,setS]
  refine Qab (v:=bool false) rfl rfl rfl (g_d rfl ?_)
  refine Qab (v:=int .i64 r150.2) rfl rfl rfl (g_d rfl ?_)
  refine Qab (v:=bool (r150.2==6)) rfl rfl rfl (g_d rfl ?_)
  refine Qab (v:=bool (r150.2==6)) rfl rfl rfl (g_d rfl ?_)
  try dsimp only [set0,setS]
  refine Qab (v:=bool (r150.2==6)) rfl rfl rfl (g_d rfl (Qaa ?_))
  obtain rfl:=QsJ H
  refine QaK Try.func5 (v:=bool (r150.2==6)) (res1 rfl rfl) ?_
  have hs:St _ [] _:=St.take (Γ':=[]) hs
  exact ⟨_,rfl,rfl,hs⟩
 intro hb
 rw [if_neg (b_beq_f hb)] at H
 refine g_d rfl ?_
 try dsimp only [set0,setS]
 refine Qab (v:=bool false) rfl rfl rfl (g_d rfl (Qal rfl rfl (g_d rfl (Qal rfl rfl (g_d rfl (Qal rfl rfl (g_d rfl ?_)))))))
 refine Qab (v:=bool false) rfl rfl rfl (g_d rfl ?_)
 try dsimp only [set0,setS]
 refine Qab (v:=bool false) rfl rfl rfl (g_d rfl ?_)
 refine Qab (v:=int .i64 r150.2) rfl rfl rfl (g_d rfl ?_)
 refine Qab (v:=bool (r150.2==6)) rfl rfl rfl (g_d rfl ?_)
 refine Qab (v:=bool (r150.2==6)) rfl rfl rfl (g_d rfl ?_)
 try dsimp only [set0,setS]
 refine Qab (v:=bool (r150.2==6)) rfl rfl rfl (g_d rfl (Qaa ?_))
 obtain rfl:=QsJ H
 refine QaK Try.func5 (v:=bool (r150.2==6)) (res1 rfl rfl) ?_
 have hs:St _ [] _:=St.take (Γ':=[]) hs
 exact ⟨_,rfl,rfl,hs⟩
theorem Qak.seg1 {N:Nat} {a1:(List Int)} {a3:(List Int)} {v2:Value} {v4:Value} {r149:(Int×Int)} {r150:(Int×Int)} {r18:((List Qai)×Int)} {r7:Qaq} {b8:Nat} {v19:Value} {w0:World} {r:Bool} (hr0:RdRow (K.int .u8) w0 v2 a1) (hr1:RdRow (K.int .u8) w0 v4 a3):
 ∀ t w,(fun t w=>∃ x153:Int,∃ x154:Int,Qak.j7 N r149 r150 r18 r7 x153 x154=some r∧Fr t (fun O=>(O 0::O 1::O 2::O 3::O 4::pointer (some ⟨b8,0,none⟩)::O 6::O 7::O 8::v19::oT O 1 (O 20::O 21::O 22::O 23::O 24::O 25::O 26::O 27::O 28::int .i64 r149.1::int .i64 r149.2::int .i64 r150.1::int .i64 r150.2::int .i64 x153::int .i64 x154::O 35::O 36::O 37::O 38::O 39::oT O 4 (oT O 5 (oT O 6 (oT O 7 (oT O 8 (oT O 9 (oT O 10 (oT O 11 (oT O 12 (oT O 13 (oT O 14 (oT O 15 (oT O 16 (oT O 17 (oT O 18 (oT O 19 (oT O 20 (oT O 21 (oT O 22 (oT O 23 (oT O 24 (oT O 25 (oT O 26 (oT O 27 (oT O 28 (oT O 29 (O 300::O 301::O 302::O 303::[]))))))))))))))))))))))))))):List Value))∧St w0 [Cells b8 (Qae r7) 27,Row 53 Qah v19 r18.1] w) t w→G Try.prog 5 (fun e w=>∃ v,e= .returned v∧Qak.post w0 r v w) [.code (Code.at_ (Try.f5.body.getD .skip) [1,1,1,1,1,1,1,1,1,1,1,1,1,1,1,1,1,1,1])] t w:=by
 rintro t w ⟨x153,x154,H,hf,hs⟩
 obtain ⟨O,rfl⟩:=hf.open
 try dsimp only [oT]
 unfold Qak.j7 at H
 refine Qag (Qag (Qan [0,1,2,3,4,5,6,7,8,9,10,11] rfl ?_))
 refine Qab (v:=int .i64 r149.2) rfl rfl rfl (g_d rfl ?_)
 refine QaR (B:=r149.2 !=0) rfl rfl rfl ?_ ?_
 ·
  intro hb
  rw [if_neg (b_bne_t hb)] at H
  refine g_d rfl ?_
  refine Qab (v:=bool true) rfl rfl rfl (g_d rfl (Qal rfl rfl (g_d rfl (Qal rfl rfl (g_d rfl (Qal rfl rfl (g_d rfl ?_)))))))
  try dsimp only [set0,setS]
  refine Qab (v:=bool true) rfl rfl rfl (g_d rfl ?_)
  refine Qab (v:=bool true) rfl rfl rfl (g_d rfl (Qal rfl rfl (g_d rfl (Qal rfl rfl (g_d rfl (Qal rfl rfl (g_d rfl ?_)))))))
  try dsimp only [set0,setS]
  refine Qab (v:=bool true) rfl rfl rfl (g_d rfl (Qaa (Qaw rfl (Qag (Qan [0] rfl ?_)))))
  refine Qab (v:=bool false) rfl rfl rfl (g_d rfl ?_)
  try dsimp only [set0,setS]
  refine Qaa ?_
  obtain rfl:=QsJ H
  refine QaK Try.func5 (v:=bool false) (res1 rfl rfl) ?_
  have hs:St _ [] _:=St.take (Γ':=[_,_]) hs
  exact ⟨_,rfl,rfl,hs⟩
 intro hb
 rw [if_pos (b_bne_f hb)] at H
 refine g_d rfl ?_
 refine Qab (v:=bool false) rfl rfl rfl (g_d rfl ?_)
 refine Qab (v:=int .i64 r150.2) rfl rfl rfl (g_d rfl ?_)
 refine Qab (v:=int .i64 x154) rfl rfl rfl (g_d rfl ?_)
 refine Qab (v:=bool (r150.2 !=x154)) rfl rfl rfl (g_d rfl ?_)
 try dsimp only [set0,setS]
 refine QaR (B:=r150.2 !=x154) rfl rfl rfl ?_ ?_
 ·
  intro hb
  rw [if_neg (b_bne_t hb)] at H
  refine g_d rfl ?_
  refine Qab (v:=bool true) rfl rfl rfl (g_d rfl (Qal rfl rfl (g_d rfl (Qal rfl rfl (g_d rfl (Qal rfl rfl (g_d rfl ?_)))))))
  try dsimp only [set0,setS]
  refine Qab (v:=bool true) rfl rfl rfl (g_d rfl (Qaa (Qaw rfl (Qag (Qan [0] rfl ?_)))))
  refine Qab (v:=bool false) rfl rfl rfl (g_d rfl ?_)
  try dsimp only [set0,setS]
  refine Qaa ?_
  obtain rfl:=QsJ H
  refine QaK Try.func5 (v:=bool false) (res1 rfl rfl) ?_
  have hs:St _ [] _:=St.take (Γ':=[_,_]) hs
  exact ⟨_,rfl,rfl,hs⟩
 intro hb
 rw [if_pos (b_bne_f hb)] at H
 refine g_d rfl ?_
 refine Qab (v:=bool false) rfl rfl rfl (g_d rfl ?_)
 refine Qab (v:=int .i64 r150.1) rfl rfl rfl (g_d rfl ?_)
 refine Qab (v:=int .i64 x153) rfl rfl rfl (g_d rfl ?_)
 refine QaR (B:=r150.1 !=x153) rfl rfl rfl ?_ ?_
 ·
  intro hb
  rw [if_neg (b_bne_t hb)] at H
  refine g_d rfl ?_
  try dsimp only [set0,setS]
  refine Qab (v:=bool true) rfl rfl rfl (g_d rfl (Qaa (Qaw rfl (Qag (Qan [0] rfl ?_)))))
  refine Qab (v:=bool false) rfl rfl rfl (g_d rfl ?_)
  try dsimp only [set0,setS]
  refine Qaa ?_
  obtain rfl:=QsJ H
  refine QaK Try.func5 (v:=bool false) (res1 rfl rfl) ?_
  have hs:St _ [] _:=St.take (Γ':=[_,_]) hs
  exact ⟨_,rfl,rfl,hs⟩
 intro hb
 rw [if_pos (b_bne_f hb)] at H
 refine g_d rfl ?_
 try dsimp only [set0,setS]
 refine Qab (v:=bool false) rfl rfl rfl (g_d rfl (Qaa (Qax rfl (QaS (Qag (Qan [0] rfl ?_))))))
 refine Qab (v:=int .i64 1) rfl rfl rfl (g_d rfl ?_)
 try dsimp only [set0,setS]
 refine Qaa (Qag (Qag (Qan [0] rfl ?_)))
 refine Qab (v:=int .i64 0) rfl rfl rfl (g_d rfl (Qaa ?_))
 refine QcR (J:=(fun t w=>Qak.j8 N r150 x153 r149=some r∧Fr t (fun O=>(oT O 0 (oT O 1 (O 20::O 21::O 22::O 23::O 24::O 25::O 26::O 27::O 28::int .i64 r149.1::O 30::O 31::int .i64 r150.2::int .i64 x153::O 34::O 35::O 36::O 37::O 38::O 39::oT O 4 (oT O 5 (oT O 6 (oT O 7 (oT O 8 (oT O 9 (oT O 10 (oT O 11 (oT O 12 (oT O 13 (oT O 14 (oT O 15 (oT O 16 (oT O 17 (oT O 18 (oT O 19 (oT O 20 (oT O 21 (oT O 22 (oT O 23 (oT O 24 (oT O 25 (oT O 26 (oT O 27 (oT O 28 (oT O 29 (O 300::O 301::O 302::O 303::[])))))))))))))))))))))))))))):List Value))∧St w0 [] w)) ?_ ?_
 ·exact Qak.seg0 hr0 hr1
 intro ha
 obtain ⟨o1_,Ho,Hr1_⟩:=bind_get H
 refine Qa2 (J:=fun t w=>Qak.a9 N r150 x153 r149=some r∧Fr t (fun O=>(oT O 0 (oT O 1 (O 20::O 21::O 22::O 23::O 24::O 25::O 26::O 27::O 28::int .i64 r149.1::O 30::O 31::int .i64 r150.2::int .i64 x153::O 34::O 35::O 36::O 37::O 38::O 39::oT O 4 (oT O 5 (oT O 6 (oT O 7 (oT O 8 (oT O 9 (oT O 10 (oT O 11 (oT O 12 (oT O 13 (oT O 14 (oT O 15 (oT O 16 (oT O 17 (oT O 18 (oT O 19 (oT O 20 (oT O 21 (oT O 22 (oT O 23 (oT O 24 (oT O 25 (oT O 26 (oT O 27 (oT O 28 (oT O 29 (O 300::O 301::O 302::O 303::[])))))))))))))))))))))))))))):List Value))∧St w0 [] w) ?_ ?_
 ·
  rintro t w ⟨H,hf,hs⟩
  obtain ⟨O,rfl⟩:=hf.open
  try dsimp only [oT]
  unfold Qak.a9 at H
  have hs:St _ [] _:=St.take (Γ':=[]) hs
  exact ha _ _ ⟨H,rfl,hs⟩
 intro ha1_
 have hs:=hs.pull 1 rfl
 have hs:=hs.pull 1 rfl
 have hs:St _ [_,_] _:=St.take (Γ':=[]) hs
 refine Qbk (I:=fun n_ t w=>∃ x155:Int,∃ x156:Int,rounds (fun s=>Qak.b9 N r18 r149 r7 r150 x153 s.1 s.2) n_ (x155,x156)=some o1_∧Fr t (fun O=>(O 0::O 1::O 2::O 3::O 4::pointer (some ⟨b8,0,none⟩)::O 6::O 7::O 8::v19::oT O 1 (O 20::O 21::O 22::O 23::O 24::O 25::O 26::O 27::O 28::int .i64 r149.1::O 30::O 31::int .i64 r150.2::int .i64 x153::O 34::int .i64 x155::int .i64 x156::O 37::O 38::O 39::oT O 4 (oT O 5 (oT O 6 (oT O 7 (oT O 8 (oT O 9 (oT O 10 (oT O 11 (oT O 12 (oT O 13 (oT O 14 (oT O 15 (oT O 16 (oT O 17 (oT O 18 (oT O 19 (oT O 20 (oT O 21 (oT O 22 (oT O 23 (oT O 24 (oT O 25 (oT O 26 (oT O 27 (oT O 28 (oT O 29 (O 300::O 301::O 302::O 303::[]))))))))))))))))))))))))))):List Value))∧St w0 [Cells b8 (Qae r7) 27,Row 53 Qah v19 r18.1] w) N ⟨1,0,Ho,rfl,hs⟩ ?_ ?_
 ·
  rintro _ _ ⟨x155,x156,h,_⟩
  exact rounds_zero h
 intro n_ ih1_
 rintro t w ⟨x155,x156,Ho,hf,hs⟩
 obtain ⟨O,rfl⟩:=hf.open
 try dsimp only [oT]
 obtain ⟨x39_,H,Hx1_⟩:=rounds_succ Ho
 have H:Qak.b9 N r18 r149 r7 r150 x153 x155 x156=some x39_:=H
 unfold Qak.b9 at H
 refine Qag (Qag (Qan [0,1] rfl ?_))
 refine Qab (v:=int .i64 x156) rfl rfl rfl (g_d rfl ?_)
 refine QaR (B:=decide (x156≤4)) rfl rfl rfl ?_ ?_
 ·
  intro hb
  rw [if_pos (b_dec_t hb)] at H
  refine g_d rfl (Qaa (Qaw rfl (QaS (Qag ?_))))
  refine Qa2 (J:=(fun t w=>∃ x159:Bool,∃ x160:Bool,∃ x161:Bool,Qak.j11 N x155 x156 x159 x160 x161=some x39_∧Fr t (fun O=>(O 0::O 1::O 2::O 3::O 4::pointer (some ⟨b8,0,none⟩)::O 6::O 7::O 8::v19::oT O 1 (O 20::O 21::O 22::O 23::O 24::O 25::O 26::O 27::O 28::int .i64 r149.1::O 30::O 31::int .i64 r150.2::int .i64 x153::O 34::int .i64 (i64w (x155*3))::int .i64 x156::O 37::O 38::O 39::oT O 4 (oT O 5 (oT O 6 (oT O 7 (oT O 8 (oT O 9 (oT O 10 (oT O 11 (oT O 12 (oT O 13 (oT O 14 (oT O 15 (oT O 16 (oT O 17 (oT O 18 (oT O 19 (oT O 20 (oT O 21 (oT O 22 (oT O 23 (oT O 24 (oT O 25 (oT O 26 (oT O 27 (O 280::O 281::O 282::bool x159::int .i64 r150.2::bool x160::bool x160::O 287::O 288::O 289::bool x161::bool false::O 292::O 293::O 294::O 295::O 296::O 297::O 298::O 299::O 300::O 301::O 302::O 303::[]))))))))))))))))))))))))):List Value))∧St w0 [Cells b8 (Qae r7) 27,Row 53 Qah v19 r18.1] w)) ?_ ?_
  ·
   rintro t w ⟨x159,x160,x161,H,hf,hs⟩
   obtain ⟨O,rfl⟩:=hf.open
   try dsimp only [oT]
   unfold Qak.j11 at H
   refine Qan [0,1,2] rfl ?_
   refine Qab (v:=int .i64 x156) rfl rfl rfl (g_d rfl ?_)
   refine Qab (v:=int .i64 (i64w (x156+1))) rfl rfl rfl (g_d rfl ?_)
   try dsimp only [set0,setS]
   refine Qab (v:=int .i64 (i64w (x156+1))) rfl rfl rfl (g_d rfl (Qaa ?_))
   obtain rfl:=QsJ H
   have hs:=hs.pull 1 rfl
   have hs:=hs.pull 1 rfl
   have hs:St _ [_,_] _:=St.take (Γ':=[]) hs
   exact ih1_ _ _ ⟨i64w (x155*3),i64w (x156+1),Hx1_,rfl,hs⟩
  intro ha
  refine Qag (Qag (Qan [0,1,2,3,4,5,6,7] rfl ?_))
  refine Qab (v:=int .i64 x155) rfl rfl rfl (g_d rfl ?_)
  refine Qab (v:=v19) rfl rfl rfl (g_d rfl ?_)
  refine Qb1 (hs.row 1 rfl) rfl rfl rfl rfl rfl (g_d rfl ?_)
  try dsimp only [set0,setS]
  refine Qab (v:=bool (decide (x155≥(r18.1.length:Int)))) rfl rfl rfl (g_d rfl ?_)
  refine Qab (v:=int .i64 x156) rfl rfl rfl (g_d rfl ?_)
  refine Qab (v:=int .i64 r149.1) rfl rfl rfl (g_d rfl ?_)
  refine Qab (v:=bool (decide (x156≥r149.1))) rfl rfl rfl (g_d rfl ?_)
  try dsimp only [set0,setS]
  refine QaR (B:=(decide (x155≥(r18.1.length:Int))) !=(decide (x156≥r149.1))) rfl rfl rfl ?_ ?_
  ·
   intro hb
   rw [if_neg (b_bne_t hb)] at H
   refine g_d rfl ?_
   try dsimp only [set0,setS]
   refine Qaa (Qaw rfl (Qag (Qan [0] rfl ?_)))
   refine Qab (v:=bool false) rfl rfl rfl (g_d rfl (Qaa ?_))
   obtain rfl:=QsJ H
   subst Hx1_
   have H:=QsJ Hr1_
   subst H
   refine QaK Try.func5 (v:=bool false) (res1 rfl rfl) ?_
   have hs:St _ [] _:=St.take (Γ':=[_,_]) hs
   exact ⟨_,rfl,rfl,hs⟩
  intro hb
  rw [if_pos (b_bne_f hb)] at H
  refine g_d rfl (Qaa (Qax rfl (QaS (Qag (Qan [0,1,2] rfl ?_)))))
  refine Qab (v:=int .i64 x155) rfl rfl rfl (g_d rfl ?_)
  refine Qab (v:=int .i64 (i64w (x155*3))) rfl rfl rfl (g_d rfl ?_)
  try dsimp only [set0,setS]
  refine Qab (v:=int .i64 (i64w (x155*3))) rfl rfl rfl (g_d rfl (Qaa (Qag (Qan [0,1,2,3,4,5,6,7] rfl ?_))))
  refine QaG rfl rfl (es:=(Qae r7)) rfl rfl (fun _=>rfl) (n:=4) (fun _=>rfl) (QaJ.len _) (cells_all (hs.cells 0 rfl)) (g_d rfl ?_)
  try dsimp only [set0,setS]
  refine Qab (v:=int .i64 x156) rfl rfl rfl (g_d rfl ?_)
  obtain ⟨r157,Hr157,H⟩:=bind_get H
  refine QaP (args:=[agg (Qae r7).toArray,int .i64 x156]) rfl rfl (QaT rfl (callFunc_enter Try.func8 rfl rfl) rfl) (Qcs.calls (a1:=r7) (a2:=x156) Hr157) ?_
  rintro _ w ⟨rfl,hs2⟩
  have hs:St _ [_,_] _:=hs.call hs2
  refine g_d rfl ?_
  refine Qab (v:=tuple #[bool r157.1,int .i64 r157.2]) rfl rfl rfl (g_d rfl ?_)
  refine Qab (v:=bool r157.1) rfl rfl rfl (g_d rfl ?_)
  refine Qab (v:=int .i64 r157.2) rfl rfl rfl (g_d rfl ?_)
  refine Qab (v:=bool r157.1) rfl rfl rfl (g_d rfl ?_)
  try dsimp only [set0,setS]
  refine Qab (v:=int .i64 r157.2) rfl rfl rfl (g_d rfl (Qaa (Qag (Qan [0,1,2,3,4,5,6,7,8,9,10,11,12] rfl ?_))))
  refine Qab (v:=int .i64 r157.2) rfl rfl rfl (g_d rfl ?_)
  refine QaR (B:=r157.2 !=0) rfl rfl rfl ?_ ?_
  ·
   intro hb
   rw [if_neg (b_bne_t hb)] at H
   refine g_d rfl ?_
   refine Qab (v:=bool true) rfl rfl rfl (g_d rfl (Qal rfl rfl (g_d rfl (Qal rfl rfl (g_d rfl (Qal rfl rfl (g_d rfl ?_)))))))
   try dsimp only [set0,setS]
   refine Qal rfl rfl (g_d rfl (Qal rfl rfl (g_d rfl (Qal rfl rfl (g_d rfl (Qal rfl rfl (g_d rfl ?_)))))))
   refine Qal rfl rfl (g_d rfl ?_)
   try dsimp only [set0,setS]
   refine Qal rfl rfl (g_d rfl ?_)
   refine Qab (v:=bool true) rfl rfl rfl (g_d rfl ?_)
   try dsimp only [set0,setS]
   refine Qaa (Qaw rfl (Qag (Qan [0] rfl ?_)))
   refine Qab (v:=bool false) rfl rfl rfl (g_d rfl (Qaa ?_))
   obtain rfl:=QsJ H
   subst Hx1_
   have H:=QsJ Hr1_
   subst H
   refine QaK Try.func5 (v:=bool false) (res1 rfl rfl) ?_
   have hs:St _ [] _:=St.take (Γ':=[_,_]) hs
   exact ⟨_,rfl,rfl,hs⟩
  intro hb
  rw [if_pos (b_bne_f hb)] at H
  refine g_d rfl ?_
  try dsimp only [set0,setS]
  refine Qab (v:=bool false) rfl rfl rfl (g_d rfl ?_)
  refine Qab (v:=bool r157.1) rfl rfl rfl (g_d rfl ?_)
  refine Qab (v:=int .i64 r150.2) rfl rfl rfl (g_d rfl ?_)
  refine QaR (B:=r150.2==0) rfl rfl rfl ?_ ?_
  ·
   intro hb
   rw [if_pos (b_beq_t hb)] at H
   refine g_d rfl ?_
   refine Qab (v:=bool true) rfl rfl rfl (g_d rfl ?_)
   refine Qab (v:=int .i64 x156) rfl rfl rfl (g_d rfl ?_)
   refine Qab (v:=int .i64 x153) rfl rfl rfl (g_d rfl ?_)
   refine Qab (v:=bool (decide (x156≥x153))) rfl rfl rfl (g_d rfl ?_)
   try dsimp only [set0,setS]
   refine Qab (v:=bool (decide (x156≥x153))) rfl rfl rfl (g_d rfl ?_)
   refine QaR (B:=r157.1 !=(decide (x156≥x153))) rfl rfl rfl ?_ ?_
   ·
    intro hb
    rw [if_neg (b_bne_t hb)] at H
    refine g_d rfl ?_
    try dsimp only [set0,setS]
    refine Qab (v:=bool true) rfl rfl rfl (g_d rfl (Qaa (Qaw rfl (Qag (Qan [0] rfl ?_)))))
    refine Qab (v:=bool false) rfl rfl rfl (g_d rfl ?_)
    try dsimp only [set0,setS]
    refine Qaa ?_
    obtain rfl:=QsJ H
    subst Hx1_
    have H:=QsJ Hr1_
    subst H
    refine QaK Try.func5 (v:=bool false) (res1 rfl rfl) ?_
    have hs:St _ [] _:=St.take (Γ':=[_,_]) hs
    exact ⟨_,rfl,rfl,hs⟩
   intro hb
   rw [if_pos (b_bne_f hb)] at H
   refine g_d rfl ?_
   try dsimp only [set0,setS]
   refine Qab (v:=bool false) rfl rfl rfl (g_d rfl (Qaa (Qax rfl (QaS ?_))))
   refine Qa5 ?_
   have hs:=hs.pull 1 rfl
   have hs:=hs.pull 1 rfl
   have hs:St _ [_,_] _:=St.take (Γ':=[]) hs
   exact ha _ _ ⟨r157.1,true,decide (x156≥x153),H,rfl,hs⟩
  intro hb
  rw [if_neg (b_beq_f hb)] at H
  refine g_d rfl ?_
  refine Qab (v:=bool false) rfl rfl rfl (g_d rfl (Qal rfl rfl (g_d rfl (Qal rfl rfl (g_d rfl (Qal rfl rfl (g_d rfl ?_)))))))
  try dsimp only [set0,setS]
  refine Qab (v:=bool false) rfl rfl rfl (g_d rfl ?_)
  refine QaR (B:=r157.1 !=false) rfl rfl rfl ?_ ?_
  ·
   intro hb
   rw [if_neg (b_bne_t hb)] at H
   refine g_d rfl ?_
   try dsimp only [set0,setS]
   refine Qab (v:=bool true) rfl rfl rfl (g_d rfl (Qaa (Qaw rfl (Qag (Qan [0] rfl ?_)))))
   refine Qab (v:=bool false) rfl rfl rfl (g_d rfl ?_)
   try dsimp only [set0,setS]
   refine Qaa ?_
   obtain rfl:=QsJ H
   subst Hx1_
   have H:=QsJ Hr1_
   subst H
   refine QaK Try.func5 (v:=bool false) (res1 rfl rfl) ?_
   have hs:St _ [] _:=St.take (Γ':=[_,_]) hs
   exact ⟨_,rfl,rfl,hs⟩
  intro hb
  rw [if_pos (b_bne_f hb)] at H
  refine g_d rfl ?_
  try dsimp only [set0,setS]
  refine Qab (v:=bool false) rfl rfl rfl (g_d rfl (Qaa (Qax rfl (QaS ?_))))
  refine Qa5 ?_
  have hs:=hs.pull 1 rfl
  have hs:=hs.pull 1 rfl
  have hs:St _ [_,_] _:=St.take (Γ':=[]) hs
  exact ha _ _ ⟨r157.1,false,false,H,rfl,hs⟩
 intro hb
 rw [if_neg (b_dec_f hb)] at H
 refine g_d rfl ?_
 try dsimp only [set0,setS]
 refine Qaa (Qax rfl ?_)
 obtain rfl:=QsJ H
 subst Hx1_
 have hs:St _ [] _:=St.take (Γ':=[_,_]) hs
 refine QbG rfl ?_
 exact ha1_ _ _ ⟨Hr1_,rfl,hs⟩
theorem Qak.seg2 {N:Nat} {a1:(List Int)} {a3:(List Int)} {v2:Value} {v4:Value} {r7:Qaq} {r18:((List Qai)×Int)} {b8:Nat} {v19:Value} {w0:World} {r:Bool} (hr0:RdRow (K.int .u8) w0 v2 a1) (hr1:RdRow (K.int .u8) w0 v4 a3):
 ∀ t w,(fun t w=>Qak.j6 N r7 r18=some r∧Fr t (fun O=>(O 0::O 1::O 2::O 3::O 4::pointer (some ⟨b8,0,none⟩)::O 6::O 7::O 8::v19::oT O 1 (oT O 2 (oT O 3 (oT O 4 (oT O 5 (oT O 6 (oT O 7 (oT O 8 (oT O 9 (oT O 10 (oT O 11 (oT O 12 (oT O 13 (oT O 14 (oT O 15 (oT O 16 (oT O 17 (oT O 18 (oT O 19 (oT O 20 (oT O 21 (oT O 22 (oT O 23 (oT O 24 (oT O 25 (oT O 26 (oT O 27 (oT O 28 (oT O 29 (O 300::O 301::O 302::O 303::[]))))))))))))))))))))))))))))):List Value))∧St w0 [Cells b8 (Qae r7) 27,Row 53 Qah v19 r18.1] w) t w→G Try.prog 5 (fun e w=>∃ v,e= .returned v∧Qak.post w0 r v w) [.code (Code.at_ (Try.f5.body.getD .skip) [1,1,1,1,1,1,1,1,1,1,1,1,1,1,1,1])] t w:=by
 rintro t w ⟨H,hf,hs⟩
 obtain ⟨O,rfl⟩:=hf.open
 try dsimp only [oT]
 unfold Qak.j6 at H
 refine Qag (Qan [0,1,2,3,4,5,6] rfl ?_)
 refine QaG rfl rfl (es:=(Qae r7)) rfl rfl (fun _=>rfl) (n:=4) (fun _=>rfl) (QaJ.len _) (cells_all (hs.cells 0 rfl)) (g_d rfl ?_)
 obtain ⟨r149,Hr149,H⟩:=bind_get H
 refine QaP (args:=[agg (Qae r7).toArray]) rfl rfl (QaT rfl (callFunc_enter Try.func26 rfl rfl) rfl) (QbJ.calls (a1:=r7) Hr149) ?_
 rintro _ w ⟨rfl,hs2⟩
 have hs:St _ [_,_] _:=hs.call hs2
 refine g_d rfl ?_
 try dsimp only [set0,setS]
 refine Qab (v:=tuple #[int .i64 r149.1,int .i64 r149.2]) rfl rfl rfl (g_d rfl ?_)
 refine Qab (v:=int .i64 r149.1) rfl rfl rfl (g_d rfl ?_)
 refine Qab (v:=int .i64 r149.2) rfl rfl rfl (g_d rfl ?_)
 refine Qab (v:=int .i64 r149.1) rfl rfl rfl (g_d rfl ?_)
 refine Qab (v:=int .i64 r149.2) rfl rfl rfl (g_d rfl ?_)
 try dsimp only [set0,setS]
 refine Qaa (Qag (Qan [0,1,2,3,4,5,6] rfl ?_))
 refine QaG rfl rfl (es:=(Qae r7)) rfl rfl (fun _=>rfl) (n:=4) (fun _=>rfl) (QaJ.len _) (cells_all (hs.cells 0 rfl)) (g_d rfl ?_)
 obtain ⟨r150,Hr150,H⟩:=bind_get H
 refine QaP (args:=[agg (Qae r7).toArray]) rfl rfl (QaT rfl (callFunc_enter Try.func10 rfl rfl) rfl) (Qbm.calls (a1:=r7) Hr150) ?_
 rintro _ w ⟨rfl,hs2⟩
 have hs:St _ [_,_] _:=hs.call hs2
 refine g_d rfl ?_
 try dsimp only [set0,setS]
 refine Qab (v:=tuple #[int .i64 r150.1,int .i64 r150.2]) rfl rfl rfl (g_d rfl ?_)
 refine Qab (v:=int .i64 r150.1) rfl rfl rfl (g_d rfl ?_)
 refine Qab (v:=int .i64 r150.2) rfl rfl rfl (g_d rfl ?_)
 refine Qab (v:=int .i64 r150.1) rfl rfl rfl (g_d rfl ?_)
 refine Qab (v:=int .i64 r150.2) rfl rfl rfl (g_d rfl ?_)
 try dsimp only [set0,setS]
 refine Qaa (Qag ?_)
 refine QcR (J:=(fun t w=>∃ x153:Int,∃ x154:Int,Qak.j7 N r149 r150 r18 r7 x153 x154=some r∧Fr t (fun O=>(O 0::O 1::O 2::O 3::O 4::pointer (some ⟨b8,0,none⟩)::O 6::O 7::O 8::v19::oT O 1 (O 20::O 21::O 22::O 23::O 24::O 25::O 26::O 27::O 28::int .i64 r149.1::int .i64 r149.2::int .i64 r150.1::int .i64 r150.2::int .i64 x153::int .i64 x154::O 35::O 36::O 37::O 38::O 39::oT O 4 (oT O 5 (oT O 6 (oT O 7 (oT O 8 (oT O 9 (oT O 10 (oT O 11 (oT O 12 (oT O 13 (oT O 14 (oT O 15 (oT O 16 (oT O 17 (oT O 18 (oT O 19 (oT O 20 (oT O 21 (oT O 22 (oT O 23 (oT O 24 (oT O 25 (oT O 26 (oT O 27 (oT O 28 (oT O 29 (O 300::O 301::O 302::O 303::[]))))))))))))))))))))))))))):List Value))∧St w0 [Cells b8 (Qae r7) 27,Row 53 Qah v19 r18.1] w)) ?_ ?_
 ·exact Qak.seg1 hr0 hr1
 intro ha
 refine Qan [0,1,2,3,4,5,6] rfl ?_
 refine QaG rfl rfl (es:=(Qae r7)) rfl rfl (fun _=>rfl) (n:=4) (fun _=>rfl) (QaJ.len _) (cells_all (hs.cells 0 rfl)) (g_d rfl ?_)
 obtain ⟨r151,Hr151,H⟩:=bind_get H
 refine QaP (args:=[agg (Qae r7).toArray]) rfl rfl (QaT rfl (callFunc_enter Try.func9 rfl rfl) rfl) (Qbn.calls (a1:=r7) Hr151) ?_
 rintro _ w ⟨rfl,hs2⟩
 have hs:St _ [_,_] _:=hs.call hs2
 refine g_d rfl ?_
 try dsimp only [set0,setS]
 refine Qab (v:=tuple #[int .i64 r151.1,int .i64 r151.2]) rfl rfl rfl (g_d rfl ?_)
 refine Qab (v:=int .i64 r151.1) rfl rfl rfl (g_d rfl ?_)
 refine Qab (v:=int .i64 r151.2) rfl rfl rfl (g_d rfl ?_)
 refine Qab (v:=int .i64 r151.1) rfl rfl rfl (g_d rfl ?_)
 refine Qab (v:=int .i64 r151.2) rfl rfl rfl (g_d rfl ?_)
 try dsimp only [set0,setS]
 refine Qaa ?_
 have hs:=hs.pull 1 rfl
 have hs:=hs.pull 1 rfl
 have hs:St _ [_,_] _:=St.take (Γ':=[]) hs
 exact ha _ _ ⟨r151.1,r151.2,H,rfl,hs⟩
end Go.Proofs.YtgpdpedpmhonkaaX
namespace Go.Proofs.YtgpdpedpmhonkaaX
open Go Go.RowKit Go.Proofs
open Go.Value (int pointer bool agg slice string tuple)
set_option maxHeartbeats 8000000
set_option maxRecDepth 100000
set_option linter.unusedVariables false
set_option linter.unusedSimpArgs false
theorem Qak.seg3 {N:Nat} {a1:(List Int)} {a3:(List Int)} {v2:Value} {v4:Value} {r7:Qaq} {r18:((List Qai)×Int)} {x14:(Ar Int 14)} {x139:Int} {x140:Int} {b8:Nat} {b13:Nat} {v19:Value} {w0:World} {r:Bool} (hr0:RdRow (K.int .u8) w0 v2 a1) (hr1:RdRow (K.int .u8) w0 v4 a3):
 ∀ t w,(fun t w=>Qak.j5 N r7 r18 x14 x139 x140=some r∧Fr t (fun O=>(O 0::O 1::O 2::O 3::O 4::pointer (some ⟨b8,0,none⟩)::pointer (some ⟨b13,0,none⟩)::O 7::O 8::v19::O 10::O 11::O 12::O 13::O 14::O 15::O 16::int .i64 x139::int .i64 x140::O 19::oT O 2 (oT O 3 (oT O 4 (oT O 5 (oT O 6 (oT O 7 (oT O 8 (oT O 9 (oT O 10 (oT O 11 (oT O 12 (oT O 13 (oT O 14 (oT O 15 (oT O 16 (oT O 17 (oT O 18 (oT O 19 (oT O 20 (oT O 21 (oT O 22 (oT O 23 (oT O 24 (oT O 25 (oT O 26 (oT O 27 (oT O 28 (oT O 29 (O 300::O 301::O 302::O 303::[])))))))))))))))))))))))))))):List Value))∧St w0 [Cells b8 (Qae r7) 27,Cells b13 ((encA (encI .i8)) x14) 37,Row 53 Qah v19 r18.1] w) t w→G Try.prog 5 (fun e w=>∃ v,e= .returned v∧Qak.post w0 r v w) [.code (Code.at_ (Try.f5.body.getD .skip) [1,1,1,1,1,1,1,1,1,1,1,1,1,1])] t w:=by
 rintro t w ⟨H,hf,hs⟩
 obtain ⟨O,rfl⟩:=hf.open
 try dsimp only [oT]
 unfold Qak.j5 at H
 refine Qag (Qan [0,1,2,3,4,5,6,7,8,9,10,11,12] rfl ?_)
 refine QaG rfl rfl (es:=(Qae r7)) rfl rfl (fun _=>rfl) (n:=4) (fun _=>rfl) (QaJ.len _) (cells_all (hs.cells 0 rfl)) (g_d rfl ?_)
 refine Qab (v:=v19) rfl rfl rfl (g_d rfl ?_)
 try dsimp only [set0,setS]
 refine Qab (v:=agg ((encA (encI .i8)) (Ar.rep 14 0)).toArray) rfl rfl (Qcr rfl rfl) (g_d rfl ?_)
 refine QaG rfl rfl (es:=((encA (encI .i8)) x14)) rfl rfl (fun _=>rfl) (n:=14) (fun _=>rfl) ((fkA (n:=14) (he:=(fkI .i8).len) (h1:=(fkI .i8).one)).len _) (cells_all (hs.cells 1 rfl)) (g_d rfl ?_)
 try dsimp only [set0,setS]
 refine QdK (fkA (n:=14) (he:=(fkI .i8).len) (h1:=(fkI .i8).one)) (a:=(Ar.rep 14 0)) (b:=x14) hs rfl rfl rfl rfl (fun _=>rfl) (zv:=(agg #[int .i8 0,int .i8 0,int .i8 0,int .i8 0,int .i8 0,int .i8 0,int .i8 0,int .i8 0,int .i8 0,int .i8 0,int .i8 0,int .i8 0,int .i8 0,int .i8 0])) (fun _=>rfl) (by decide) (by decide) rfl rfl ?_
 intro v145 w hs
 refine g_d rfl ?_
 obtain ⟨r147,Hr147,H⟩:=bind_get H
 refine QaP (args:=[agg (Qae r7).toArray,v19,v145]) rfl rfl (QaT rfl (callFunc_enter Try.func25 rfl rfl) rfl) (QaX.calls (a1:=r7) (a2:=r18.1) (a4:=[(Ar.rep 14 0),x14]) (hs.row 3 rfl) (hs.row 0 rfl) Hr147) ?_
 rintro _ w ⟨rfl,hs2⟩
 have hs:St _ [_,_,_,_] _:=hs.call hs2
 refine g_d rfl ?_
 try dsimp only [set0,setS]
 refine Qab (v:=tuple #[int .i64 r147.1,int .i64 r147.2.1,int .i64 r147.2.2]) rfl rfl rfl (g_d rfl ?_)
 refine Qab (v:=int .i64 r147.1) rfl rfl rfl (g_d rfl ?_)
 refine Qab (v:=int .i64 r147.2.1) rfl rfl rfl (g_d rfl ?_)
 refine Qab (v:=int .i64 r147.2.2) rfl rfl rfl (g_d rfl ?_)
 refine Qab (v:=int .i64 r147.1) rfl rfl rfl (g_d rfl ?_)
 refine Qab (v:=int .i64 r147.2.1) rfl rfl rfl (g_d rfl ?_)
 try dsimp only [set0,setS]
 refine Qab (v:=int .i64 r147.2.2) rfl rfl rfl (g_d rfl (Qaa (Qag (Qag ?_))))
 refine QcB (J:=(fun t w=>Qak.j6 N r7 r18=some r∧Fr t (fun O=>(O 0::O 1::O 2::O 3::O 4::pointer (some ⟨b8,0,none⟩)::O 6::O 7::O 8::v19::oT O 1 (oT O 2 (oT O 3 (oT O 4 (oT O 5 (oT O 6 (oT O 7 (oT O 8 (oT O 9 (oT O 10 (oT O 11 (oT O 12 (oT O 13 (oT O 14 (oT O 15 (oT O 16 (oT O 17 (oT O 18 (oT O 19 (oT O 20 (oT O 21 (oT O 22 (oT O 23 (oT O 24 (oT O 25 (oT O 26 (oT O 27 (oT O 28 (oT O 29 (O 300::O 301::O 302::O 303::[]))))))))))))))))))))))))))))):List Value))∧St w0 [Cells b8 (Qae r7) 27,Row 53 Qah v19 r18.1] w)) ?_ ?_
 ·exact Qak.seg2 hr0 hr1
 intro ha
 refine Qan [0,1,2,3,4,5,6,7,8,9,10,11,12,13,14,15,16,17,18,19,20,21,22,23,24] rfl ?_
 refine Qab (v:=int .i64 x139) rfl rfl rfl (g_d rfl ?_)
 refine Qab (v:=v19) rfl rfl rfl (g_d rfl ?_)
 refine Qb1 (hs.row 3 rfl) rfl rfl rfl rfl rfl (g_d rfl ?_)
 try dsimp only [set0,setS]
 refine QaR (B:=x139 !=(r18.1.length:Int)) rfl rfl rfl ?_ ?_
 ·
  intro hb
  rw [if_neg (b_bne_t hb)] at H
  refine g_d rfl ?_
  try dsimp only [set0,setS]
  refine Qab (v:=bool true) rfl rfl rfl (g_d rfl (Qal rfl rfl (g_d rfl (Qal rfl rfl (g_d rfl ?_)))))
  refine Qab (v:=bool true) rfl rfl rfl (g_d rfl ?_)
  try dsimp only [set0,setS]
  refine Qab (v:=bool true) rfl rfl rfl (g_d rfl (Qal rfl rfl (g_d rfl (Qal rfl rfl (g_d rfl (Qal rfl rfl (g_d rfl ?_)))))))
  refine Qal rfl rfl (g_d rfl (Qal rfl rfl (g_d rfl ?_)))
  try dsimp only [set0,setS]
  refine Qal rfl rfl (g_d rfl ?_)
  refine Qab (v:=bool true) rfl rfl rfl (g_d rfl ?_)
  try dsimp only [set0,setS]
  refine Qab (v:=bool true) rfl rfl rfl (g_d rfl (Qal rfl rfl (g_d rfl (Qal rfl rfl (g_d rfl (Qal rfl rfl (g_d rfl ?_)))))))
  refine Qal rfl rfl (g_d rfl (Qal rfl rfl (g_d rfl ?_)))
  try dsimp only [set0,setS]
  refine Qal rfl rfl (g_d rfl (Qal rfl rfl (g_d rfl ?_)))
  try dsimp only [set0,setS]
  refine Qab (v:=bool true) rfl rfl rfl (g_d rfl (Qaa (Qaw rfl (Qag (Qan [0] rfl ?_)))))
  refine Qab (v:=bool false) rfl rfl rfl (g_d rfl ?_)
  try dsimp only [set0,setS]
  refine Qaa ?_
  obtain rfl:=QsJ H
  refine QaK Try.func5 (v:=bool false) (res1 rfl rfl) ?_
  have hs:St _ [] _:=St.take (Γ':=[_,_,_,_]) hs
  exact ⟨_,rfl,rfl,hs⟩
 intro hb
 rw [if_pos (b_bne_f hb)] at H
 refine g_d rfl ?_
 refine Qab (v:=bool false) rfl rfl rfl (g_d rfl ?_)
 refine Qab (v:=int .i64 r147.2.2) rfl rfl rfl (g_d rfl ?_)
 refine Qab (v:=bool (r147.2.2 !=0)) rfl rfl rfl (g_d rfl ?_)
 try dsimp only [set0,setS]
 refine QaR (B:=r147.2.2 !=0) rfl rfl rfl ?_ ?_
 ·
  intro hb
  rw [if_neg (b_bne_t hb)] at H
  refine g_d rfl ?_
  refine Qab (v:=bool true) rfl rfl rfl (g_d rfl (Qal rfl rfl (g_d rfl (Qal rfl rfl (g_d rfl (Qal rfl rfl (g_d rfl ?_)))))))
  refine Qal rfl rfl (g_d rfl ?_)
  try dsimp only [set0,setS]
  refine Qal rfl rfl (g_d rfl (Qal rfl rfl (g_d rfl ?_)))
  try dsimp only [set0,setS]
  refine Qab (v:=bool true) rfl rfl rfl (g_d rfl ?_)
  refine Qab (v:=bool true) rfl rfl rfl (g_d rfl (Qal rfl rfl (g_d rfl (Qal rfl rfl (g_d rfl ?_)))))
  try dsimp only [set0,setS]
  refine Qal rfl rfl (g_d rfl (Qal rfl rfl (g_d rfl (Qal rfl rfl (g_d rfl (Qal rfl rfl (g_d rfl ?_)))))))
  try dsimp only [set0,setS]
  refine Qal rfl rfl (g_d rfl ?_)
  refine Qab (v:=bool true) rfl rfl rfl (g_d rfl ?_)
  try dsimp only [set0,setS]
  refine Qaa (Qaw rfl (Qag (Qan [0] rfl ?_)))
  refine Qab (v:=bool false) rfl rfl rfl (g_d rfl (Qaa ?_))
  obtain rfl:=QsJ H
  refine QaK Try.func5 (v:=bool false) (res1 rfl rfl) ?_
  have hs:St _ [] _:=St.take (Γ':=[_,_,_,_]) hs
  exact ⟨_,rfl,rfl,hs⟩
 intro hb
 rw [if_pos (b_bne_f hb)] at H
 refine g_d rfl ?_
 refine Qab (v:=bool false) rfl rfl rfl (g_d rfl ?_)
 refine Qab (v:=int .i64 r147.2.1) rfl rfl rfl (g_d rfl ?_)
 refine Qab (v:=int .i64 x140) rfl rfl rfl (g_d rfl ?_)
 refine Qab (v:=v19) rfl rfl rfl (g_d rfl ?_)
 refine Qb1 (hs.row 3 rfl) rfl rfl rfl rfl rfl (g_d rfl ?_)
 try dsimp only [set0,setS]
 refine Qab (v:=int .i64 (mnI x140 (r18.1.length:Int))) rfl rfl (QdP rfl rfl rfl) (g_d rfl ?_)
 refine Qab (v:=bool (r147.2.1 !=(mnI x140 (r18.1.length:Int)))) rfl rfl rfl (g_d rfl ?_)
 try dsimp only [set0,setS]
 refine QaR (B:=r147.2.1 !=(mnI x140 (r18.1.length:Int))) rfl rfl rfl ?_ ?_
 ·
  intro hb
  rw [if_neg (b_bne_t hb)] at H
  refine g_d rfl ?_
  try dsimp only [set0,setS]
  refine Qab (v:=bool true) rfl rfl rfl (g_d rfl (Qal rfl rfl (g_d rfl (Qal rfl rfl (g_d rfl (Qal rfl rfl (g_d rfl ?_)))))))
  refine Qal rfl rfl (g_d rfl (Qal rfl rfl (g_d rfl ?_)))
  try dsimp only [set0,setS]
  refine Qal rfl rfl (g_d rfl (Qal rfl rfl (g_d rfl ?_)))
  try dsimp only [set0,setS]
  refine Qab (v:=bool true) rfl rfl rfl (g_d rfl (Qaa (Qaw rfl (Qag (Qan [0] rfl ?_)))))
  refine Qab (v:=bool false) rfl rfl rfl (g_d rfl ?_)
  try dsimp only [set0,setS]
  refine Qaa ?_
  obtain rfl:=QsJ H
  refine QaK Try.func5 (v:=bool false) (res1 rfl rfl) ?_
  have hs:St _ [] _:=St.take (Γ':=[_,_,_,_]) hs
  exact ⟨_,rfl,rfl,hs⟩
 intro hb
 rw [if_pos (b_bne_f hb)] at H
 refine g_d rfl ?_
 refine Qab (v:=bool false) rfl rfl rfl (g_d rfl ?_)
 refine Qab (v:=int .i64 r147.1) rfl rfl rfl (g_d rfl ?_)
 refine Qab (v:=bool (r147.1==0)) rfl rfl rfl (g_d rfl ?_)
 try dsimp only [set0,setS]
 refine Qab (v:=int .i64 x140) rfl rfl rfl (g_d rfl ?_)
 refine Qab (v:=v19) rfl rfl rfl (g_d rfl ?_)
 refine Qb1 (hs.row 3 rfl) rfl rfl rfl rfl rfl (g_d rfl ?_)
 refine Qab (v:=bool (decide (x140≥(r18.1.length:Int)))) rfl rfl rfl (g_d rfl ?_)
 try dsimp only [set0,setS]
 refine QaR (B:=(r147.1==0) !=(decide (x140≥(r18.1.length:Int)))) rfl rfl rfl ?_ ?_
 ·
  intro hb
  rw [if_neg (b_bne_t hb)] at H
  refine g_d rfl ?_
  refine Qab (v:=bool true) rfl rfl rfl (g_d rfl ?_)
  try dsimp only [set0,setS]
  refine Qaa (Qaw rfl (Qag (Qan [0] rfl ?_)))
  refine Qab (v:=bool false) rfl rfl rfl (g_d rfl (Qaa ?_))
  obtain rfl:=QsJ H
  refine QaK Try.func5 (v:=bool false) (res1 rfl rfl) ?_
  have hs:St _ [] _:=St.take (Γ':=[_,_,_,_]) hs
  exact ⟨_,rfl,rfl,hs⟩
 intro hb
 rw [if_pos (b_bne_f hb)] at H
 refine g_d rfl ?_
 refine Qab (v:=bool false) rfl rfl rfl (g_d rfl ?_)
 try dsimp only [set0,setS]
 refine Qaa (Qax rfl (QaS ?_))
 have hs:=hs.pull 3 rfl
 have hs:=hs.pull 2 rfl
 have hs:St _ [_,_] _:=St.take (Γ':=[_,_]) hs
 exact ha _ _ ⟨H,rfl,hs⟩
theorem Qak.seg4 {N:Nat} {a1:(List Int)} {a3:(List Int)} {v2:Value} {v4:Value} {r18:((List Qai)×Int)} {r7:Qaq} {x14:(Ar Int 14)} {b8:Nat} {b13:Nat} {v19:Value} {w0:World} {r:Bool} (hr0:RdRow (K.int .u8) w0 v2 a1) (hr1:RdRow (K.int .u8) w0 v4 a3):
 ∀ t w,(fun t w=>∃ x139:Int,∃ x140:Int,Qak.j4 N r18 r7 x14 x139 x140=some r∧Fr t (fun O=>(O 0::O 1::O 2::O 3::O 4::pointer (some ⟨b8,0,none⟩)::pointer (some ⟨b13,0,none⟩)::O 7::O 8::v19::O 10::O 11::O 12::O 13::O 14::O 15::O 16::int .i64 x139::int .i64 x140::O 19::oT O 2 (oT O 3 (oT O 4 (oT O 5 (oT O 6 (oT O 7 (oT O 8 (oT O 9 (oT O 10 (oT O 11 (oT O 12 (oT O 13 (oT O 14 (oT O 15 (oT O 16 (oT O 17 (oT O 18 (oT O 19 (oT O 20 (oT O 21 (oT O 22 (oT O 23 (oT O 24 (oT O 25 (oT O 26 (oT O 27 (oT O 28 (oT O 29 (O 300::O 301::O 302::O 303::[])))))))))))))))))))))))))))):List Value))∧St w0 [Cells b8 (Qae r7) 27,Cells b13 ((encA (encI .i8)) x14) 37,Row 53 Qah v19 r18.1] w) t w→G Try.prog 5 (fun e w=>∃ v,e= .returned v∧Qak.post w0 r v w) [.code (Code.at_ (Try.f5.body.getD .skip) [1,1,1,1,1,1,1,1,1,1,1,1,1])] t w:=by
 rintro t w ⟨x139,x140,H,hf,hs⟩
 obtain ⟨O,rfl⟩:=hf.open
 try dsimp only [oT]
 unfold Qak.j4 at H
 refine Qag (Qag (Qan [0] rfl ?_))
 refine Qab (v:=int .i64 0) rfl rfl rfl (g_d rfl ?_)
 try dsimp only [set0,setS]
 refine Qaa ?_
 refine QcR (J:=(fun t w=>Qak.j5 N r7 r18 x14 x139 x140=some r∧Fr t (fun O=>(O 0::O 1::O 2::O 3::O 4::pointer (some ⟨b8,0,none⟩)::pointer (some ⟨b13,0,none⟩)::O 7::O 8::v19::O 10::O 11::O 12::O 13::O 14::O 15::O 16::int .i64 x139::int .i64 x140::O 19::oT O 2 (oT O 3 (oT O 4 (oT O 5 (oT O 6 (oT O 7 (oT O 8 (oT O 9 (oT O 10 (oT O 11 (oT O 12 (oT O 13 (oT O 14 (oT O 15 (oT O 16 (oT O 17 (oT O 18 (oT O 19 (oT O 20 (oT O 21 (oT O 22 (oT O 23 (oT O 24 (oT O 25 (oT O 26 (oT O 27 (oT O 28 (oT O 29 (O 300::O 301::O 302::O 303::[])))))))))))))))))))))))))))):List Value))∧St w0 [Cells b8 (Qae r7) 27,Cells b13 ((encA (encI .i8)) x14) 37,Row 53 Qah v19 r18.1] w)) ?_ ?_
 ·exact Qak.seg3 hr0 hr1
 intro ha
 obtain ⟨o1_,Ho,Hr1_⟩:=bind_get H
 refine Qa2 (J:=fun t w=>Qak.a12 N r7 r18 x14 x139 x140=some r∧Fr t (fun O=>(O 0::O 1::O 2::O 3::O 4::pointer (some ⟨b8,0,none⟩)::pointer (some ⟨b13,0,none⟩)::O 7::O 8::v19::O 10::O 11::O 12::O 13::O 14::O 15::O 16::int .i64 x139::int .i64 x140::O 19::oT O 2 (oT O 3 (oT O 4 (oT O 5 (oT O 6 (oT O 7 (oT O 8 (oT O 9 (oT O 10 (oT O 11 (oT O 12 (oT O 13 (oT O 14 (oT O 15 (oT O 16 (oT O 17 (oT O 18 (oT O 19 (oT O 20 (oT O 21 (oT O 22 (oT O 23 (oT O 24 (oT O 25 (oT O 26 (oT O 27 (oT O 28 (oT O 29 (O 300::O 301::O 302::O 303::[])))))))))))))))))))))))))))):List Value))∧St w0 [Cells b8 (Qae r7) 27,Cells b13 ((encA (encI .i8)) x14) 37,Row 53 Qah v19 r18.1] w) ?_ ?_
 ·
  rintro t w ⟨H,hf,hs⟩
  obtain ⟨O,rfl⟩:=hf.open
  try dsimp only [oT]
  unfold Qak.a12 at H
  have hs:=hs.pull 2 rfl
  have hs:=hs.pull 2 rfl
  have hs:=hs.pull 2 rfl
  have hs:St _ [_,_,_] _:=St.take (Γ':=[]) hs
  exact ha _ _ ⟨H,rfl,hs⟩
 intro ha1_
 have hs:=hs.pull 2 rfl
 have hs:=hs.pull 2 rfl
 have hs:=hs.pull 2 rfl
 have hs:St _ [_,_,_] _:=St.take (Γ':=[]) hs
 refine Qbk (I:=fun n_ t w=>∃ x141:Int,rounds (fun s=>Qak.b12 N r18 r7 s) n_ x141=some o1_∧Fr t (fun O=>(O 0::O 1::O 2::O 3::O 4::pointer (some ⟨b8,0,none⟩)::pointer (some ⟨b13,0,none⟩)::O 7::O 8::v19::O 10::O 11::O 12::O 13::O 14::O 15::O 16::int .i64 x139::int .i64 x140::O 19::O 20::O 21::O 22::int .i64 x141::O 24::O 25::O 26::O 27::O 28::O 29::oT O 3 (oT O 4 (oT O 5 (oT O 6 (oT O 7 (oT O 8 (oT O 9 (oT O 10 (oT O 11 (oT O 12 (oT O 13 (oT O 14 (oT O 15 (oT O 16 (oT O 17 (oT O 18 (oT O 19 (oT O 20 (oT O 21 (oT O 22 (oT O 23 (oT O 24 (oT O 25 (oT O 26 (oT O 27 (oT O 28 (oT O 29 (O 300::O 301::O 302::O 303::[]))))))))))))))))))))))))))):List Value))∧St w0 [Cells b8 (Qae r7) 27,Cells b13 ((encA (encI .i8)) x14) 37,Row 53 Qah v19 r18.1] w) N ⟨0,Ho,rfl,hs⟩ ?_ ?_
 ·
  rintro _ _ ⟨x141,h,_⟩
  exact rounds_zero h
 intro n_ ih1_
 rintro t w ⟨x141,Ho,hf,hs⟩
 obtain ⟨O,rfl⟩:=hf.open
 try dsimp only [oT]
 obtain ⟨x38_,H,Hx1_⟩:=rounds_succ Ho
 have H:Qak.b12 N r18 r7 x141=some x38_:=H
 unfold Qak.b12 at H
 refine Qag (Qag (Qan [0,1,2,3] rfl ?_))
 refine Qab (v:=int .i64 x141) rfl rfl rfl (g_d rfl ?_)
 refine Qab (v:=v19) rfl rfl rfl (g_d rfl ?_)
 refine Qb1 (hs.row 2 rfl) rfl rfl rfl rfl rfl (g_d rfl ?_)
 refine QaR (B:=decide (x141< (r18.1.length:Int))) rfl rfl rfl ?_ ?_
 ·
  intro hb
  rw [if_pos (b_dec_t hb)] at H
  refine g_d rfl (Qaa (Qaw rfl (QaS (Qag ?_))))
  refine QbP (Qag ?_)
  obtain ⟨gd36,H⟩:=ite_get H
  obtain ⟨ad37_,ad37_N,ad37_C,had37_⟩:=sl_at (hs.row 2 rfl) gd36.1 gd36.2
  obtain ⟨r142,Hr142,H⟩:=bind_get H
  refine QbT ?_
  intro T hT
  refine Qcg (n:=11) rfl [0,1,2,3,4,5,6,7,8,9,10] [0,1,2,3,4,5,6,7,9,8,10] rfl rfl (Inv:=fun D t w=>∃ O:Nat→Value,t=(O 0::O 1::O 2::O 3::O 4::pointer (some ⟨b8,0,none⟩)::pointer (some ⟨b13,0,none⟩)::O 7::O 8::v19::O 10::O 11::O 12::O 13::O 14::O 15::O 16::int .i64 x139::int .i64 x140::O 19::O 20::O 21::O 22::int .i64 x141::cnd (D 9) (int .i64 r142.1) (O 24)::cnd (D 10) (int .i64 r142.2) (O 25)::O 26::O 27::O 28::O 29::oT O 3 (oT O 4 (oT O 5 (oT O 6 (oT O 7 (oT O 8 (oT O 9 (oT O 10 (oT O 11 (oT O 12 (oT O 13 (oT O 14 (oT O 15 (oT O 16 (O 170::O 171::O 172::O 173::O 174::O 175::int .i64 x141::v19::int .i64 (r18.1.length:Int)::bool true::O 180::O 181::cnd (D 6) (tuple #[int .i64 r142.1,int .i64 r142.2]) (O 182)::cnd (D 0) (agg (Qae r7).toArray) (O 183)::cnd (D 1) v19 (O 184)::cnd (D 2) (int .i64 x141) (O 185)::cnd (D 3) (pointer (some (ad37_.add (x141.toNat*2)))) (O 186)::cnd (D 4) (agg (Qau (rdL r18.1 x141 Qay)).toArray) (O 187)::cnd (D 5) (tuple #[int .i64 r142.1,int .i64 r142.2]) (O 188)::cnd (D 7) (int .i64 r142.1) (O 189)::cnd (D 8) (int .i64 r142.2) (O 190)::O 191::O 192::O 193::O 194::O 195::O 196::O 197::O 198::O 199::oT O 20 (oT O 21 (oT O 22 (oT O 23 (oT O 24 (oT O 25 (oT O 26 (oT O 27 (oT O 28 (oT O 29 (O 300::O 301::O 302::O 303::[])))))))))))))))))))))))))∧St w0 [Cells b8 (Qae r7) 27,Cells b13 ((encA (encI .i8)) x14) 37,Row 53 Qah v19 r18.1] w) ?_ ⟨⟨⟨⟨⟨⟨⟨⟨⟨⟨⟨trivial,?_⟩,?_⟩,?_⟩,?_⟩,?_⟩,?_⟩,?_⟩,?_⟩,?_⟩,?_⟩,?_⟩ ?_
  ·
   intro w hh hbw
   have hs:=hs.samew hh hbw
   exact ⟨fun i=>T.getD i undef,(by subst hT;rfl),hs⟩
  ·
   rintro D t w hD hp hcl ⟨O,ht,hs⟩ rest hk
   have q5_:=nz hcl 5 0 hD
   have q6_:=nz hcl 6 0 q5_
   have q7_:=nz hcl 7 0 q6_
   have q8_:=nz hcl 8 0 q6_
   have q9_:=nz hcl 9 0 q7_
   have q10_:=nz hcl 10 0 q8_
   simp only [hD,q5_,q6_,q7_,q8_,q9_,q10_,cq,oT] at ht hs
   subst ht
   refine QaG rfl rfl (es:=(Qae r7)) rfl rfl (fun _=>rfl) (n:=4) (fun _=>rfl) (QaJ.len _) (cells_all (hs.cells 0 rfl)) (g_d rfl ?_)
   try dsimp only [set0,setS]
   refine hk _ _ ⟨O,?_,hs.cast ?_⟩<;>simp only [oT,lq,cq,Nat.reduceBEq,q5_,q6_,q7_,q8_,q9_,q10_]
  ·
   rintro D t w hD hp hcl ⟨O,ht,hs⟩ rest hk
   have q3_:=nz hcl 3 0 hD
   have q4_:=nz hcl 4 0 q3_
   have q5_:=nz hcl 5 1 q4_
   have q6_:=nz hcl 6 0 q5_
   have q7_:=nz hcl 7 0 q6_
   have q8_:=nz hcl 8 0 q6_
   have q9_:=nz hcl 9 0 q7_
   have q10_:=nz hcl 10 0 q8_
   simp only [hD,q3_,q4_,q5_,q6_,q7_,q8_,q9_,q10_,cq,oT] at ht hs
   subst ht
   refine Qab (v:=v19) rfl rfl rfl (g_d rfl ?_)
   try dsimp only [set0,setS]
   refine hk _ _ ⟨O,?_,hs.cast ?_⟩<;>simp only [oT,lq,cq,Nat.reduceBEq,q3_,q4_,q5_,q6_,q7_,q8_,q9_,q10_]
  ·
   rintro D t w hD hp hcl ⟨O,ht,hs⟩ rest hk
   have q3_:=nz hcl 3 1 hD
   have q4_:=nz hcl 4 0 q3_
   have q5_:=nz hcl 5 1 q4_
   have q6_:=nz hcl 6 0 q5_
   have q7_:=nz hcl 7 0 q6_
   have q8_:=nz hcl 8 0 q6_
   have q9_:=nz hcl 9 0 q7_
   have q10_:=nz hcl 10 0 q8_
   simp only [hD,q3_,q4_,q5_,q6_,q7_,q8_,q9_,q10_,cq,oT] at ht hs
   subst ht
   refine Qab (v:=int .i64 x141) rfl rfl rfl (g_d rfl ?_)
   try dsimp only [set0,setS]
   refine hk _ _ ⟨O,?_,hs.cast ?_⟩<;>simp only [oT,lq,cq,Nat.reduceBEq,q3_,q4_,q5_,q6_,q7_,q8_,q9_,q10_]
  ·
   rintro D t w hD hp hcl ⟨O,ht,hs⟩ rest hk
   obtain ⟨p1_,p2_,_⟩:=hp
   have q4_:=nz hcl 4 0 hD
   have q5_:=nz hcl 5 1 q4_
   have q6_:=nz hcl 6 0 q5_
   have q7_:=nz hcl 7 0 q6_
   have q8_:=nz hcl 8 0 q6_
   have q9_:=nz hcl 9 0 q7_
   have q10_:=nz hcl 10 0 q8_
   simp only [hD,p1_,p2_,q4_,q5_,q6_,q7_,q8_,q9_,q10_,cq,oT] at ht hs
   subst ht
   refine QcI (κ:=Qah) (m:=2) rfl (hs.row 2 rfl) rfl (fun _=>rfl) gd36.1 gd36.2 had37_ rfl rfl rfl rfl rfl (g_d rfl ?_)
   try dsimp only [set0,setS]
   refine hk _ _ ⟨O,?_,hs.cast ?_⟩<;>simp only [oT,lq,cq,Nat.reduceBEq,p1_,p2_,q4_,q5_,q6_,q7_,q8_,q9_,q10_]
  ·
   rintro D t w hD hp hcl ⟨O,ht,hs⟩ rest hk
   obtain ⟨p3_,_⟩:=hp
   obtain ⟨p1_,p2_,_⟩:=(hcl.get 3 (by decide)) p3_
   have q5_:=nz hcl 5 1 hD
   have q6_:=nz hcl 6 0 q5_
   have q7_:=nz hcl 7 0 q6_
   have q8_:=nz hcl 8 0 q6_
   have q9_:=nz hcl 9 0 q7_
   have q10_:=nz hcl 10 0 q8_
   simp only [hD,p1_,p2_,p3_,q5_,q6_,q7_,q8_,q9_,q10_,cq,oT] at ht hs
   subst ht
   refine QaG rfl rfl (es:=(Qau (rdL r18.1 x141 Qay))) rfl rfl (fun _=>rfl) (n:=2) (fun _=>rfl) (QaL.len _) (cellsAt_of QaL Qay (hs.row 2 rfl) had37_ gd36.1 gd36.2) (g_d rfl ?_)
   try dsimp only [set0,setS]
   refine hk _ _ ⟨O,?_,hs.cast ?_⟩<;>simp only [oT,lq,cq,Nat.reduceBEq,p1_,p2_,p3_,q5_,q6_,q7_,q8_,q9_,q10_]
  ·
   rintro D t w hD hp hcl ⟨O,ht,hs⟩ rest hk
   obtain ⟨p0_,p4_,_⟩:=hp
   obtain ⟨p3_,_⟩:=(hcl.get 4 (by decide)) p4_
   obtain ⟨p1_,p2_,_⟩:=(hcl.get 3 (by decide)) p3_
   have q6_:=nz hcl 6 0 hD
   have q7_:=nz hcl 7 0 q6_
   have q8_:=nz hcl 8 0 q6_
   have q9_:=nz hcl 9 0 q7_
   have q10_:=nz hcl 10 0 q8_
   simp only [hD,p0_,p1_,p2_,p3_,p4_,q6_,q7_,q8_,q9_,q10_,cq,oT] at ht hs
   subst ht
   refine QaP (args:=[agg (Qae r7).toArray,agg (Qau (rdL r18.1 x141 Qay)).toArray]) rfl rfl (QaT rfl (callFunc_enter Try.func24 rfl rfl) rfl) (Qcv.calls (a1:=r7) (a2:=rdL r18.1 x141 Qay) Hr142) ?_
   rintro _ w ⟨rfl,hs2⟩
   have hs:St _ [_,_,_] _:=hs.call hs2
   refine g_d rfl ?_
   try dsimp only [set0,setS]
   refine hk _ _ ⟨O,?_,hs.cast ?_⟩<;>simp only [oT,lq,cq,Nat.reduceBEq,p0_,p1_,p2_,p3_,p4_,q6_,q7_,q8_,q9_,q10_]
  ·
   rintro D t w hD hp hcl ⟨O,ht,hs⟩ rest hk
   obtain ⟨p5_,_⟩:=hp
   obtain ⟨p0_,p4_,_⟩:=(hcl.get 5 (by decide)) p5_
   obtain ⟨p3_,_⟩:=(hcl.get 4 (by decide)) p4_
   obtain ⟨p1_,p2_,_⟩:=(hcl.get 3 (by decide)) p3_
   have q7_:=nz hcl 7 0 hD
   have q8_:=nz hcl 8 0 hD
   have q9_:=nz hcl 9 0 q7_
   have q10_:=nz hcl 10 0 q8_
   simp only [hD,p0_,p1_,p2_,p3_,p4_,p5_,q7_,q8_,q9_,q10_,cq,oT] at ht hs
   subst ht
   refine Qab (v:=tuple #[int .i64 r142.1,int .i64 r142.2]) rfl rfl rfl (g_d rfl ?_)
   try dsimp only [set0,setS]
   refine hk _ _ ⟨O,?_,hs.cast ?_⟩<;>simp only [oT,lq,cq,Nat.reduceBEq,p0_,p1_,p2_,p3_,p4_,p5_,q7_,q8_,q9_,q10_]
  ·
   rintro D t w hD hp hcl ⟨O,ht,hs⟩ rest hk
   obtain ⟨p6_,_⟩:=hp
   obtain ⟨p5_,_⟩:=(hcl.get 6 (by decide)) p6_
   obtain ⟨p0_,p4_,_⟩:=(hcl.get 5 (by decide)) p5_
   obtain ⟨p3_,_⟩:=(hcl.get 4 (by decide)) p4_
   obtain ⟨p1_,p2_,_⟩:=(hcl.get 3 (by decide)) p3_
   have q9_:=nz hcl 9 0 hD
   have q10_:=nz hcl 10 1 q9_
   simp only [hD,p0_,p1_,p2_,p3_,p4_,p5_,p6_,q9_,q10_,cq,oT] at ht hs
   subst ht
   refine Qab (v:=int .i64 r142.1) rfl rfl rfl (g_d rfl ?_)
   try dsimp only [set0,setS]
   refine hk _ _ ⟨O,?_,hs.cast ?_⟩<;>simp only [oT,lq,cq,Nat.reduceBEq,p0_,p1_,p2_,p3_,p4_,p5_,p6_,q9_,q10_]
  ·
   rintro D t w hD hp hcl ⟨O,ht,hs⟩ rest hk
   obtain ⟨p6_,_⟩:=hp
   obtain ⟨p5_,_⟩:=(hcl.get 6 (by decide)) p6_
   obtain ⟨p0_,p4_,_⟩:=(hcl.get 5 (by decide)) p5_
   obtain ⟨p3_,_⟩:=(hcl.get 4 (by decide)) p4_
   obtain ⟨p1_,p2_,_⟩:=(hcl.get 3 (by decide)) p3_
   have q10_:=nz hcl 10 0 hD
   simp only [hD,p0_,p1_,p2_,p3_,p4_,p5_,p6_,q10_,cq,oT] at ht hs
   subst ht
   refine Qab (v:=int .i64 r142.2) rfl rfl rfl (g_d rfl ?_)
   try dsimp only [set0,setS]
   refine hk _ _ ⟨O,?_,hs.cast ?_⟩<;>simp only [oT,lq,cq,Nat.reduceBEq,p0_,p1_,p2_,p3_,p4_,p5_,p6_,q10_]
  ·
   rintro D t w hD hp hcl ⟨O,ht,hs⟩ rest hk
   obtain ⟨p7_,p5_,p0_,p1_,p2_,p3_,p4_,_,p6_,_,_⟩:=hp
   have q10_:=nz hcl 10 1 hD
   simp only [hD,p0_,p1_,p2_,p3_,p4_,p5_,p6_,p7_,q10_,cq,oT] at ht hs
   subst ht
   refine Qab (v:=int .i64 r142.1) rfl rfl rfl (g_d rfl ?_)
   try dsimp only [set0,setS]
   refine hk _ _ ⟨O,?_,hs.cast ?_⟩<;>simp only [oT,lq,cq,Nat.reduceBEq,p0_,p1_,p2_,p3_,p4_,p5_,p6_,p7_,q10_]
  ·
   rintro D t w hD hp hcl ⟨O,ht,hs⟩ rest hk
   obtain ⟨p8_,p9_,p0_,p1_,p2_,p3_,p4_,p5_,p6_,p7_,_,_,_⟩:=hp
   simp only [hD,p0_,p1_,p2_,p3_,p4_,p5_,p6_,p7_,p8_,p9_,cq,oT] at ht hs
   subst ht
   refine Qab (v:=int .i64 r142.2) rfl rfl rfl (g_d rfl ?_)
   try dsimp only [set0,setS]
   refine hk _ _ ⟨O,?_,hs.cast ?_⟩<;>simp only [oT,lq,cq,Nat.reduceBEq,p0_,p1_,p2_,p3_,p4_,p5_,p6_,p7_,p8_,p9_]
  intro D t w hall hI
  obtain ⟨O,ht,hs⟩:=hI
  have p0_:=hall 0 (by decide)
  have p1_:=hall 1 (by decide)
  have p2_:=hall 2 (by decide)
  have p3_:=hall 3 (by decide)
  have p4_:=hall 4 (by decide)
  have p5_:=hall 5 (by decide)
  have p6_:=hall 6 (by decide)
  have p7_:=hall 7 (by decide)
  have p8_:=hall 8 (by decide)
  have p9_:=hall 9 (by decide)
  have p10_:=hall 10 (by decide)
  simp only [p0_,p1_,p2_,p3_,p4_,p5_,p6_,p7_,p8_,p9_,p10_,cq,oT] at ht hs
  subst ht
  refine Qag (Qan [0,1,2,3,4,5,6] rfl ?_)
  refine Qab (v:=int .i64 r142.2) rfl rfl rfl (g_d rfl ?_)
  refine QaR (B:=r142.2 !=0) rfl rfl rfl ?_ ?_
  ·
   intro hb
   rw [if_neg (b_bne_t hb)] at H
   refine g_d rfl ?_
   try dsimp only [set0,setS]
   refine Qab (v:=bool true) rfl rfl rfl (g_d rfl (Qal rfl rfl (g_d rfl (Qal rfl rfl (g_d rfl (Qal rfl rfl (g_d rfl ?_)))))))
   refine Qab (v:=bool true) rfl rfl rfl (g_d rfl ?_)
   try dsimp only [set0,setS]
   refine Qaa (Qaw rfl (Qag (Qan [0] rfl ?_)))
   refine Qab (v:=bool false) rfl rfl rfl (g_d rfl (Qaa ?_))
   obtain rfl:=QsJ H
   subst Hx1_
   have H:=QsJ Hr1_
   subst H
   refine QaK Try.func5 (v:=bool false) (res1 rfl rfl) ?_
   have hs:St _ [] _:=St.take (Γ':=[_,_,_]) hs
   exact ⟨_,rfl,rfl,hs⟩
  intro hb
  rw [if_pos (b_bne_f hb)] at H
  refine g_d rfl ?_
  try dsimp only [set0,setS]
  refine Qab (v:=bool false) rfl rfl rfl (g_d rfl ?_)
  refine Qab (v:=int .i64 r142.1) rfl rfl rfl (g_d rfl ?_)
  refine Qab (v:=int .i64 x141) rfl rfl rfl (g_d rfl ?_)
  refine QaR (B:=r142.1 !=x141) rfl rfl rfl ?_ ?_
  ·
   intro hb
   rw [if_neg (b_bne_t hb)] at H
   refine g_d rfl ?_
   refine Qab (v:=bool true) rfl rfl rfl (g_d rfl ?_)
   try dsimp only [set0,setS]
   refine Qaa (Qaw rfl (Qag (Qan [0] rfl ?_)))
   refine Qab (v:=bool false) rfl rfl rfl (g_d rfl (Qaa ?_))
   obtain rfl:=QsJ H
   subst Hx1_
   have H:=QsJ Hr1_
   subst H
   refine QaK Try.func5 (v:=bool false) (res1 rfl rfl) ?_
   have hs:St _ [] _:=St.take (Γ':=[_,_,_]) hs
   exact ⟨_,rfl,rfl,hs⟩
  intro hb
  rw [if_pos (b_bne_f hb)] at H
  refine g_d rfl ?_
  refine Qab (v:=bool false) rfl rfl rfl (g_d rfl ?_)
  try dsimp only [set0,setS]
  refine Qaa (Qax rfl (QaS ?_))
  refine Qa5 (Qan [0,1,2] rfl ?_)
  refine Qab (v:=int .i64 x141) rfl rfl rfl (g_d rfl ?_)
  refine Qab (v:=int .i64 (i64w (x141+1))) rfl rfl rfl (g_d rfl ?_)
  refine Qab (v:=int .i64 (i64w (x141+1))) rfl rfl rfl (g_d rfl ?_)
  try dsimp only [set0,setS]
  refine Qaa ?_
  obtain rfl:=QsJ H
  have hs:=hs.pull 2 rfl
  have hs:=hs.pull 2 rfl
  have hs:=hs.pull 2 rfl
  have hs:St _ [_,_,_] _:=St.take (Γ':=[]) hs
  exact ih1_ _ _ ⟨i64w (x141+1),Hx1_,rfl,hs⟩
 intro hb
 rw [if_neg (b_dec_f hb)] at H
 refine g_d rfl ?_
 try dsimp only [set0,setS]
 refine Qaa (Qax rfl ?_)
 obtain rfl:=QsJ H
 subst Hx1_
 have hs:=hs.pull 2 rfl
 have hs:=hs.pull 2 rfl
 have hs:=hs.pull 2 rfl
 have hs:St _ [_,_,_] _:=St.take (Γ':=[]) hs
 refine QbG rfl ?_
 exact ha1_ _ _ ⟨Hr1_,rfl,hs⟩
end Go.Proofs.YtgpdpedpmhonkaaX
