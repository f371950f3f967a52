import Derived.Test.YtgpdpedpmhonkaaProg
import Derived.Test.YtgpdpedpmhonkaaP3
import Derived.Test.YtgpdpedpmhonkaaP4
import Derived.Test.YtgpdpedpmhonkaaP12
namespace Go.Proofs.YtgpdpedpmhonkaaX
open Go Go.RowKit Go.Proofs
open Go.Value (int pointer bool agg slice string tuple)
set_option maxHeartbeats 8000000
set_option maxRecDepth 100000
set_option linter.unusedVariables false
set_option linter.unusedSimpArgs false
def QaH.post (wb:World) (Z:As) (b2:Nat) (r:(Bool×(List (Qad×Bool)))) (v:Value) (w:World):Prop:=v=bool r.1∧St wb [MapAs b2 QaE bool r.2,Z] w
def Qb3.post (wb:World) (Z:As) (b2:Nat) (r:(Bool×(List (Qad×Bool)))) (v:Value) (w:World):Prop:=v=bool r.1∧St wb [MapAs b2 QaE bool r.2,Z] w
theorem Qb3.calls {N:Nat} {self:(List (Qad×Bool))→Qac→Int→Option (Bool×(List (Qad×Bool)))} (ih:∀ (a1:(List (Qad×Bool))) (a4:Qac) (a5:Int) (b2:Nat) (wb:World) (Z:As) (w0:World) (r:(Bool×(List (Qad×Bool)))) (hs:St wb [MapAs b2 QaE bool a1,Z] w0),self a1 a4 a5=some r→Calls Try.prog 32 #[Value.map (some b2),agg (Qaf a4).toArray,int .i64 a5] w0 fun e w=>∃ v,e= .returned v∧QaH.post wb Z b2 r v w) {a1:(List (Qad×Bool))} {a4:Qac} {a5:Qas} {a6:Int} {b2:Nat} {wb:World} {Z:As} {w0:World} {r:(Bool×(List (Qad×Bool)))} (hs:St wb [MapAs b2 QaE bool a1,Z] w0) (H:Qb3.f N self a1 a4 a5 a6=some r):
 Calls Try.prog 62 #[Value.map (some b2),agg (Qaf a4).toArray,agg (QaA a5).toArray,int .i64 a6] w0 fun e w=>∃ v,e= .returned v∧Qb3.post wb Z b2 r v w:=by
 unfold Qb3.f at H
 refine calls_of_g (n:=30) Try.func62 rfl rfl ?_
 show G _ _ _ _ [_,_,_,_,_,_,_,_,_,_,_,_,_,_,_,_,_,_,_,_,_,_,_,_,_,_,_,_,_,_,_,_,_,_] _
 refine Qag (Qan [0,1,2] rfl ?_)
 refine Qbw hs rfl rfl (cs:=(Qaf a4)) rfl rfl ?_
 intro b7 w hs
 refine Qbw hs rfl rfl (cs:=(QaA a5)) rfl rfl ?_
 intro b9 w hs
 refine Qab (v:=bool false) rfl rfl rfl ?_
 show G _ _ _ _ [_,_,_,_,_,_,_,_,_,_,_,_,_,_,_,_,_,_,_,_,_,_,_,_,_,_,_,_,_,_,_,_,_,_] _
 refine Qaa (Qag (Qan [0,1,2,3,4,5,6,7,8,9,10,11,12,13,14,15,16,17,18,19,20,21,22,23,24,25] rfl ?_))
 refine Qab (v:=Value.map (some b2)) rfl rfl rfl ?_
 refine QaG rfl rfl (es:=(Qaf a4)) rfl rfl (fun _=>rfl) (n:=5) (fun _=>rfl) (Qbc.len _) (cells_all (hs.cells 1 rfl)) ?_
 refine QaG rfl rfl (es:=(QaA a5)) rfl rfl (fun _=>rfl) (n:=8) (fun _=>rfl) (Qco.len _) (cells_all (hs.cells 0 rfl)) ?_
 obtain ⟨r11,Hr11,H⟩:=bind_get H
 refine QaP (args:=[agg (Qaf a4).toArray,agg (QaA a5).toArray,int .i64 (-1)]) rfl rfl (QaT rfl (callFunc_enter Try.func79 rfl rfl) rfl) (QaM.calls (a1:=a4) (a2:=a5) (a3:=(-1)) Hr11) ?_
 rintro _ w ⟨rfl,hs2⟩
 have hs:St _ [_,_,_,_] _:=hs.call hs2
 show G _ _ _ _ [_,_,_,_,_,_,_,_,_,_,_,_,_,_,_,_,_,_,_,_,_,_,_,_,_,_,_,_,_,_,_,_,_,_] _
 refine Qab (v:=int .i64 a6) rfl rfl rfl ?_
 refine Qab (v:=int .i64 (i64w (a6 - 1))) rfl rfl rfl ?_
 obtain ⟨r12,Hr12,H⟩:=bind_get H
 have hs:St _ [_,_,_,_] _:=hs.pull 2 rfl
 have hs:=hs.pack 1
 refine QaP (args:=[Value.map (some b2),agg (Qaf r11).toArray,int .i64 (i64w (a6 - 1))]) rfl rfl (QaT rfl (callFunc_enter Try.func32 rfl rfl) rfl) (ih a1 r11 (i64w (a6 - 1)) _ _ _ _ _ hs Hr12) ?_
 rintro _ w ⟨rfl,hs⟩
 have hs:=St.unpack (Γ:=[_]) hs
 have hs:St _ [_,_,_,_] _:=hs
 generalize hb1_:r12.1=b_ at H ⊢
 cases b_ with
 |true=>
  rw [if_pos rfl] at H
  refine Qab (v:=bool true) rfl rfl rfl ?_
  refine Qab (v:=Value.map (some b2)) rfl rfl rfl ?_
  refine QaG rfl rfl (es:=(Qaf a4)) rfl rfl (fun _=>rfl) (n:=5) (fun _=>rfl) (Qbc.len _) (cells_all (hs.cells 2 rfl)) ?_
  refine QaG rfl rfl (es:=(QaA a5)) rfl rfl (fun _=>rfl) (n:=8) (fun _=>rfl) (Qco.len _) (cells_all (hs.cells 1 rfl)) ?_
  show G _ _ _ _ [_,_,_,_,_,_,_,_,_,_,_,_,_,_,_,_,_,_,_,_,_,_,_,_,_,_,_,_,_,_,_,_,_,_] _
  obtain ⟨r13,Hr13,H⟩:=bind_get H
  refine QaP (args:=[agg (Qaf a4).toArray,agg (QaA a5).toArray,int .i64 0]) rfl rfl (QaT rfl (callFunc_enter Try.func79 rfl rfl) rfl) (QaM.calls (a1:=a4) (a2:=a5) (a3:=0) Hr13) ?_
  rintro _ w ⟨rfl,hs2⟩
  have hs:St _ [_,_,_,_] _:=hs.call hs2
  refine Qab (v:=int .i64 a6) rfl rfl rfl ?_
  refine Qab (v:=int .i64 (i64w (a6 - 1))) rfl rfl rfl ?_
  obtain ⟨r14,Hr14,H⟩:=bind_get H
  have hs:St _ [_,_,_,_] _:=hs.pull 0 rfl
  have hs:=hs.pack 1
  refine QaP (args:=[Value.map (some b2),agg (Qaf r13).toArray,int .i64 (i64w (a6 - 1))]) rfl rfl (QaT rfl (callFunc_enter Try.func32 rfl rfl) rfl) (ih r12.2 r13 (i64w (a6 - 1)) _ _ _ _ _ hs Hr14) ?_
  rintro _ w ⟨rfl,hs⟩
  have hs:=St.unpack (Γ:=[_]) hs
  have hs:St _ [_,_,_,_] _:=hs
  show G _ _ _ _ [_,_,_,_,_,_,_,_,_,_,_,_,_,_,_,_,_,_,_,_,_,_,_,_,_,_,_,_,_,_,_,_,_,_] _
  refine QaR (B:=r14.1) rfl rfl rfl ?_ ?_
  ·
   intro hb
   rw [if_pos (b_var_t hb)] at H
   show G _ _ _ _ [_,_,_,_,_,_,_,_,_,_,_,_,_,_,_,_,_,_,_,_,_,_,_,_,_,_,_,_,_,_,_,_,_,_] _
   refine Qab (v:=bool true) rfl rfl rfl ?_
   refine Qab (v:=Value.map (some b2)) rfl rfl rfl ?_
   refine QaG rfl rfl (es:=(Qaf a4)) rfl rfl (fun _=>rfl) (n:=5) (fun _=>rfl) (Qbc.len _) (cells_all (hs.cells 2 rfl)) ?_
   refine QaG rfl rfl (es:=(QaA a5)) rfl rfl (fun _=>rfl) (n:=8) (fun _=>rfl) (Qco.len _) (cells_all (hs.cells 1 rfl)) ?_
   obtain ⟨r15,Hr15,H⟩:=bind_get H
   refine QaP (args:=[agg (Qaf a4).toArray,agg (QaA a5).toArray,int .i64 1]) rfl rfl (QaT rfl (callFunc_enter Try.func79 rfl rfl) rfl) (QaM.calls (a1:=a4) (a2:=a5) (a3:=1) Hr15) ?_
   rintro _ w ⟨rfl,hs2⟩
   have hs:St _ [_,_,_,_] _:=hs.call hs2
   show G _ _ _ _ [_,_,_,_,_,_,_,_,_,_,_,_,_,_,_,_,_,_,_,_,_,_,_,_,_,_,_,_,_,_,_,_,_,_] _
   refine Qab (v:=int .i64 a6) rfl rfl rfl ?_
   refine Qab (v:=int .i64 (i64w (a6 - 1))) rfl rfl rfl ?_
   obtain ⟨r16,Hr16,H⟩:=bind_get H
   have hs:St _ [_,_,_,_] _:=hs.pull 0 rfl
   have hs:=hs.pack 1
   refine QaP (args:=[Value.map (some b2),agg (Qaf r15).toArray,int .i64 (i64w (a6 - 1))]) rfl rfl (QaT rfl (callFunc_enter Try.func32 rfl rfl) rfl) (ih r14.2 r15 (i64w (a6 - 1)) _ _ _ _ _ hs Hr16) ?_
   rintro _ w ⟨rfl,hs⟩
   have hs:=St.unpack (Γ:=[_]) hs
   have hs:St _ [_,_,_,_] _:=hs
   refine Qab (v:=bool r16.1) rfl rfl rfl ?_
   show G _ _ _ _ [_,_,_,_,_,_,_,_,_,_,_,_,_,_,_,_,_,_,_,_,_,_,_,_,_,_,_,_,_,_,_,_,_,_] _
   refine Qab (v:=bool r16.1) rfl rfl rfl (Qaa ?_)
   obtain rfl:=QsJ H
   refine QaK Try.func62 (v:=bool r16.1) (res1 rfl rfl) ?_
   have hs:=hs.pull 3 rfl
   have hs:=hs.pull 1 rfl
   have hs:St _ [_,_] _:=St.take (Γ':=[_,_]) hs
   exact ⟨_,rfl,rfl,hs⟩
  intro hb
  rw [if_neg (b_var_f hb)] at H
  refine Qab (v:=bool false) rfl rfl rfl (Qal rfl rfl (Qal rfl rfl (Qal rfl rfl ?_)))
  show G _ _ _ _ [_,_,_,_,_,_,_,_,_,_,_,_,_,_,_,_,_,_,_,_,_,_,_,_,_,_,_,_,_,_,_,_,_,_] _
  refine Qal rfl rfl (Qal rfl rfl (Qal rfl rfl (Qal rfl rfl ?_)))
  show G _ _ _ _ [_,_,_,_,_,_,_,_,_,_,_,_,_,_,_,_,_,_,_,_,_,_,_,_,_,_,_,_,_,_,_,_,_,_] _
  refine Qab (v:=bool false) rfl rfl rfl ?_
  refine Qab (v:=bool false) rfl rfl rfl (Qaa ?_)
  obtain rfl:=QsJ H
  refine QaK Try.func62 (v:=bool false) (res1 rfl rfl) ?_
  have hs:=hs.pull 3 rfl
  have hs:=hs.pull 1 rfl
  have hs:St _ [_,_] _:=St.take (Γ':=[_,_]) hs
  exact ⟨_,rfl,rfl,hs⟩
 |false=>
  rw [if_neg Bool.false_ne_true] at H
  refine Qab (v:=bool false) rfl rfl rfl (Qal rfl rfl (Qal rfl rfl ?_))
  show G _ _ _ _ [_,_,_,_,_,_,_,_,_,_,_,_,_,_,_,_,_,_,_,_,_,_,_,_,_,_,_,_,_,_,_,_,_,_] _
  refine Qal rfl rfl (Qal rfl rfl (Qal rfl rfl (Qal rfl rfl ?_)))
  show G _ _ _ _ [_,_,_,_,_,_,_,_,_,_,_,_,_,_,_,_,_,_,_,_,_,_,_,_,_,_,_,_,_,_,_,_,_,_] _
  refine Qal rfl rfl ?_
  refine Qab (v:=bool false) rfl rfl rfl ?_
  refine Qab (v:=bool false) rfl rfl rfl (Qal rfl rfl (Qal rfl rfl ?_))
  show G _ _ _ _ [_,_,_,_,_,_,_,_,_,_,_,_,_,_,_,_,_,_,_,_,_,_,_,_,_,_,_,_,_,_,_,_,_,_] _
  refine Qal rfl rfl (Qal rfl rfl (Qal rfl rfl (Qal rfl rfl ?_)))
  show G _ _ _ _ [_,_,_,_,_,_,_,_,_,_,_,_,_,_,_,_,_,_,_,_,_,_,_,_,_,_,_,_,_,_,_,_,_,_] _
  refine Qal rfl rfl ?_
  refine Qab (v:=bool false) rfl rfl rfl ?_
  refine Qab (v:=bool false) rfl rfl rfl ?_
  show G _ _ _ _ [_,_,_,_,_,_,_,_,_,_,_,_,_,_,_,_,_,_,_,_,_,_,_,_,_,_,_,_,_,_,_,_,_,_] _
  refine Qaa ?_
  obtain rfl:=QsJ H
  refine QaK Try.func62 (v:=bool false) (res1 rfl rfl) ?_
  have hs:=hs.pull 3 rfl
  have hs:=hs.pull 1 rfl
  have hs:St _ [_,_] _:=St.take (Γ':=[_,_]) hs
  exact ⟨_,rfl,rfl,hs⟩
def Qb7.post (wb:World) (Z:As) (b4:Nat) (b3:Nat) (b4:Nat) (b8:Nat) (b11:Nat) (b14:Nat) (r:(Bool×(List (Qad×Bool))×(List (Qad×Bool))×Qac×Int×Bool)) (v:Value) (w:World):Prop:=v=bool r.1∧St wb [MapAs b4 QaE bool r.2.1,Cells b3 ([Value.map (some b4)]) 67,Cells b8 (Qaf r.2.2.2.1) 71,Cells b11 ((encI .i64) r.2.2.2.2.1) 2,Cells b14 (encB r.2.2.2.2.2) 4,Z] w
theorem Qb7.calls {N:Nat} {self:(List (Qad×Bool))→Qac→Int→Option (Bool×(List (Qad×Bool)))} (ih:∀ (a1:(List (Qad×Bool))) (a4:Qac) (a5:Int) (b2:Nat) (wb:World) (Z:As) (w0:World) (r:(Bool×(List (Qad×Bool)))) (hs:St wb [MapAs b2 QaE bool a1,Z] w0),self a1 a4 a5=some r→Calls Try.prog 32 #[Value.map (some b2),agg (Qaf a4).toArray,int .i64 a5] w0 fun e w=>∃ v,e= .returned v∧QaH.post wb Z b2 r v w) {a1:Qas} {a2:(List (Qad×Bool))} {a7:Qac} {a10:Int} {a13:Bool} {b3:Nat} {b4:Nat} {b8:Nat} {b11:Nat} {b14:Nat} {wb:World} {Z:As} {w0:World} {r:(Bool×(List (Qad×Bool))×(List (Qad×Bool))×Qac×Int×Bool)} (hs:St wb [MapAs b4 QaE bool a2,Cells b3 ([Value.map (some b4)]) 67,Cells b8 (Qaf a7) 71,Cells b11 ((encI .i64) a10) 2,Cells b14 (encB a13) 4,Z] w0) (H:Qb7.f N self a1 a2 a7 a10 a13=some r):
 Calls Try.prog 61 #[agg (QaA a1).toArray,pointer (some ⟨b3,0,none⟩),pointer (some ⟨b8,0,none⟩),pointer (some ⟨b11,0,none⟩),pointer (some ⟨b14,0,none⟩)] w0 fun e w=>∃ v,e= .returned v∧Qb7.post wb Z b4 b3 b4 b8 b11 b14 r v w:=by
 unfold Qb7.f at H
 refine calls_of_g (n:=9) Try.func61 rfl rfl ?_
 show G _ _ _ _ [_,_,_,_,_,_,_,_,_,_,_,_,_,_] _
 refine Qag (Qan [0,1] rfl ?_)
 refine Qbw hs rfl rfl (cs:=(QaA a1)) rfl rfl ?_
 intro b16 w hs
 refine Qab (v:=bool false) rfl rfl rfl (Qaa (Qag (Qan [0,1,2,3,4,5] rfl ?_)))
 refine Qaz rfl rfl (v:=Value.map (some b4)) rfl rfl (fun _=>rfl) (cells_load (hs.cells 2 rfl) 0 1 rfl) ?_
 show G _ _ _ _ [_,_,_,_,_,_,_,_,_,_,_,_,_,_] _
 refine QaG rfl rfl (es:=(Qaf a7)) rfl rfl (fun _=>rfl) (n:=5) (fun _=>rfl) (Qbc.len _) (cells_all (hs.cells 3 rfl)) ?_
 refine QaG rfl rfl (es:=(QaA a1)) rfl rfl (fun _=>rfl) (n:=8) (fun _=>rfl) (Qco.len _) (cells_all (hs.cells 0 rfl)) ?_
 refine Qaz rfl rfl (v:=int .i64 a10) rfl rfl (fun _=>rfl) (cells_load (hs.cells 4 rfl) 0 1 rfl) ?_
 show G _ _ _ _ [_,_,_,_,_,_,_,_,_,_,_,_,_,_] _
 obtain ⟨r18,Hr18,H⟩:=bind_get H
 have hs:St _ [_,_,_,_,_,_,_] _:=hs.pull 1 rfl
 have hs:=hs.pack 1
 refine QaP (args:=[Value.map (some b4),agg (Qaf a7).toArray,agg (QaA a1).toArray,int .i64 a10]) rfl rfl (QaT rfl (callFunc_enter Try.func62 rfl rfl) rfl) (Qb3.calls ih (a1:=a2) (a4:=a7) (a5:=a1) (a6:=a10) hs Hr18) ?_
 rintro _ w ⟨rfl,hs⟩
 have hs:=St.unpack (Γ:=[_]) hs
 have hs:St _ [_,_,_,_,_,_,_] _:=hs
 have hs:St _ [_,_,_,_,_,_,_] _:=hs.pull 5 rfl
 refine Qa9 (n:=1) hs (fkB.len _) rfl rfl (vs:=(encB r18.1)) rfl rfl rfl (fun _=>rfl) (fkB.len _) (fkB.one _) ?_
 intro w hs
 refine Qaa (Qag (Qan [0,1,2] rfl ?_))
 refine Qaz rfl rfl (v:=bool r18.1) rfl rfl (fun _=>rfl) (cells_load (hs.cells 0 rfl) 0 1 rfl) ?_
 refine Qab (v:=bool (!r18.1)) rfl rfl rfl ?_
 show G _ _ _ _ [_,_,_,_,_,_,_,_,_,_,_,_,_,_] _
 refine Qab (v:=bool (!r18.1)) rfl rfl rfl (Qaa ?_)
 obtain rfl:=QsJ H
 refine QaK Try.func61 (v:=bool (!r18.1)) (res1 rfl rfl) ?_
 have hs:=hs.pull 6 rfl
 have hs:=hs.pull 1 rfl
 have hs:=hs.pull 6 rfl
 have hs:=hs.pull 6 rfl
 have hs:=hs.pull 6 rfl
 have hs:=hs.pull 5 rfl
 have hs:St _ [_,_,_,_,_,_] _:=St.take (Γ':=[_]) hs
 exact ⟨_,rfl,rfl,hs⟩
def Qbl.post (wb:World) (Z:As) (b5:Nat) (b4:Nat) (b5:Nat) (b9:Nat) (b12:Nat) (b15:Nat) (r:(Bool×(List (Qad×Bool))×(List (Qad×Bool))×Qac×Int×Bool)) (v:Value) (w:World):Prop:=v=bool r.1∧St wb [MapAs b5 QaE bool r.2.1,Cells b4 ([Value.map (some b5)]) 67,Cells b9 (Qaf r.2.2.2.1) 71,Cells b12 ((encI .i64) r.2.2.2.2.1) 2,Cells b15 (encB r.2.2.2.2.2) 4,Z] w
theorem Qbl.calls {N:Nat} {self:(List (Qad×Bool))→Qac→Int→Option (Bool×(List (Qad×Bool)))} (ih:∀ (a1:(List (Qad×Bool))) (a4:Qac) (a5:Int) (b2:Nat) (wb:World) (Z:As) (w0:World) (r:(Bool×(List (Qad×Bool)))) (hs:St wb [MapAs b2 QaE bool a1,Z] w0),self a1 a4 a5=some r→Calls Try.prog 32 #[Value.map (some b2),agg (Qaf a4).toArray,int .i64 a5] w0 fun e w=>∃ v,e= .returned v∧QaH.post wb Z b2 r v w) {a1:Qac} {a2:Qas} {a3:(List (Qad×Bool))} {a8:Qac} {a11:Int} {a14:Bool} {b4:Nat} {b5:Nat} {b9:Nat} {b12:Nat} {b15:Nat} {wb:World} {Z:As} {w0:World} {r:(Bool×(List (Qad×Bool))×(List (Qad×Bool))×Qac×Int×Bool)} (hs:St wb [MapAs b5 QaE bool a3,Cells b4 ([Value.map (some b5)]) 67,Cells b9 (Qaf a8) 71,Cells b12 ((encI .i64) a11) 2,Cells b15 (encB a14) 4,Z] w0) (H:Qbl.f N self a1 a2 a3 a8 a11 a14=some r):
 Calls Try.prog 78 #[agg (Qaf a1).toArray,agg (QaA a2).toArray,Value.func (Fn.func 61) #[] #[pointer (some ⟨b4,0,none⟩),pointer (some ⟨b9,0,none⟩),pointer (some ⟨b12,0,none⟩),pointer (some ⟨b15,0,none⟩)]] w0 fun e w=>∃ v,e= .returned v∧Qbl.post wb Z b5 b4 b5 b9 b12 b15 r v w:=by
 unfold Qbl.f at H
 refine calls_of_g (n:=60) Try.func78 rfl rfl ?_
 show G _ _ _ _ (_::_::_::_::_::_::_::_::_::_::_::_::_::_::_::_::_::_::_::_::_::_::_::_::_::_::_::_::_::_::_::_::_::_::_::_::_::_::_::_::_::_::_::_::_::_::_::_::_::_::_::_::_::_::_::_::_::_::_::_::_::_::_::[]) _
 refine Qag (Qan [0,1,2] rfl ?_)
 refine Qbw hs rfl rfl (cs:=(Qaf a1)) rfl rfl ?_
 intro b17 w hs
 refine g_d rfl ?_
 try dsimp only [set0,setS]
 refine Qbw hs rfl rfl (cs:=(QaA a2)) rfl rfl ?_
 intro b19 w hs
 refine g_d rfl ?_
 refine Qab (v:=bool false) rfl rfl rfl (g_d rfl ?_)
 try dsimp only [set0,setS]
 refine Qaa (Qag ?_)
 obtain ⟨gd1,H⟩:=ite_get H
 obtain ⟨gd2,H⟩:=ite_get H
 obtain ⟨gd3,H⟩:=ite_get H
 obtain ⟨gd4,H⟩:=ite_get H
 obtain ⟨gd5,H⟩:=ite_get H
 obtain ⟨gd6,H⟩:=ite_get H
 refine QbT ?_
 intro T hT
 refine Qcg (n:=24) rfl [0,1,2,3,4,5,6,7,8,9,10,11,12,13,14,15,16,17,18,19,20,21,22,23] [0,1,2,3,4,5,6,7,8,9,10,12,13,14,15,16,17,18,19,20,21,22,11,23] rfl rfl (Inv:=fun D t w=>∃ O:Nat→Value,t=(agg (Qaf a1).toArray::agg (QaA a2).toArray::Value.func (Fn.func 61) #[] #[pointer (some ⟨b4,0,none⟩),pointer (some ⟨b9,0,none⟩),pointer (some ⟨b12,0,none⟩),pointer (some ⟨b15,0,none⟩)]::pointer (some ⟨b17,0,none⟩)::pointer (some ⟨b19,0,none⟩)::O 5::bool false::cnd (D 22) (int .i64 (i64w ((i64w ((a2.Qao.get 0 0)+(a2.Qao.get 1 0)))+(a2.Qao.get 2 0)))) (O 7)::cnd (D 23) (int .i64 (i64w ((i64w ((a2.Qaj.get 0 0)+(a2.Qaj.get 1 0)))+(a2.Qaj.get 2 0)))) (O 8)::cnd (D 0) (pointer (some ⟨b19,0,none⟩)) (O 9)::cnd (D 1) (pointer (some ⟨b19,0+(0:Int).toNat*1,none⟩)) (O 10)::cnd (D 2) (int .i64 (a2.Qao.get 0 0)) (O 11)::cnd (D 3) (pointer (some ⟨b19,0,none⟩)) (O 12)::cnd (D 4) (pointer (some ⟨b19,0+(1:Int).toNat*1,none⟩)) (O 13)::cnd (D 5) (int .i64 (a2.Qao.get 1 0)) (O 14)::cnd (D 6) (int .i64 (i64w ((a2.Qao.get 0 0)+(a2.Qao.get 1 0)))) (O 15)::cnd (D 7) (pointer (some ⟨b19,0,none⟩)) (O 16)::cnd (D 8) (pointer (some ⟨b19,0+(2:Int).toNat*1,none⟩)) (O 17)::cnd (D 9) (int .i64 (a2.Qao.get 2 0)) (O 18)::cnd (D 10) (int .i64 (i64w ((i64w ((a2.Qao.get 0 0)+(a2.Qao.get 1 0)))+(a2.Qao.get 2 0)))) (O 19)::cnd (D 11) (pointer (some ⟨b19,4,none⟩)) (O 20)::cnd (D 12) (pointer (some ⟨b19,4+(0:Int).toNat*1,none⟩)) (O 21)::cnd (D 13) (int .i64 (a2.Qaj.get 0 0)) (O 22)::cnd (D 14) (pointer (some ⟨b19,4,none⟩)) (O 23)::cnd (D 15) (pointer (some ⟨b19,4+(1:Int).toNat*1,none⟩)) (O 24)::cnd (D 16) (int .i64 (a2.Qaj.get 1 0)) (O 25)::cnd (D 17) (int .i64 (i64w ((a2.Qaj.get 0 0)+(a2.Qaj.get 1 0)))) (O 26)::cnd (D 18) (pointer (some ⟨b19,4,none⟩)) (O 27)::cnd (D 19) (pointer (some ⟨b19,4+(2:Int).toNat*1,none⟩)) (O 28)::cnd (D 20) (int .i64 (a2.Qaj.get 2 0)) (O 29)::cnd (D 21) (int .i64 (i64w ((i64w ((a2.Qaj.get 0 0)+(a2.Qaj.get 1 0)))+(a2.Qaj.get 2 0)))) (O 30)::O 31::O 32::O 33::O 34::O 35::O 36::O 37::O 38::O 39::oT O 4 (oT O 5 (O 60::O 61::O 62::[])))∧St wb [Cells b19 (QaA a2) 111,Cells b17 (Qaf a1) 71,MapAs b5 QaE bool a3,Cells b4 ([Value.map (some b5)]) 67,Cells b9 (Qaf a8) 71,Cells b12 ((encI .i64) a11) 2,Cells b15 (encB a14) 4,Z] w) ?_ ⟨⟨⟨⟨⟨⟨⟨⟨⟨⟨⟨⟨⟨⟨⟨⟨⟨⟨⟨⟨⟨⟨⟨⟨trivial,?_⟩,?_⟩,?_⟩,?_⟩,?_⟩,?_⟩,?_⟩,?_⟩,?_⟩,?_⟩,?_⟩,?_⟩,?_⟩,?_⟩,?_⟩,?_⟩,?_⟩,?_⟩,?_⟩,?_⟩,?_⟩,?_⟩,?_⟩,?_⟩ ?_
 ·
  intro w hh hbw
  have hs:=hs.samew hh hbw
  exact ⟨fun i=>T.getD i undef,(by subst hT;rfl),hs⟩
 ·
  rintro D t w hD hp hcl ⟨O,ht,hs⟩ rest hk
  have q1_:=nz hcl 1 0 hD
  have q2_:=nz hcl 2 0 q1_
  have q6_:=nz hcl 6 0 q2_
  have q10_:=nz hcl 10 0 q6_
  have q22_:=nz hcl 22 0 q10_
  have q23_:=nz hcl 23 1 q22_
  simp only [hD,q1_,q2_,q6_,q10_,q22_,q23_,cq,oT] at ht hs
  subst ht
  refine Qab (v:=pointer (some ⟨b19,0,none⟩)) rfl rfl rfl (g_d rfl ?_)
  try dsimp only [set0,setS]
  refine hk _ _ ⟨O,?_,hs.cast ?_⟩<;>simp only [oT,lq,cq,Nat.reduceBEq,q1_,q2_,q6_,q10_,q22_,q23_]
 ·
  rintro D t w hD hp hcl ⟨O,ht,hs⟩ rest hk
  obtain ⟨p0_,_⟩:=hp
  have q2_:=nz hcl 2 0 hD
  have q6_:=nz hcl 6 0 q2_
  have q10_:=nz hcl 10 0 q6_
  have q22_:=nz hcl 22 0 q10_
  have q23_:=nz hcl 23 1 q22_
  simp only [hD,p0_,q2_,q6_,q10_,q22_,q23_,cq,oT] at ht hs
  subst ht
  refine Qa1 (n:=0) (m:=1) rfl (fun _=>rfl) gd1.1 gd1.2 rfl rfl rfl rfl rfl (g_d rfl ?_)
  try dsimp only [set0,setS]
  refine hk _ _ ⟨O,?_,hs.cast ?_⟩<;>simp only [oT,lq,cq,Nat.reduceBEq,p0_,q2_,q6_,q10_,q22_,q23_]
 ·
  rintro D t w hD hp hcl ⟨O,ht,hs⟩ rest hk
  obtain ⟨p1_,_⟩:=hp
  obtain ⟨p0_,_⟩:=(hcl.get 1 (by decide)) p1_
  have q6_:=nz hcl 6 0 hD
  have q10_:=nz hcl 10 0 q6_
  have q22_:=nz hcl 22 0 q10_
  have q23_:=nz hcl 23 1 q22_
  simp only [hD,p0_,p1_,q6_,q10_,q22_,q23_,cq,oT] at ht hs
  subst ht
  refine Qaz rfl rfl (v:=int .i64 (a2.Qao.get 0 0)) rfl rfl (fun _=>rfl) (cells_load (hs.cells 0 rfl) _ _ (part_get (i:=0) (fkI .i64).len a2.Qao 0 gd1.1 gd1.2 [] ((encA (encI .i64)) a2.Qaj) (by simp [QaA,encI,encB,encS]) (by first|rfl|simp [encAI_len,encAB_len,encA_len]))) (g_d rfl ?_)
  try dsimp only [set0,setS]
  refine hk _ _ ⟨O,?_,hs.cast ?_⟩<;>simp only [oT,lq,cq,Nat.reduceBEq,p0_,p1_,q6_,q10_,q22_,q23_]
 ·
  rintro D t w hD hp hcl ⟨O,ht,hs⟩ rest hk
  have q4_:=nz hcl 4 0 hD
  have q5_:=nz hcl 5 0 q4_
  have q6_:=nz hcl 6 1 q5_
  have q10_:=nz hcl 10 0 q6_
  have q22_:=nz hcl 22 0 q10_
  have q23_:=nz hcl 23 1 q22_
  simp only [hD,q4_,q5_,q6_,q10_,q22_,q23_,cq,oT] at ht hs
  subst ht
  refine Qab (v:=pointer (some ⟨b19,0,none⟩)) rfl rfl rfl (g_d rfl ?_)
  try dsimp only [set0,setS]
  refine hk _ _ ⟨O,?_,hs.cast ?_⟩<;>simp only [oT,lq,cq,Nat.reduceBEq,q4_,q5_,q6_,q10_,q22_,q23_]
 ·
  rintro D t w hD hp hcl ⟨O,ht,hs⟩ rest hk
  obtain ⟨p3_,_⟩:=hp
  have q5_:=nz hcl 5 0 hD
  have q6_:=nz hcl 6 1 q5_
  have q10_:=nz hcl 10 0 q6_
  have q22_:=nz hcl 22 0 q10_
  have q23_:=nz hcl 23 1 q22_
  simp only [hD,p3_,q5_,q6_,q10_,q22_,q23_,cq,oT] at ht hs
  subst ht
  refine Qa1 (n:=1) (m:=1) rfl (fun _=>rfl) gd2.1 gd2.2 rfl rfl rfl rfl rfl (g_d rfl ?_)
  try dsimp only [set0,setS]
  refine hk _ _ ⟨O,?_,hs.cast ?_⟩<;>simp only [oT,lq,cq,Nat.reduceBEq,p3_,q5_,q6_,q10_,q22_,q23_]
 ·
  rintro D t w hD hp hcl ⟨O,ht,hs⟩ rest hk
  obtain ⟨p4_,_⟩:=hp
  obtain ⟨p3_,_⟩:=(hcl.get 4 (by decide)) p4_
  have q6_:=nz hcl 6 1 hD
  have q10_:=nz hcl 10 0 q6_
  have q22_:=nz hcl 22 0 q10_
  have q23_:=nz hcl 23 1 q22_
  simp only [hD,p3_,p4_,q6_,q10_,q22_,q23_,cq,oT] at ht hs
  subst ht
  refine Qaz rfl rfl (v:=int .i64 (a2.Qao.get 1 0)) rfl rfl (fun _=>rfl) (cells_load (hs.cells 0 rfl) _ _ (part_get (i:=1) (fkI .i64).len a2.Qao 0 gd2.1 gd2.2 [] ((encA (encI .i64)) a2.Qaj) (by simp [QaA,encI,encB,encS]) (by first|rfl|simp [encAI_len,encAB_len,encA_len]))) (g_d rfl ?_)
  try dsimp only [set0,setS]
  refine hk _ _ ⟨O,?_,hs.cast ?_⟩<;>simp only [oT,lq,cq,Nat.reduceBEq,p3_,p4_,q6_,q10_,q22_,q23_]
 ·
  rintro D t w hD hp hcl ⟨O,ht,hs⟩ rest hk
  obtain ⟨p2_,p5_,_⟩:=hp
  obtain ⟨p4_,_⟩:=(hcl.get 5 (by decide)) p5_
  obtain ⟨p3_,_⟩:=(hcl.get 4 (by decide)) p4_
  obtain ⟨p1_,_⟩:=(hcl.get 2 (by decide)) p2_
  obtain ⟨p0_,_⟩:=(hcl.get 1 (by decide)) p1_
  have q10_:=nz hcl 10 0 hD
  have q22_:=nz hcl 22 0 q10_
  have q23_:=nz hcl 23 1 q22_
  simp only [hD,p0_,p1_,p2_,p3_,p4_,p5_,q10_,q22_,q23_,cq,oT] at ht hs
  subst ht
  refine Qab (v:=int .i64 (i64w ((a2.Qao.get 0 0)+(a2.Qao.get 1 0)))) rfl rfl rfl (g_d rfl ?_)
  try dsimp only [set0,setS]
  refine hk _ _ ⟨O,?_,hs.cast ?_⟩<;>simp only [oT,lq,cq,Nat.reduceBEq,p0_,p1_,p2_,p3_,p4_,p5_,q10_,q22_,q23_]
 ·
  rintro D t w hD hp hcl ⟨O,ht,hs⟩ rest hk
  have q8_:=nz hcl 8 0 hD
  have q9_:=nz hcl 9 0 q8_
  have q10_:=nz hcl 10 1 q9_
  have q22_:=nz hcl 22 0 q10_
  have q23_:=nz hcl 23 1 q22_
  simp only [hD,q8_,q9_,q10_,q22_,q23_,cq,oT] at ht hs
  subst ht
  refine Qab (v:=pointer (some ⟨b19,0,none⟩)) rfl rfl rfl (g_d rfl ?_)
  try dsimp only [set0,setS]
  refine hk _ _ ⟨O,?_,hs.cast ?_⟩<;>simp only [oT,lq,cq,Nat.reduceBEq,q8_,q9_,q10_,q22_,q23_]
 ·
  rintro D t w hD hp hcl ⟨O,ht,hs⟩ rest hk
  obtain ⟨p7_,_⟩:=hp
  have q9_:=nz hcl 9 0 hD
  have q10_:=nz hcl 10 1 q9_
  have q22_:=nz hcl 22 0 q10_
  have q23_:=nz hcl 23 1 q22_
  simp only [hD,p7_,q9_,q10_,q22_,q23_,cq,oT] at ht hs
  subst ht
  refine Qa1 (n:=2) (m:=1) rfl (fun _=>rfl) gd3.1 gd3.2 rfl rfl rfl rfl rfl (g_d rfl ?_)
  try dsimp only [set0,setS]
  refine hk _ _ ⟨O,?_,hs.cast ?_⟩<;>simp only [oT,lq,cq,Nat.reduceBEq,p7_,q9_,q10_,q22_,q23_]
 ·
  rintro D t w hD hp hcl ⟨O,ht,hs⟩ rest hk
  obtain ⟨p8_,_⟩:=hp
  obtain ⟨p7_,_⟩:=(hcl.get 8 (by decide)) p8_
  have q10_:=nz hcl 10 1 hD
  have q22_:=nz hcl 22 0 q10_
  have q23_:=nz hcl 23 1 q22_
  simp only [hD,p7_,p8_,q10_,q22_,q23_,cq,oT] at ht hs
  subst ht
  refine Qaz rfl rfl (v:=int .i64 (a2.Qao.get 2 0)) rfl rfl (fun _=>rfl) (cells_load (hs.cells 0 rfl) _ _ (part_get (i:=2) (fkI .i64).len a2.Qao 0 gd3.1 gd3.2 [] ((encA (encI .i64)) a2.Qaj) (by simp [QaA,encI,encB,encS]) (by first|rfl|simp [encAI_len,encAB_len,encA_len]))) (g_d rfl ?_)
  try dsimp only [set0,setS]
  refine hk _ _ ⟨O,?_,hs.cast ?_⟩<;>simp only [oT,lq,cq,Nat.reduceBEq,p7_,p8_,q10_,q22_,q23_]
 ·
  rintro D t w hD hp hcl ⟨O,ht,hs⟩ rest hk
  obtain ⟨p6_,p9_,_⟩:=hp
  obtain ⟨p8_,_⟩:=(hcl.get 9 (by decide)) p9_
  obtain ⟨p7_,_⟩:=(hcl.get 8 (by decide)) p8_
  obtain ⟨p2_,p5_,_⟩:=(hcl.get 6 (by decide)) p6_
  obtain ⟨p4_,_⟩:=(hcl.get 5 (by decide)) p5_
  obtain ⟨p3_,_⟩:=(hcl.get 4 (by decide)) p4_
  obtain ⟨p1_,_⟩:=(hcl.get 2 (by decide)) p2_
  obtain ⟨p0_,_⟩:=(hcl.get 1 (by decide)) p1_
  have q22_:=nz hcl 22 0 hD
  have q23_:=nz hcl 23 1 q22_
  simp only [hD,p0_,p1_,p2_,p3_,p4_,p5_,p6_,p7_,p8_,p9_,q22_,q23_,cq,oT] at ht hs
  subst ht
  refine Qab (v:=int .i64 (i64w ((i64w ((a2.Qao.get 0 0)+(a2.Qao.get 1 0)))+(a2.Qao.get 2 0)))) rfl rfl rfl (g_d rfl ?_)
  try dsimp only [set0,setS]
  refine hk _ _ ⟨O,?_,hs.cast ?_⟩<;>simp only [oT,lq,cq,Nat.reduceBEq,p0_,p1_,p2_,p3_,p4_,p5_,p6_,p7_,p8_,p9_,q22_,q23_]
 ·
  rintro D t w hD hp hcl ⟨O,ht,hs⟩ rest hk
  have q12_:=nz hcl 12 0 hD
  have q13_:=nz hcl 13 0 q12_
  have q17_:=nz hcl 17 0 q13_
  have q21_:=nz hcl 21 0 q17_
  have q23_:=nz hcl 23 0 q21_
  simp only [hD,q12_,q13_,q17_,q21_,q23_,cq,oT] at ht hs
  subst ht
  refine Qab (v:=pointer (some ⟨b19,4,none⟩)) rfl rfl rfl (g_d rfl ?_)
  try dsimp only [set0,setS]
  refine hk _ _ ⟨O,?_,hs.cast ?_⟩<;>simp only [oT,lq,cq,Nat.reduceBEq,q12_,q13_,q17_,q21_,q23_]
 ·
  rintro D t w hD hp hcl ⟨O,ht,hs⟩ rest hk
  obtain ⟨p11_,_⟩:=hp
  have q13_:=nz hcl 13 0 hD
  have q17_:=nz hcl 17 0 q13_
  have q21_:=nz hcl 21 0 q17_
  have q23_:=nz hcl 23 0 q21_
  simp only [hD,p11_,q13_,q17_,q21_,q23_,cq,oT] at ht hs
  subst ht
  refine Qa1 (n:=0) (m:=1) rfl (fun _=>rfl) gd4.1 gd4.2 rfl rfl rfl rfl rfl (g_d rfl ?_)
  try dsimp only [set0,setS]
  refine hk _ _ ⟨O,?_,hs.cast ?_⟩<;>simp only [oT,lq,cq,Nat.reduceBEq,p11_,q13_,q17_,q21_,q23_]
 ·
  rintro D t w hD hp hcl ⟨O,ht,hs⟩ rest hk
  obtain ⟨p12_,_⟩:=hp
  obtain ⟨p11_,_⟩:=(hcl.get 12 (by decide)) p12_
  have q17_:=nz hcl 17 0 hD
  have q21_:=nz hcl 21 0 q17_
  have q23_:=nz hcl 23 0 q21_
  simp only [hD,p11_,p12_,q17_,q21_,q23_,cq,oT] at ht hs
  subst ht
  refine Qaz rfl rfl (v:=int .i64 (a2.Qaj.get 0 0)) rfl rfl (fun _=>rfl) (cells_load (hs.cells 0 rfl) _ _ (part_get (i:=0) (fkI .i64).len a2.Qaj 0 gd4.1 gd4.2 ((encA (encI .i64)) a2.Qao) [] (by simp [QaA,encI,encB,encS]) (by first|rfl|simp [encAI_len,encAB_len,encA_len]))) (g_d rfl ?_)
  try dsimp only [set0,setS]
  refine hk _ _ ⟨O,?_,hs.cast ?_⟩<;>simp only [oT,lq,cq,Nat.reduceBEq,p11_,p12_,q17_,q21_,q23_]
 ·
  rintro D t w hD hp hcl ⟨O,ht,hs⟩ rest hk
  have q15_:=nz hcl 15 0 hD
  have q16_:=nz hcl 16 0 q15_
  have q17_:=nz hcl 17 1 q16_
  have q21_:=nz hcl 21 0 q17_
  have q23_:=nz hcl 23 0 q21_
  simp only [hD,q15_,q16_,q17_,q21_,q23_,cq,oT] at ht hs
  subst ht
  refine Qab (v:=pointer (some ⟨b19,4,none⟩)) rfl rfl rfl (g_d rfl ?_)
  try dsimp only [set0,setS]
  refine hk _ _ ⟨O,?_,hs.cast ?_⟩<;>simp only [oT,lq,cq,Nat.reduceBEq,q15_,q16_,q17_,q21_,q23_]
 ·
  rintro D t w hD hp hcl ⟨O,ht,hs⟩ rest hk
  obtain ⟨p14_,_⟩:=hp
  have q16_:=nz hcl 16 0 hD
  have q17_:=nz hcl 17 1 q16_
  have q21_:=nz hcl 21 0 q17_
  have q23_:=nz hcl 23 0 q21_
  simp only [hD,p14_,q16_,q17_,q21_,q23_,cq,oT] at ht hs
  subst ht
  refine Qa1 (n:=1) (m:=1) rfl (fun _=>rfl) gd5.1 gd5.2 rfl rfl rfl rfl rfl (g_d rfl ?_)
  try dsimp only [set0,setS]
  refine hk _ _ ⟨O,?_,hs.cast ?_⟩<;>simp only [oT,lq,cq,Nat.reduceBEq,p14_,q16_,q17_,q21_,q23_]
 ·
  rintro D t w hD hp hcl ⟨O,ht,hs⟩ rest hk
  obtain ⟨p15_,_⟩:=hp
  obtain ⟨p14_,_⟩:=(hcl.get 15 (by decide)) p15_
  have q17_:=nz hcl 17 1 hD
  have q21_:=nz hcl 21 0 q17_
  have q23_:=nz hcl 23 0 q21_
  simp only [hD,p14_,p15_,q17_,q21_,q23_,cq,oT] at ht hs
  subst ht
  refine Qaz rfl rfl (v:=int .i64 (a2.Qaj.get 1 0)) rfl rfl (fun _=>rfl) (cells_load (hs.cells 0 rfl) _ _ (part_get (i:=1) (fkI .i64).len a2.Qaj 0 gd5.1 gd5.2 ((encA (encI .i64)) a2.Qao) [] (by simp [QaA,encI,encB,encS]) (by first|rfl|simp [encAI_len,encAB_len,encA_len]))) (g_d rfl ?_)
  try dsimp only [set0,setS]
  refine hk _ _ ⟨O,?_,hs.cast ?_⟩<;>simp only [oT,lq,cq,Nat.reduceBEq,p14_,p15_,q17_,q21_,q23_]
 ·
  rintro D t w hD hp hcl ⟨O,ht,hs⟩ rest hk
  obtain ⟨p13_,p16_,_⟩:=hp
  obtain ⟨p15_,_⟩:=(hcl.get 16 (by decide)) p16_
  obtain ⟨p14_,_⟩:=(hcl.get 15 (by decide)) p15_
  obtain ⟨p12_,_⟩:=(hcl.get 13 (by decide)) p13_
  obtain ⟨p11_,_⟩:=(hcl.get 12 (by decide)) p12_
  have q21_:=nz hcl 21 0 hD
  have q23_:=nz hcl 23 0 q21_
  simp only [hD,p11_,p12_,p13_,p14_,p15_,p16_,q21_,q23_,cq,oT] at ht hs
  subst ht
  refine Qab (v:=int .i64 (i64w ((a2.Qaj.get 0 0)+(a2.Qaj.get 1 0)))) rfl rfl rfl (g_d rfl ?_)
  try dsimp only [set0,setS]
  refine hk _ _ ⟨O,?_,hs.cast ?_⟩<;>simp only [oT,lq,cq,Nat.reduceBEq,p11_,p12_,p13_,p14_,p15_,p16_,q21_,q23_]
 ·
  rintro D t w hD hp hcl ⟨O,ht,hs⟩ rest hk
  have q19_:=nz hcl 19 0 hD
  have q20_:=nz hcl 20 0 q19_
  have q21_:=nz hcl 21 1 q20_
  have q23_:=nz hcl 23 0 q21_
  simp only [hD,q19_,q20_,q21_,q23_,cq,oT] at ht hs
  subst ht
  refine Qab (v:=pointer (some ⟨b19,4,none⟩)) rfl rfl rfl (g_d rfl ?_)
  try dsimp only [set0,setS]
  refine hk _ _ ⟨O,?_,hs.cast ?_⟩<;>simp only [oT,lq,cq,Nat.reduceBEq,q19_,q20_,q21_,q23_]
 ·
  rintro D t w hD hp hcl ⟨O,ht,hs⟩ rest hk
  obtain ⟨p18_,_⟩:=hp
  have q20_:=nz hcl 20 0 hD
  have q21_:=nz hcl 21 1 q20_
  have q23_:=nz hcl 23 0 q21_
  simp only [hD,p18_,q20_,q21_,q23_,cq,oT] at ht hs
  subst ht
  refine Qa1 (n:=2) (m:=1) rfl (fun _=>rfl) gd6.1 gd6.2 rfl rfl rfl rfl rfl (g_d rfl ?_)
  try dsimp only [set0,setS]
  refine hk _ _ ⟨O,?_,hs.cast ?_⟩<;>simp only [oT,lq,cq,Nat.reduceBEq,p18_,q20_,q21_,q23_]
 ·
  rintro D t w hD hp hcl ⟨O,ht,hs⟩ rest hk
  obtain ⟨p19_,_⟩:=hp
  obtain ⟨p18_,_⟩:=(hcl.get 19 (by decide)) p19_
  have q21_:=nz hcl 21 1 hD
  have q23_:=nz hcl 23 0 q21_
  simp only [hD,p18_,p19_,q21_,q23_,cq,oT] at ht hs
  subst ht
  refine Qaz rfl rfl (v:=int .i64 (a2.Qaj.get 2 0)) rfl rfl (fun _=>rfl) (cells_load (hs.cells 0 rfl) _ _ (part_get (i:=2) (fkI .i64).len a2.Qaj 0 gd6.1 gd6.2 ((encA (encI .i64)) a2.Qao) [] (by simp [QaA,encI,encB,encS]) (by first|rfl|simp [encAI_len,encAB_len,encA_len]))) (g_d rfl ?_)
  try dsimp only [set0,setS]
  refine hk _ _ ⟨O,?_,hs.cast ?_⟩<;>simp only [oT,lq,cq,Nat.reduceBEq,p18_,p19_,q21_,q23_]
 ·
  rintro D t w hD hp hcl ⟨O,ht,hs⟩ rest hk
  obtain ⟨p17_,p20_,_⟩:=hp
  obtain ⟨p19_,_⟩:=(hcl.get 20 (by decide)) p20_
  obtain ⟨p18_,_⟩:=(hcl.get 19 (by decide)) p19_
  obtain ⟨p13_,p16_,_⟩:=(hcl.get 17 (by decide)) p17_
  obtain ⟨p15_,_⟩:=(hcl.get 16 (by decide)) p16_
  obtain ⟨p14_,_⟩:=(hcl.get 15 (by decide)) p15_
  obtain ⟨p12_,_⟩:=(hcl.get 13 (by decide)) p13_
  obtain ⟨p11_,_⟩:=(hcl.get 12 (by decide)) p12_
  have q23_:=nz hcl 23 0 hD
  simp only [hD,p11_,p12_,p13_,p14_,p15_,p16_,p17_,p18_,p19_,p20_,q23_,cq,oT] at ht hs
  subst ht
  refine Qab (v:=int .i64 (i64w ((i64w ((a2.Qaj.get 0 0)+(a2.Qaj.get 1 0)))+(a2.Qaj.get 2 0)))) rfl rfl rfl (g_d rfl ?_)
  try dsimp only [set0,setS]
  refine hk _ _ ⟨O,?_,hs.cast ?_⟩<;>simp only [oT,lq,cq,Nat.reduceBEq,p11_,p12_,p13_,p14_,p15_,p16_,p17_,p18_,p19_,p20_,q23_]
 ·
  rintro D t w hD hp hcl ⟨O,ht,hs⟩ rest hk
  obtain ⟨p10_,p0_,p1_,p2_,p3_,p4_,p5_,p6_,p7_,p8_,p9_,_,_⟩:=hp
  have q23_:=nz hcl 23 1 hD
  simp only [hD,p0_,p1_,p2_,p3_,p4_,p5_,p6_,p7_,p8_,p9_,p10_,q23_,cq,oT] at ht hs
  subst ht
  refine Qab (v:=int .i64 (i64w ((i64w ((a2.Qao.get 0 0)+(a2.Qao.get 1 0)))+(a2.Qao.get 2 0)))) rfl rfl rfl (g_d rfl ?_)
  try dsimp only [set0,setS]
  refine hk _ _ ⟨O,?_,hs.cast ?_⟩<;>simp only [oT,lq,cq,Nat.reduceBEq,p0_,p1_,p2_,p3_,p4_,p5_,p6_,p7_,p8_,p9_,p10_,q23_]
 ·
  rintro D t w hD hp hcl ⟨O,ht,hs⟩ rest hk
  obtain ⟨p21_,p22_,p0_,p1_,p2_,p3_,p4_,p5_,p6_,p7_,p8_,p9_,p10_,p11_,p12_,p13_,p14_,p15_,p16_,p17_,p18_,p19_,p20_,_,_,_⟩:=hp
  simp only [hD,p0_,p1_,p2_,p3_,p4_,p5_,p6_,p7_,p8_,p9_,p10_,p11_,p12_,p13_,p14_,p15_,p16_,p17_,p18_,p19_,p20_,p21_,p22_,cq,oT] at ht hs
  subst ht
  refine Qab (v:=int .i64 (i64w ((i64w ((a2.Qaj.get 0 0)+(a2.Qaj.get 1 0)))+(a2.Qaj.get 2 0)))) rfl rfl rfl (g_d rfl ?_)
  try dsimp only [set0,setS]
  refine hk _ _ ⟨O,?_,hs.cast ?_⟩<;>simp only [oT,lq,cq,Nat.reduceBEq,p0_,p1_,p2_,p3_,p4_,p5_,p6_,p7_,p8_,p9_,p10_,p11_,p12_,p13_,p14_,p15_,p16_,p17_,p18_,p19_,p20_,p21_,p22_]
 intro D t w hall hI
 obtain ⟨O,ht,hs⟩:=hI
 have p0_:=hall 0 (by decide)
 have p1_:=hall 1 (by decide)
 have p2_:=hall 2 (by decide)
 have p3_:=hall 3 (by decide)
 have p4_:=hall 4 (by decide)
 have p5_:=hall 5 (by decide)
 have p6_:=hall 6 (by decide)
 have p7_:=hall 7 (by decide)
 have p8_:=hall 8 (by decide)
 have p9_:=hall 9 (by decide)
 have p10_:=hall 10 (by decide)
 have p11_:=hall 11 (by decide)
 have p12_:=hall 12 (by decide)
 have p13_:=hall 13 (by decide)
 have p14_:=hall 14 (by decide)
 have p15_:=hall 15 (by decide)
 have p16_:=hall 16 (by decide)
 have p17_:=hall 17 (by decide)
 have p18_:=hall 18 (by decide)
 have p19_:=hall 19 (by decide)
 have p20_:=hall 20 (by decide)
 have p21_:=hall 21 (by decide)
 have p22_:=hall 22 (by decide)
 have p23_:=hall 23 (by decide)
 simp only [p0_,p1_,p2_,p3_,p4_,p5_,p6_,p7_,p8_,p9_,p10_,p11_,p12_,p13_,p14_,p15_,p16_,p17_,p18_,p19_,p20_,p21_,p22_,p23_,cq,oT] at ht hs
 subst ht
 refine Qag (Qan [0,1,2,3,4,5,6,7,8,9,10,11,12,13] rfl ?_)
 refine Qab (v:=int .i64 (i64w ((i64w ((a2.Qaj.get 0 0)+(a2.Qaj.get 1 0)))+(a2.Qaj.get 2 0)))) rfl rfl rfl (g_d rfl ?_)
 refine Qab (v:=int .i64 (i64w ((i64w ((a2.Qao.get 0 0)+(a2.Qao.get 1 0)))+(a2.Qao.get 2 0)))) rfl rfl rfl (g_d rfl ?_)
 refine Qab (v:=int .i64 (i64w ((i64w ((i64w ((a2.Qaj.get 0 0)+(a2.Qaj.get 1 0)))+(a2.Qaj.get 2 0))) - (i64w ((i64w ((a2.Qao.get 0 0)+(a2.Qao.get 1 0)))+(a2.Qao.get 2 0)))))) rfl rfl rfl (g_d rfl ?_)
 refine Qab (v:=int .i64 (mxI (i64w ((i64w ((i64w ((a2.Qaj.get 0 0)+(a2.Qaj.get 1 0)))+(a2.Qaj.get 2 0))) - (i64w ((i64w ((a2.Qao.get 0 0)+(a2.Qao.get 1 0)))+(a2.Qao.get 2 0))))) 0)) rfl rfl (Qc8 rfl rfl rfl) (g_d rfl ?_)
 try dsimp only [set0,setS]
 refine Qab (v:=int .i64 (i64w ((i64w ((a2.Qao.get 0 0)+(a2.Qao.get 1 0)))+(a2.Qao.get 2 0)))) rfl rfl rfl (g_d rfl ?_)
 refine Qab (v:=int .i64 (i64w ((i64w ((a2.Qaj.get 0 0)+(a2.Qaj.get 1 0)))+(a2.Qaj.get 2 0)))) rfl rfl rfl (g_d rfl ?_)
 refine Qab (v:=int .i64 (i64w ((i64w ((i64w ((a2.Qao.get 0 0)+(a2.Qao.get 1 0)))+(a2.Qao.get 2 0))) - (i64w ((i64w ((a2.Qaj.get 0 0)+(a2.Qaj.get 1 0)))+(a2.Qaj.get 2 0)))))) rfl rfl rfl (g_d rfl ?_)
 refine Qab (v:=int .i64 (mxI (i64w ((i64w ((i64w ((a2.Qao.get 0 0)+(a2.Qao.get 1 0)))+(a2.Qao.get 2 0))) - (i64w ((i64w ((a2.Qaj.get 0 0)+(a2.Qaj.get 1 0)))+(a2.Qaj.get 2 0))))) 0)) rfl rfl (Qc8 rfl rfl rfl) (g_d rfl ?_)
 try dsimp only [set0,setS]
 refine Qab (v:=pointer (some ⟨b19,0,none⟩)) rfl rfl rfl (g_d rfl ?_)
 obtain ⟨g7,H⟩:=ite_get H
 refine Qa1 (n:=3) (m:=1) rfl (fun _=>rfl) g7.1 g7.2 rfl rfl rfl rfl rfl (g_d rfl ?_)
 refine Qcq (y:=mxI (i64w ((i64w ((i64w ((a2.Qaj.get 0 0)+(a2.Qaj.get 1 0)))+(a2.Qaj.get 2 0))) - (i64w ((i64w ((a2.Qao.get 0 0)+(a2.Qao.get 1 0)))+(a2.Qao.get 2 0))))) 0) (a:=a2.Qao) (fkI .i64).len (fkI .i64).one g7.1 g7.2 [] ((encA (encI .i64)) a2.Qaj) (by simp [QaA,encI,encB,encS]) (by first|rfl|simp [encAI_len,encAB_len,encA_len]) hs rfl rfl (cs':=(QaA (⟨a2.Qao.set 3 (mxI (i64w ((i64w ((i64w ((a2.Qaj.get 0 0)+(a2.Qaj.get 1 0)))+(a2.Qaj.get 2 0))) - (i64w ((i64w ((a2.Qao.get 0 0)+(a2.Qao.get 1 0)))+(a2.Qao.get 2 0))))) 0),a2.Qaj⟩:Qas))) (by simp [QaA,encI,encB,encS]) rfl rfl rfl (fun _=>rfl) ?_
 intro w hs
 refine g_n rfl ?_
 refine Qab (v:=pointer (some ⟨b19,4,none⟩)) rfl rfl rfl (g_d rfl ?_)
 obtain ⟨g8,H⟩:=ite_get H
 refine Qa1 (n:=3) (m:=1) rfl (fun _=>rfl) g8.1 g8.2 rfl rfl rfl rfl rfl (g_d rfl ?_)
 try dsimp only [set0,setS]
 refine Qcq (y:=mxI (i64w ((i64w ((i64w ((a2.Qao.get 0 0)+(a2.Qao.get 1 0)))+(a2.Qao.get 2 0))) - (i64w ((i64w ((a2.Qaj.get 0 0)+(a2.Qaj.get 1 0)))+(a2.Qaj.get 2 0))))) 0) (a:=((⟨a2.Qao.set 3 (mxI (i64w ((i64w ((i64w ((a2.Qaj.get 0 0)+(a2.Qaj.get 1 0)))+(a2.Qaj.get 2 0))) - (i64w ((i64w ((a2.Qao.get 0 0)+(a2.Qao.get 1 0)))+(a2.Qao.get 2 0))))) 0),a2.Qaj⟩:Qas).Qaj)) (fkI .i64).len (fkI .i64).one g8.1 g8.2 ((encA (encI .i64)) ((⟨a2.Qao.set 3 (mxI (i64w ((i64w ((i64w ((a2.Qaj.get 0 0)+(a2.Qaj.get 1 0)))+(a2.Qaj.get 2 0))) - (i64w ((i64w ((a2.Qao.get 0 0)+(a2.Qao.get 1 0)))+(a2.Qao.get 2 0))))) 0),a2.Qaj⟩:Qas).Qao)) [] (by simp [QaA,encI,encB,encS]) (by first|rfl|simp [encAI_len,encAB_len,encA_len]) hs rfl rfl (cs':=(QaA (⟨(⟨a2.Qao.set 3 (mxI (i64w ((i64w ((i64w ((a2.Qaj.get 0 0)+(a2.Qaj.get 1 0)))+(a2.Qaj.get 2 0))) - (i64w ((i64w ((a2.Qao.get 0 0)+(a2.Qao.get 1 0)))+(a2.Qao.get 2 0))))) 0),a2.Qaj⟩:Qas).Qao,((⟨a2.Qao.set 3 (mxI (i64w ((i64w ((i64w ((a2.Qaj.get 0 0)+(a2.Qaj.get 1 0)))+(a2.Qaj.get 2 0))) - (i64w ((i64w ((a2.Qao.get 0 0)+(a2.Qao.get 1 0)))+(a2.Qao.get 2 0))))) 0),a2.Qaj⟩:Qas).Qaj).set 3 (mxI (i64w ((i64w ((i64w ((a2.Qao.get 0 0)+(a2.Qao.get 1 0)))+(a2.Qao.get 2 0))) - (i64w ((i64w ((a2.Qaj.get 0 0)+(a2.Qaj.get 1 0)))+(a2.Qaj.get 2 0))))) 0)⟩:Qas))) (by simp [QaA,encI,encB,encS]) rfl rfl rfl (fun _=>rfl) ?_
 intro w hs
 refine g_n rfl (Qaa (Qag (Qag (Qan [0,1,2,3,4,5,6,7,8,9,10,11,12,13,14,15,16] rfl ?_))))
 refine Qab (v:=int .i64 (i64w ((i64w ((a2.Qao.get 0 0)+(a2.Qao.get 1 0)))+(a2.Qao.get 2 0)))) rfl rfl rfl (g_d rfl ?_)
 refine Qab (v:=int .i64 (i64w ((i64w ((a2.Qaj.get 0 0)+(a2.Qaj.get 1 0)))+(a2.Qaj.get 2 0)))) rfl rfl rfl (g_d rfl ?_)
 refine Qab (v:=int .i64 (mxI (i64w ((i64w ((a2.Qao.get 0 0)+(a2.Qao.get 1 0)))+(a2.Qao.get 2 0))) (i64w ((i64w ((a2.Qaj.get 0 0)+(a2.Qaj.get 1 0)))+(a2.Qaj.get 2 0))))) rfl rfl (Qc8 rfl rfl rfl) (g_d rfl ?_)
 refine QaR (B:=(mxI (i64w ((i64w ((a2.Qao.get 0 0)+(a2.Qao.get 1 0)))+(a2.Qao.get 2 0))) (i64w ((i64w ((a2.Qaj.get 0 0)+(a2.Qaj.get 1 0)))+(a2.Qaj.get 2 0))))==0) rfl rfl rfl ?_ ?_
 ·
  intro hb
  rw [if_pos (b_beq_t hb)] at H
  refine g_d rfl ?_
  refine Qab (v:=bool true) rfl rfl rfl (g_d rfl (Qal rfl rfl (g_d rfl (Qal rfl rfl (g_d rfl ?_)))))
  try dsimp only [set0,setS]
  refine Qal rfl rfl (g_d rfl (Qal rfl rfl (g_d rfl (Qal rfl rfl (g_d rfl ?_)))))
  try dsimp only [set0,setS]
  refine Qal rfl rfl (g_d rfl (Qal rfl rfl (g_d rfl ?_)))
  try dsimp only [set0,setS]
  refine Qal rfl rfl (g_d rfl (Qal rfl rfl (g_d rfl (Qal rfl rfl (g_d rfl ?_)))))
  try dsimp only [set0,setS]
  refine Qal rfl rfl (g_d rfl ?_)
  refine Qab (v:=bool true) rfl rfl rfl (g_d rfl ?_)
  try dsimp only [set0,setS]
  refine Qaa (Qaw rfl (Qag (Qan [0] rfl ?_)))
  refine Qab (v:=bool true) rfl rfl rfl (g_d rfl (Qaa ?_))
  obtain rfl:=QsJ H
  refine QaK Try.func78 (v:=bool true) (res1 rfl rfl) ?_
  have hs:=hs.pull 7 rfl
  have hs:=hs.pull 7 rfl
  have hs:=hs.pull 7 rfl
  have hs:=hs.pull 7 rfl
  have hs:=hs.pull 7 rfl
  have hs:=hs.pull 7 rfl
  have hs:St _ [_,_,_,_,_,_] _:=St.take (Γ':=[_,_]) hs
  exact ⟨_,rfl,rfl,hs⟩
 intro hb
 rw [if_neg (b_beq_f hb)] at H
 refine g_d rfl ?_
 try dsimp only [set0,setS]
 refine Qab (v:=bool false) rfl rfl rfl (g_d rfl ?_)
 refine Qab (v:=pointer (some ⟨b19,0,none⟩)) rfl rfl rfl (g_d rfl ?_)
 obtain ⟨g9,H⟩:=ite_get H
 refine Qa1 (n:=3) (m:=1) rfl (fun _=>rfl) g9.1 g9.2 rfl rfl rfl rfl rfl (g_d rfl ?_)
 refine Qaz rfl rfl (v:=int .i64 (((⟨(⟨a2.Qao.set 3 (mxI (i64w ((i64w ((i64w ((a2.Qaj.get 0 0)+(a2.Qaj.get 1 0)))+(a2.Qaj.get 2 0))) - (i64w ((i64w ((a2.Qao.get 0 0)+(a2.Qao.get 1 0)))+(a2.Qao.get 2 0))))) 0),a2.Qaj⟩:Qas).Qao,((⟨a2.Qao.set 3 (mxI (i64w ((i64w ((i64w ((a2.Qaj.get 0 0)+(a2.Qaj.get 1 0)))+(a2.Qaj.get 2 0))) - (i64w ((i64w ((a2.Qao.get 0 0)+(a2.Qao.get 1 0)))+(a2.Qao.get 2 0))))) 0),a2.Qaj⟩:Qas).Qaj).set 3 (mxI (i64w ((i64w ((i64w ((a2.Qao.get 0 0)+(a2.Qao.get 1 0)))+(a2.Qao.get 2 0))) - (i64w ((i64w ((a2.Qaj.get 0 0)+(a2.Qaj.get 1 0)))+(a2.Qaj.get 2 0))))) 0)⟩:Qas).Qao).get 3 0)) rfl rfl (fun _=>rfl) (cells_load (hs.cells 0 rfl) _ _ (part_get (i:=3) (fkI .i64).len ((⟨(⟨a2.Qao.set 3 (mxI (i64w ((i64w ((i64w ((a2.Qaj.get 0 0)+(a2.Qaj.get 1 0)))+(a2.Qaj.get 2 0))) - (i64w ((i64w ((a2.Qao.get 0 0)+(a2.Qao.get 1 0)))+(a2.Qao.get 2 0))))) 0),a2.Qaj⟩:Qas).Qao,((⟨a2.Qao.set 3 (mxI (i64w ((i64w ((i64w ((a2.Qaj.get 0 0)+(a2.Qaj.get 1 0)))+(a2.Qaj.get 2 0))) - (i64w ((i64w ((a2.Qao.get 0 0)+(a2.Qao.get 1 0)))+(a2.Qao.get 2 0))))) 0),a2.Qaj⟩:Qas).Qaj).set 3 (mxI (i64w ((i64w ((i64w ((a2.Qao.get 0 0)+(a2.Qao.get 1 0)))+(a2.Qao.get 2 0))) - (i64w ((i64w ((a2.Qaj.get 0 0)+(a2.Qaj.get 1 0)))+(a2.Qaj.get 2 0))))) 0)⟩:Qas).Qao) 0 g9.1 g9.2 [] ((encA (encI .i64)) ((⟨(⟨a2.Qao.set 3 (mxI (i64w ((i64w ((i64w ((a2.Qaj.get 0 0)+(a2.Qaj.get 1 0)))+(a2.Qaj.get 2 0))) - (i64w ((i64w ((a2.Qao.get 0 0)+(a2.Qao.get 1 0)))+(a2.Qao.get 2 0))))) 0),a2.Qaj⟩:Qas).Qao,((⟨a2.Qao.set 3 (mxI (i64w ((i64w ((i64w ((a2.Qaj.get 0 0)+(a2.Qaj.get 1 0)))+(a2.Qaj.get 2 0))) - (i64w ((i64w ((a2.Qao.get 0 0)+(a2.Qao.get 1 0)))+(a2.Qao.get 2 0))))) 0),a2.Qaj⟩:Qas).Qaj).set 3 (mxI (i64w ((i64w ((i64w ((a2.Qao.get 0 0)+(a2.Qao.get 1 0)))+(a2.Qao.get 2 0))) - (i64w ((i64w ((a2.Qaj.get 0 0)+(a2.Qaj.get 1 0)))+(a2.Qaj.get 2 0))))) 0)⟩:Qas).Qaj)) (by simp [QaA,encI,encB,encS]) (by first|rfl|simp [encAI_len,encAB_len,encA_len]))) ?_
 refine g_d rfl ?_
 try dsimp only [set0,setS]
 refine Qab (v:=pointer (some ⟨b19,4,none⟩)) rfl rfl rfl (g_d rfl ?_)
 obtain ⟨g10,H⟩:=ite_get H
 refine Qa1 (n:=3) (m:=1) rfl (fun _=>rfl) g10.1 g10.2 rfl rfl rfl rfl rfl (g_d rfl ?_)
 refine Qaz rfl rfl (v:=int .i64 (((⟨(⟨a2.Qao.set 3 (mxI (i64w ((i64w ((i64w ((a2.Qaj.get 0 0)+(a2.Qaj.get 1 0)))+(a2.Qaj.get 2 0))) - (i64w ((i64w ((a2.Qao.get 0 0)+(a2.Qao.get 1 0)))+(a2.Qao.get 2 0))))) 0),a2.Qaj⟩:Qas).Qao,((⟨a2.Qao.set 3 (mxI (i64w ((i64w ((i64w ((a2.Qaj.get 0 0)+(a2.Qaj.get 1 0)))+(a2.Qaj.get 2 0))) - (i64w ((i64w ((a2.Qao.get 0 0)+(a2.Qao.get 1 0)))+(a2.Qao.get 2 0))))) 0),a2.Qaj⟩:Qas).Qaj).set 3 (mxI (i64w ((i64w ((i64w ((a2.Qao.get 0 0)+(a2.Qao.get 1 0)))+(a2.Qao.get 2 0))) - (i64w ((i64w ((a2.Qaj.get 0 0)+(a2.Qaj.get 1 0)))+(a2.Qaj.get 2 0))))) 0)⟩:Qas).Qaj).get 3 0)) rfl rfl (fun _=>rfl) (cells_load (hs.cells 0 rfl) _ _ (part_get (i:=3) (fkI .i64).len ((⟨(⟨a2.Qao.set 3 (mxI (i64w ((i64w ((i64w ((a2.Qaj.get 0 0)+(a2.Qaj.get 1 0)))+(a2.Qaj.get 2 0))) - (i64w ((i64w ((a2.Qao.get 0 0)+(a2.Qao.get 1 0)))+(a2.Qao.get 2 0))))) 0),a2.Qaj⟩:Qas).Qao,((⟨a2.Qao.set 3 (mxI (i64w ((i64w ((i64w ((a2.Qaj.get 0 0)+(a2.Qaj.get 1 0)))+(a2.Qaj.get 2 0))) - (i64w ((i64w ((a2.Qao.get 0 0)+(a2.Qao.get 1 0)))+(a2.Qao.get 2 0))))) 0),a2.Qaj⟩:Qas).Qaj).set 3 (mxI (i64w ((i64w ((i64w ((a2.Qao.get 0 0)+(a2.Qao.get 1 0)))+(a2.Qao.get 2 0))) - (i64w ((i64w ((a2.Qaj.get 0 0)+(a2.Qaj.get 1 0)))+(a2.Qaj.get 2 0))))) 0)⟩:Qas).Qaj) 0 g10.1 g10.2 ((encA (encI .i64)) ((⟨(⟨a2.Qao.set 3 (mxI (i64w ((i64w ((i64w ((a2.Qaj.get 0 0)+(a2.Qaj.get 1 0)))+(a2.Qaj.get 2 0))) - (i64w ((i64w ((a2.Qao.get 0 0)+(a2.Qao.get 1 0)))+(a2.Qao.get 2 0))))) 0),a2.Qaj⟩:Qas).Qao,((⟨a2.Qao.set 3 (mxI (i64w ((i64w ((i64w ((a2.Qaj.get 0 0)+(a2.Qaj.get 1 0)))+(a2.Qaj.get 2 0))) - (i64w ((i64w ((a2.Qao.get 0 0)+(a2.Qao.get 1 0)))+(a2.Qao.get 2 0))))) 0),a2.Qaj⟩:Qas).Qaj).set 3 (mxI (i64w ((i64w ((i64w ((a2.Qao.get 0 0)+(a2.Qao.get 1 0)))+(a2.Qao.get 2 0))) - (i64w ((i64w ((a2.Qaj.get 0 0)+(a2.Qaj.get 1 0)))+(a2.Qaj.get 2 0))))) 0)⟩:Qas).Qao)) [] (by simp [QaA,encI,encB,encS]) (by first|rfl|simp [encAI_len,encAB_len,encA_len]))) ?_
 refine g_d rfl ?_
 try dsimp only [set0,setS]
 refine Qab (v:=int .i64 (i64w ((((⟨(⟨a2.Qao.set 3 (mxI (i64w ((i64w ((i64w ((a2.Qaj.get 0 0)+(a2.Qaj.get 1 0)))+(a2.Qaj.get 2 0))) - (i64w ((i64w ((a2.Qao.get 0 0)+(a2.Qao.get 1 0)))+(a2.Qao.get 2 0))))) 0),a2.Qaj⟩:Qas).Qao,((⟨a2.Qao.set 3 (mxI (i64w ((i64w ((i64w ((a2.Qaj.get 0 0)+(a2.Qaj.get 1 0)))+(a2.Qaj.get 2 0))) - (i64w ((i64w ((a2.Qao.get 0 0)+(a2.Qao.get 1 0)))+(a2.Qao.get 2 0))))) 0),a2.Qaj⟩:Qas).Qaj).set 3 (mxI (i64w ((i64w ((i64w ((a2.Qao.get 0 0)+(a2.Qao.get 1 0)))+(a2.Qao.get 2 0))) - (i64w ((i64w ((a2.Qaj.get 0 0)+(a2.Qaj.get 1 0)))+(a2.Qaj.get 2 0))))) 0)⟩:Qas).Qao).get 3 0)+(((⟨(⟨a2.Qao.set 3 (mxI (i64w ((i64w ((i64w ((a2.Qaj.get 0 0)+(a2.Qaj.get 1 0)))+(a2.Qaj.get 2 0))) - (i64w ((i64w ((a2.Qao.get 0 0)+(a2.Qao.get 1 0)))+(a2.Qao.get 2 0))))) 0),a2.Qaj⟩:Qas).Qao,((⟨a2.Qao.set 3 (mxI (i64w ((i64w ((i64w ((a2.Qaj.get 0 0)+(a2.Qaj.get 1 0)))+(a2.Qaj.get 2 0))) - (i64w ((i64w ((a2.Qao.get 0 0)+(a2.Qao.get 1 0)))+(a2.Qao.get 2 0))))) 0),a2.Qaj⟩:Qas).Qaj).set 3 (mxI (i64w ((i64w ((i64w ((a2.Qao.get 0 0)+(a2.Qao.get 1 0)))+(a2.Qao.get 2 0))) - (i64w ((i64w ((a2.Qaj.get 0 0)+(a2.Qaj.get 1 0)))+(a2.Qaj.get 2 0))))) 0)⟩:Qas).Qaj).get 3 0)))) rfl rfl rfl ?_
 refine g_d rfl ?_
 refine Qab (v:=pointer (some ⟨b17,0,none⟩)) rfl rfl rfl (g_d rfl ?_)
 obtain ⟨g11,H⟩:=ite_get H
 refine Qa1 (n:=3) (m:=1) rfl (fun _=>rfl) g11.1 g11.2 rfl rfl rfl rfl rfl (g_d rfl ?_)
 try dsimp only [set0,setS]
 refine Qaz rfl rfl (v:=int .i64 (a1.Qav.get 3 0)) rfl rfl (fun _=>rfl) (cells_load (hs.cells 1 rfl) _ _ (part_get (i:=3) (fkI .i64).len a1.Qav 0 g11.1 g11.2 [] (encB a1.QaU) (by simp [Qaf,encI,encB,encS]) (by first|rfl|simp [encAI_len,encAB_len,encA_len]))) (g_d rfl ?_)
 refine QaR (B:=decide ((i64w ((((⟨(⟨a2.Qao.set 3 (mxI (i64w ((i64w ((i64w ((a2.Qaj.get 0 0)+(a2.Qaj.get 1 0)))+(a2.Qaj.get 2 0))) - (i64w ((i64w ((a2.Qao.get 0 0)+(a2.Qao.get 1 0)))+(a2.Qao.get 2 0))))) 0),a2.Qaj⟩:Qas).Qao,((⟨a2.Qao.set 3 (mxI (i64w ((i64w ((i64w ((a2.Qaj.get 0 0)+(a2.Qaj.get 1 0)))+(a2.Qaj.get 2 0))) - (i64w ((i64w ((a2.Qao.get 0 0)+(a2.Qao.get 1 0)))+(a2.Qao.get 2 0))))) 0),a2.Qaj⟩:Qas).Qaj).set 3 (mxI (i64w ((i64w ((i64w ((a2.Qao.get 0 0)+(a2.Qao.get 1 0)))+(a2.Qao.get 2 0))) - (i64w ((i64w ((a2.Qaj.get 0 0)+(a2.Qaj.get 1 0)))+(a2.Qaj.get 2 0))))) 0)⟩:Qas).Qao).get 3 0)+(((⟨(⟨a2.Qao.set 3 (mxI (i64w ((i64w ((i64w ((a2.Qaj.get 0 0)+(a2.Qaj.get 1 0)))+(a2.Qaj.get 2 0))) - (i64w ((i64w ((a2.Qao.get 0 0)+(a2.Qao.get 1 0)))+(a2.Qao.get 2 0))))) 0),a2.Qaj⟩:Qas).Qao,((⟨a2.Qao.set 3 (mxI (i64w ((i64w ((i64w ((a2.Qaj.get 0 0)+(a2.Qaj.get 1 0)))+(a2.Qaj.get 2 0))) - (i64w ((i64w ((a2.Qao.get 0 0)+(a2.Qao.get 1 0)))+(a2.Qao.get 2 0))))) 0),a2.Qaj⟩:Qas).Qaj).set 3 (mxI (i64w ((i64w ((i64w ((a2.Qao.get 0 0)+(a2.Qao.get 1 0)))+(a2.Qao.get 2 0))) - (i64w ((i64w ((a2.Qaj.get 0 0)+(a2.Qaj.get 1 0)))+(a2.Qaj.get 2 0))))) 0)⟩:Qas).Qaj).get 3 0)))>(a1.Qav.get 3 0))) rfl rfl rfl ?_ ?_
 ·
  intro hb
  rw [if_pos (b_dec_t hb)] at H
  refine g_d rfl ?_
  try dsimp only [set0,setS]
  refine Qab (v:=bool true) rfl rfl rfl (g_d rfl (Qaa (Qaw rfl (Qag (Qan [0] rfl ?_)))))
  refine Qab (v:=bool true) rfl rfl rfl (g_d rfl ?_)
  try dsimp only [set0,setS]
  refine Qaa ?_
  obtain rfl:=QsJ H
  refine QaK Try.func78 (v:=bool true) (res1 rfl rfl) ?_
  have hs:=hs.pull 7 rfl
  have hs:=hs.pull 7 rfl
  have hs:=hs.pull 7 rfl
  have hs:=hs.pull 7 rfl
  have hs:=hs.pull 7 rfl
  have hs:=hs.pull 7 rfl
  have hs:St _ [_,_,_,_,_,_] _:=St.take (Γ':=[_,_]) hs
  exact ⟨_,rfl,rfl,hs⟩
 intro hb
 rw [if_neg (b_dec_f hb)] at H
 refine g_d rfl ?_
 try dsimp only [set0,setS]
 refine Qab (v:=bool false) rfl rfl rfl (g_d rfl (Qaa (Qax rfl (QaS (Qag (Qan [0,1,2,3] rfl ?_))))))
 refine Qab (v:=Value.func (Fn.func 61) #[] #[pointer (some ⟨b4,0,none⟩),pointer (some ⟨b9,0,none⟩),pointer (some ⟨b12,0,none⟩),pointer (some ⟨b15,0,none⟩)]) rfl rfl rfl (g_d rfl ?_)
 refine QaG rfl rfl (es:=(QaA (⟨(⟨a2.Qao.set 3 (mxI (i64w ((i64w ((i64w ((a2.Qaj.get 0 0)+(a2.Qaj.get 1 0)))+(a2.Qaj.get 2 0))) - (i64w ((i64w ((a2.Qao.get 0 0)+(a2.Qao.get 1 0)))+(a2.Qao.get 2 0))))) 0),a2.Qaj⟩:Qas).Qao,((⟨a2.Qao.set 3 (mxI (i64w ((i64w ((i64w ((a2.Qaj.get 0 0)+(a2.Qaj.get 1 0)))+(a2.Qaj.get 2 0))) - (i64w ((i64w ((a2.Qao.get 0 0)+(a2.Qao.get 1 0)))+(a2.Qao.get 2 0))))) 0),a2.Qaj⟩:Qas).Qaj).set 3 (mxI (i64w ((i64w ((i64w ((a2.Qao.get 0 0)+(a2.Qao.get 1 0)))+(a2.Qao.get 2 0))) - (i64w ((i64w ((a2.Qaj.get 0 0)+(a2.Qaj.get 1 0)))+(a2.Qaj.get 2 0))))) 0)⟩:Qas))) rfl rfl (fun _=>rfl) (n:=8) (fun _=>rfl) (Qco.len _) (cells_all (hs.cells 0 rfl)) ?_
 refine g_d rfl ?_
 try dsimp only [set0,setS]
 obtain ⟨r21,Hr21,H⟩:=bind_get H
 have hs:=hs.pull 6 rfl
 have hs:=hs.pull 6 rfl
 have hs:=hs.pull 6 rfl
 have hs:=hs.pull 6 rfl
 have hs:St _ [_,_,_,_,_,_,_,_] _:=hs.pull 6 rfl
 have hs:=hs.pack 5
 refine QaP (args:=[agg (QaA (⟨(⟨a2.Qao.set 3 (mxI (i64w ((i64w ((i64w ((a2.Qaj.get 0 0)+(a2.Qaj.get 1 0)))+(a2.Qaj.get 2 0))) - (i64w ((i64w ((a2.Qao.get 0 0)+(a2.Qao.get 1 0)))+(a2.Qao.get 2 0))))) 0),a2.Qaj⟩:Qas).Qao,((⟨a2.Qao.set 3 (mxI (i64w ((i64w ((i64w ((a2.Qaj.get 0 0)+(a2.Qaj.get 1 0)))+(a2.Qaj.get 2 0))) - (i64w ((i64w ((a2.Qao.get 0 0)+(a2.Qao.get 1 0)))+(a2.Qao.get 2 0))))) 0),a2.Qaj⟩:Qas).Qaj).set 3 (mxI (i64w ((i64w ((i64w ((a2.Qao.get 0 0)+(a2.Qao.get 1 0)))+(a2.Qao.get 2 0))) - (i64w ((i64w ((a2.Qaj.get 0 0)+(a2.Qaj.get 1 0)))+(a2.Qaj.get 2 0))))) 0)⟩:Qas)).toArray,pointer (some ⟨b4,0,none⟩),pointer (some ⟨b9,0,none⟩),pointer (some ⟨b12,0,none⟩),pointer (some ⟨b15,0,none⟩)]) rfl rfl (QcT rfl (callFunc_enter Try.func61 rfl rfl) rfl rfl) (Qb7.calls ih (a1:=(⟨(⟨a2.Qao.set 3 (mxI (i64w ((i64w ((i64w ((a2.Qaj.get 0 0)+(a2.Qaj.get 1 0)))+(a2.Qaj.get 2 0))) - (i64w ((i64w ((a2.Qao.get 0 0)+(a2.Qao.get 1 0)))+(a2.Qao.get 2 0))))) 0),a2.Qaj⟩:Qas).Qao,((⟨a2.Qao.set 3 (mxI (i64w ((i64w ((i64w ((a2.Qaj.get 0 0)+(a2.Qaj.get 1 0)))+(a2.Qaj.get 2 0))) - (i64w ((i64w ((a2.Qao.get 0 0)+(a2.Qao.get 1 0)))+(a2.Qao.get 2 0))))) 0),a2.Qaj⟩:Qas).Qaj).set 3 (mxI (i64w ((i64w ((i64w ((a2.Qao.get 0 0)+(a2.Qao.get 1 0)))+(a2.Qao.get 2 0))) - (i64w ((i64w ((a2.Qaj.get 0 0)+(a2.Qaj.get 1 0)))+(a2.Qaj.get 2 0))))) 0)⟩:Qas)) (a2:=a3) (a7:=a8) (a10:=a11) (a13:=a14) hs Hr21) ?_
 rintro _ w ⟨rfl,hs⟩
 have hs:=St.unpack (Γ:=[_,_,_,_,_]) hs
 have hs:St _ [_,_,_,_,_,_,_,_] _:=hs
 refine g_d rfl ?_
 refine Qab (v:=bool r21.1) rfl rfl rfl (g_d rfl ?_)
 try dsimp only [set0,setS]
 refine Qaa ?_
 obtain rfl:=QsJ H
 refine QaK Try.func78 (v:=bool r21.1) (res1 rfl rfl) ?_
 have hs:=hs.pull 7 rfl
 have hs:=hs.pull 5 rfl
 have hs:=hs.pull 5 rfl
 have hs:=hs.pull 5 rfl
 have hs:=hs.pull 5 rfl
 have hs:=hs.pull 5 rfl
 have hs:St _ [_,_,_,_,_,_] _:=St.take (Γ':=[_,_]) hs
 exact ⟨_,rfl,rfl,hs⟩
def QbD.post (wb:World) (Z:As) (b3:Nat) (b7:Nat) (b6:Nat) (b7:Nat) (b11:Nat) (b14:Nat) (b17:Nat) (b19:Nat) (b21:Nat) (r:(Bool×Qac×(List (Qad×Bool))×(List (Qad×Bool))×Qac×Int×Bool×Unit×Unit)) (v:Value) (w:World):Prop:=v=bool r.1∧St wb [Cells b3 (Qaf r.2.1) 71,MapAs b7 QaE bool r.2.2.1,Cells b6 ([Value.map (some b7)]) 67,Cells b11 (Qaf r.2.2.2.2.1) 71,Cells b14 ((encI .i64) r.2.2.2.2.2.1) 2,Cells b17 (encB r.2.2.2.2.2.2.1) 4,Cells b19 ([Value.func (Fn.func 61) #[] #[pointer (some ⟨b6,0,none⟩),pointer (some ⟨b11,0,none⟩),pointer (some ⟨b14,0,none⟩),pointer (some ⟨b17,0,none⟩)]]) 113,Cells b21 ([Value.func (Fn.func 77) #[] #[pointer (some ⟨b3,0,none⟩),pointer (some ⟨b19,0,none⟩),pointer (some ⟨b21,0,none⟩)]]) 131,Z] w
theorem QbD.calls {N:Nat} {self:(List (Qad×Bool))→Qac→Int→Option (Bool×(List (Qad×Bool)))} (ih:∀ (a1:(List (Qad×Bool))) (a4:Qac) (a5:Int) (b2:Nat) (wb:World) (Z:As) (w0:World) (r:(Bool×(List (Qad×Bool)))) (hs:St wb [MapAs b2 QaE bool a1,Z] w0),self a1 a4 a5=some r→Calls Try.prog 32 #[Value.map (some b2),agg (Qaf a4).toArray,int .i64 a5] w0 fun e w=>∃ v,e= .returned v∧QaH.post wb Z b2 r v w) {a1:Qas} {a2:Qac} {a5:(List (Qad×Bool))} {a10:Qac} {a13:Int} {a16:Bool} {b3:Nat} {b6:Nat} {b7:Nat} {b11:Nat} {b14:Nat} {b17:Nat} {b19:Nat} {b21:Nat} {wb:World} {Z:As} {w0:World} {r:(Bool×Qac×(List (Qad×Bool))×(List (Qad×Bool))×Qac×Int×Bool×Unit×Unit)} (hs:St wb [Cells b3 (Qaf a2) 71,MapAs b7 QaE bool a5,Cells b6 ([Value.map (some b7)]) 67,Cells b11 (Qaf a10) 71,Cells b14 ((encI .i64) a13) 2,Cells b17 (encB a16) 4,Cells b19 ([Value.func (Fn.func 61) #[] #[pointer (some ⟨b6,0,none⟩),pointer (some ⟨b11,0,none⟩),pointer (some ⟨b14,0,none⟩),pointer (some ⟨b17,0,none⟩)]]) 113,Cells b21 ([Value.func (Fn.func 77) #[] #[pointer (some ⟨b3,0,none⟩),pointer (some ⟨b19,0,none⟩),pointer (some ⟨b21,0,none⟩)]]) 131,Z] w0) (H:QbD.f N self a1 a2 a5 a10 a13 a16=some r):
 Calls Try.prog 77 #[int .i64 3,agg (QaA a1).toArray,pointer (some ⟨b3,0,none⟩),pointer (some ⟨b19,0,none⟩),pointer (some ⟨b21,0,none⟩)] w0 fun e w=>∃ v,e= .returned v∧QbD.post wb Z b3 b7 b6 b7 b11 b14 b17 b19 b21 r v w:=by
 unfold QbD.f at H
 refine calls_of_g (n:=45) Try.func77 rfl rfl ?_
 show G _ _ _ _ [_,_,_,_,_,_,_,_,_,_,_,_,_,_,_,_,_,_,_,_,_,_,_,_,_,_,_,_,_,_,_,_,_,_,_,_,_,_,_,_,_,_,_,_,_,_,_,_,_,_] _
 refine Qag (Qan [0,1] rfl ?_)
 refine Qbw hs rfl rfl (cs:=(QaA a1)) rfl rfl ?_
 intro b23 w hs
 show G _ _ _ _ [_,_,_,_,_,_,_,_,_,_,_,_,_,_,_,_,_,_,_,_,_,_,_,_,_,_,_,_,_,_,_,_,_,_,_,_,_,_,_,_,_,_,_,_,_,_,_,_,_,_] _
 refine Qab (v:=bool false) rfl rfl rfl (Qaa (Qag (Qag (Qan [0,1] rfl ?_))))
 refine Qab (v:=int .i64 3) rfl rfl rfl ?_
 refine Qab (v:=bool true) rfl rfl rfl (Qaa (Qaw rfl (Qag (Qan [0,1,2,3,4] rfl ?_))))
 refine QaG rfl rfl (es:=(Qaf a2)) rfl rfl (fun _=>rfl) (n:=5) (fun _=>rfl) (Qbc.len _) (cells_all (hs.cells 1 rfl)) ?_
 show G _ _ _ _ [_,_,_,_,_,_,_,_,_,_,_,_,_,_,_,_,_,_,_,_,_,_,_,_,_,_,_,_,_,_,_,_,_,_,_,_,_,_,_,_,_,_,_,_,_,_,_,_,_,_] _
 refine QaG rfl rfl (es:=(QaA a1)) rfl rfl (fun _=>rfl) (n:=8) (fun _=>rfl) (Qco.len _) (cells_all (hs.cells 0 rfl)) ?_
 refine Qaz rfl rfl (v:=Value.func (Fn.func 61) #[] #[pointer (some ⟨b6,0,none⟩),pointer (some ⟨b11,0,none⟩),pointer (some ⟨b14,0,none⟩),pointer (some ⟨b17,0,none⟩)]) rfl rfl (fun _=>rfl) (cells_load (hs.cells 7 rfl) 0 1 rfl) ?_
 obtain ⟨r25,Hr25,H⟩:=bind_get H
 have hs:=hs.pull 6 rfl
 have hs:=hs.pull 6 rfl
 have hs:=hs.pull 6 rfl
 have hs:=hs.pull 6 rfl
 have hs:St _ [_,_,_,_,_,_,_,_,_,_] _:=hs.pull 6 rfl
 have hs:=hs.pack 5
 refine QaP (args:=[agg (Qaf a2).toArray,agg (QaA a1).toArray,Value.func (Fn.func 61) #[] #[pointer (some ⟨b6,0,none⟩),pointer (some ⟨b11,0,none⟩),pointer (some ⟨b14,0,none⟩),pointer (some ⟨b17,0,none⟩)]]) rfl rfl (QaT rfl (callFunc_enter Try.func78 rfl rfl) rfl) (Qbl.calls ih (a1:=a2) (a2:=a1) (a3:=a5) (a8:=a10) (a11:=a13) (a14:=a16) hs Hr25) ?_
 rintro _ w ⟨rfl,hs⟩
 have hs:=St.unpack (Γ:=[_,_,_,_,_]) hs
 have hs:St _ [_,_,_,_,_,_,_,_,_,_] _:=hs
 show G _ _ _ _ [_,_,_,_,_,_,_,_,_,_,_,_,_,_,_,_,_,_,_,_,_,_,_,_,_,_,_,_,_,_,_,_,_,_,_,_,_,_,_,_,_,_,_,_,_,_,_,_,_,_] _
 refine Qab (v:=bool r25.1) rfl rfl rfl (Qaa ?_)
 obtain rfl:=QsJ H
 refine QaK Try.func77 (v:=bool r25.1) (res1 rfl rfl) ?_
 have hs:=hs.pull 9 rfl
 have hs:=hs.pull 9 rfl
 have hs:=hs.pull 9 rfl
 have hs:=hs.pull 7 rfl
 have hs:=hs.pull 7 rfl
 have hs:=hs.pull 7 rfl
 have hs:=hs.pull 7 rfl
 have hs:=hs.pull 7 rfl
 have hs:=hs.pull 9 rfl
 have hs:St _ [_,_,_,_,_,_,_,_,_] _:=St.take (Γ':=[_]) hs
 exact ⟨_,rfl,rfl,hs⟩
end Go.Proofs.YtgpdpedpmhonkaaX
