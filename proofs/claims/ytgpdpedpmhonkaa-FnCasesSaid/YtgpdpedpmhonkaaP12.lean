import Derived.Test.YtgpdpedpmhonkaaProg
import Derived.Test.YtgpdpedpmhonkaaP3
import Derived.Test.YtgpdpedpmhonkaaP4
namespace Go.Proofs.YtgpdpedpmhonkaaX
open Go Go.RowKit Go.Proofs
open Go.Value (int pointer bool agg slice string tuple)
set_option maxHeartbeats 8000000
set_option maxRecDepth 100000
set_option linter.unusedVariables false
set_option linter.unusedSimpArgs false
def QaM.post (w0:World) (r:Qac) (v:Value) (w:World):Prop:=v=agg (Qaf r).toArray∧St w0 [] w
theorem QaM.calls {N:Nat} {a1:Qac} {a2:Qas} {a3:Int} {w0:World} {r:Qac} (H:QaM.f N a1 a2 a3=some r):
 Calls Try.prog 79 #[agg (Qaf a1).toArray,agg (QaA a2).toArray,int .i64 a3] w0 fun e w=>∃ v,e= .returned v∧QaM.post w0 r v w:=by
 unfold QaM.f at H
 have hs:St w0 [] w0:=St.refl w0
 refine calls_of_g (n:=91) Try.func79 rfl rfl ?_
 show G _ _ _ _ (_::_::_::_::_::_::_::_::_::_::_::_::_::_::_::_::_::_::_::_::_::_::_::_::_::_::_::_::_::_::_::_::_::_::_::_::_::_::_::_::_::_::_::_::_::_::_::_::_::_::_::_::_::_::_::_::_::_::_::_::_::_::_::_::_::_::_::_::_::_::_::_::_::_::_::_::_::_::_::_::_::_::_::_::_::_::_::_::_::_::_::_::_::_::[]) _
 refine Qag (Qan [0,1,2] rfl ?_)
 refine Qbw hs rfl rfl (cs:=(Qaf a1)) rfl rfl ?_
 intro b4 w hs
 refine g_d rfl ?_
 refine Qbw hs rfl rfl (cs:=(QaA a2)) rfl rfl ?_
 intro b6 w hs
 refine g_d rfl ?_
 try dsimp only [set0,setS]
 refine QbH hs rfl rfl (z:=(agg #[int .i64 0,int .i64 0,int .i64 0,int .i64 0,bool false])) (cs:=(Qaf QbC)) rfl (fun _=>rfl) rfl ?_
 intro b8 w hs
 refine g_d rfl (Qaa (Qag (Qan [0,1,2] rfl ?_)))
 refine Qab (v:=agg (Qaf (⟨(Ar.rep 4 0),false⟩:Qac)).toArray) rfl rfl (Qcn (cs:=(Qaf (⟨(Ar.rep 4 0),false⟩:Qac))) (segs:=[[int .i64 0,int .i64 0,int .i64 0,int .i64 0],[bool false]]) rfl rfl (fun _=>rfl) ⟨rfl,(fun _=>rfl),rfl,(fun _=>rfl),trivial⟩ (by simp) (by first|rfl|(simp [ev,Qaf];done)|(simp [ev,Qaf];rfl))) ?_
 refine g_d rfl ?_
 try dsimp only [set0,setS]
 refine QbH hs rfl rfl (z:=(agg #[int .i64 0,int .i64 0,int .i64 0,int .i64 0,bool false])) (cs:=(Qaf QbC)) rfl (fun _=>rfl) rfl ?_
 intro b10 w hs
 refine g_d rfl ?_
 refine Qa9 (n:=5) hs (Qbc.len _) rfl rfl (vs:=(Qaf (⟨(Ar.rep 4 0),false⟩:Qac))) rfl rfl rfl (fun _=>rfl) (Qbc.len _) (Qbc.one _) ?_
 intro w hs
 refine g_n rfl (Qaa (Qag (Qan [0,1,2,3,4,5,6,7,8,9,10,11,12,13,14,15] rfl ?_)))
 refine Qab (v:=pointer (some ⟨b4,0,none⟩)) rfl rfl rfl (g_d rfl ?_)
 obtain ⟨g1,H⟩:=ite_get H
 refine Qa1 (n:=0) (m:=1) rfl (fun _=>rfl) g1.1 g1.2 rfl rfl rfl rfl rfl (g_d rfl ?_)
 try dsimp only [set0,setS]
 refine Qaz rfl rfl (v:=int .i64 (a1.Qav.get 0 0)) rfl rfl (fun _=>rfl) (cells_load (hs.cells 3 rfl) _ _ (part_get (i:=0) (fkI .i64).len a1.Qav 0 g1.1 g1.2 [] (encB a1.QaU) (by simp [Qaf,encI,encB,encS]) (by first|rfl|simp [encAI_len,encAB_len,encA_len]))) (g_d rfl ?_)
 refine Qab (v:=pointer (some ⟨b4,0,none⟩)) rfl rfl rfl (g_d rfl ?_)
 obtain ⟨g2,H⟩:=ite_get H
 refine Qa1 (n:=1) (m:=1) rfl (fun _=>rfl) g2.1 g2.2 rfl rfl rfl rfl rfl (g_d rfl ?_)
 try dsimp only [set0,setS]
 refine Qaz rfl rfl (v:=int .i64 (a1.Qav.get 1 0)) rfl rfl (fun _=>rfl) (cells_load (hs.cells 3 rfl) _ _ (part_get (i:=1) (fkI .i64).len a1.Qav 0 g2.1 g2.2 [] (encB a1.QaU) (by simp [Qaf,encI,encB,encS]) (by first|rfl|simp [encAI_len,encAB_len,encA_len]))) (g_d rfl ?_)
 refine Qab (v:=int .i64 (i64w ((a1.Qav.get 0 0)+(a1.Qav.get 1 0)))) rfl rfl rfl (g_d rfl ?_)
 try dsimp only [set0,setS]
 refine Qab (v:=pointer (some ⟨b4,0,none⟩)) rfl rfl rfl (g_d rfl ?_)
 obtain ⟨g3,H⟩:=ite_get H
 refine Qa1 (n:=2) (m:=1) rfl (fun _=>rfl) g3.1 g3.2 rfl rfl rfl rfl rfl (g_d rfl ?_)
 refine Qaz rfl rfl (v:=int .i64 (a1.Qav.get 2 0)) rfl rfl (fun _=>rfl) (cells_load (hs.cells 3 rfl) _ _ (part_get (i:=2) (fkI .i64).len a1.Qav 0 g3.1 g3.2 [] (encB a1.QaU) (by simp [Qaf,encI,encB,encS]) (by first|rfl|simp [encAI_len,encAB_len,encA_len]))) (g_d rfl ?_)
 try dsimp only [set0,setS]
 refine Qab (v:=int .i64 (i64w ((i64w ((a1.Qav.get 0 0)+(a1.Qav.get 1 0)))+(a1.Qav.get 2 0)))) rfl rfl rfl (g_d rfl ?_)
 refine Qab (v:=pointer (some ⟨b4,0,none⟩)) rfl rfl rfl (g_d rfl ?_)
 obtain ⟨g4,H⟩:=ite_get H
 refine Qa1 (n:=3) (m:=1) rfl (fun _=>rfl) g4.1 g4.2 rfl rfl rfl rfl rfl (g_d rfl ?_)
 try dsimp only [set0,setS]
 refine Qaz rfl rfl (v:=int .i64 (a1.Qav.get 3 0)) rfl rfl (fun _=>rfl) (cells_load (hs.cells 3 rfl) _ _ (part_get (i:=3) (fkI .i64).len a1.Qav 0 g4.1 g4.2 [] (encB a1.QaU) (by simp [Qaf,encI,encB,encS]) (by first|rfl|simp [encAI_len,encAB_len,encA_len]))) (g_d rfl ?_)
 refine Qab (v:=int .i64 (i64w ((i64w ((i64w ((a1.Qav.get 0 0)+(a1.Qav.get 1 0)))+(a1.Qav.get 2 0)))+(a1.Qav.get 3 0)))) rfl rfl rfl (g_d rfl ?_)
 try dsimp only [set0,setS]
 refine Qab (v:=int .i64 (i64w ((i64w ((i64w ((a1.Qav.get 0 0)+(a1.Qav.get 1 0)))+(a1.Qav.get 2 0)))+(a1.Qav.get 3 0)))) rfl rfl rfl (g_d rfl (Qaa (Qag (Qag ?_))))
 refine QcB (J:=(fun t w=>∃ x24:Qac,QaM.j0 N a1 x24=some r∧Fr t (fun O=>(O 0::O 1::O 2::O 3::O 4::O 5::pointer (some ⟨b8,0,none⟩)::pointer (some ⟨b10,0,none⟩)::int .i64 (i64w ((i64w ((i64w ((a1.Qav.get 0 0)+(a1.Qav.get 1 0)))+(a1.Qav.get 2 0)))+(a1.Qav.get 3 0)))::O 9::oT O 1 (oT O 2 (oT O 3 (oT O 4 (oT O 5 (oT O 6 (oT O 7 (oT O 8 (O 90::O 91::O 92::O 93::[])))))))):List Value))∧St w0 [Cells b8 (Qaf QbC) 71,Cells b10 (Qaf x24) 71] w)) ?_ ?_
 ·
  rintro t w ⟨x24,H,hf,hs⟩
  obtain ⟨O,rfl⟩:=hf.open
  try dsimp only [oT]
  unfold QaM.j0 at H
  refine Qag (Qan [0,1,2,3,4,5,6,7,8,9,10,11,12,13,14,15] rfl ?_)
  refine Qab (v:=int .i64 (i64w ((i64w ((i64w ((a1.Qav.get 0 0)+(a1.Qav.get 1 0)))+(a1.Qav.get 2 0)))+(a1.Qav.get 3 0)))) rfl rfl rfl (g_d rfl ?_)
  refine Qab (v:=pointer (some ⟨b10,0,none⟩)) rfl rfl rfl (g_d rfl ?_)
  obtain ⟨g20,H⟩:=ite_get H
  refine Qa1 (n:=0) (m:=1) rfl (fun _=>rfl) g20.1 g20.2 rfl rfl rfl rfl rfl (g_d rfl ?_)
  refine Qaz rfl rfl (v:=int .i64 (x24.Qav.get 0 0)) rfl rfl (fun _=>rfl) (cells_load (hs.cells 1 rfl) _ _ (part_get (i:=0) (fkI .i64).len x24.Qav 0 g20.1 g20.2 [] (encB x24.QaU) (by simp [Qaf,encI,encB,encS]) (by first|rfl|simp [encAI_len,encAB_len,encA_len]))) (g_d rfl ?_)
  try dsimp only [set0,setS]
  refine Qab (v:=int .i64 (i64w ((i64w ((i64w ((i64w ((a1.Qav.get 0 0)+(a1.Qav.get 1 0)))+(a1.Qav.get 2 0)))+(a1.Qav.get 3 0))) - (x24.Qav.get 0 0)))) rfl rfl rfl (g_d rfl ?_)
  refine Qab (v:=pointer (some ⟨b10,0,none⟩)) rfl rfl rfl (g_d rfl ?_)
  obtain ⟨g21,H⟩:=ite_get H
  refine Qa1 (n:=1) (m:=1) rfl (fun _=>rfl) g21.1 g21.2 rfl rfl rfl rfl rfl (g_d rfl ?_)
  try dsimp only [set0,setS]
  refine Qaz rfl rfl (v:=int .i64 (x24.Qav.get 1 0)) rfl rfl (fun _=>rfl) (cells_load (hs.cells 1 rfl) _ _ (part_get (i:=1) (fkI .i64).len x24.Qav 0 g21.1 g21.2 [] (encB x24.QaU) (by simp [Qaf,encI,encB,encS]) (by first|rfl|simp [encAI_len,encAB_len,encA_len]))) (g_d rfl ?_)
  refine Qab (v:=int .i64 (i64w ((i64w ((i64w ((i64w ((i64w ((a1.Qav.get 0 0)+(a1.Qav.get 1 0)))+(a1.Qav.get 2 0)))+(a1.Qav.get 3 0))) - (x24.Qav.get 0 0))) - (x24.Qav.get 1 0)))) rfl rfl rfl (g_d rfl ?_)
  try dsimp only [set0,setS]
  refine Qab (v:=pointer (some ⟨b10,0,none⟩)) rfl rfl rfl (g_d rfl ?_)
  obtain ⟨g22,H⟩:=ite_get H
  refine Qa1 (n:=2) (m:=1) rfl (fun _=>rfl) g22.1 g22.2 rfl rfl rfl rfl rfl (g_d rfl ?_)
  refine Qaz rfl rfl (v:=int .i64 (x24.Qav.get 2 0)) rfl rfl (fun _=>rfl) (cells_load (hs.cells 1 rfl) _ _ (part_get (i:=2) (fkI .i64).len x24.Qav 0 g22.1 g22.2 [] (encB x24.QaU) (by simp [Qaf,encI,encB,encS]) (by first|rfl|simp [encAI_len,encAB_len,encA_len]))) (g_d rfl ?_)
  try dsimp only [set0,setS]
  refine Qab (v:=int .i64 (i64w ((i64w ((i64w ((i64w ((i64w ((i64w ((a1.Qav.get 0 0)+(a1.Qav.get 1 0)))+(a1.Qav.get 2 0)))+(a1.Qav.get 3 0))) - (x24.Qav.get 0 0))) - (x24.Qav.get 1 0))) - (x24.Qav.get 2 0)))) rfl rfl rfl (g_d rfl ?_)
  refine Qab (v:=pointer (some ⟨b10,0,none⟩)) rfl rfl rfl (g_d rfl ?_)
  obtain ⟨g23,H⟩:=ite_get H
  refine Qa1 (n:=3) (m:=1) rfl (fun _=>rfl) g23.1 g23.2 rfl rfl rfl rfl rfl (g_d rfl ?_)
  try dsimp only [set0,setS]
  have hs:St _ [_,_] _:=hs.pull 1 rfl
  refine Qcq (y:=i64w ((i64w ((i64w ((i64w ((i64w ((i64w ((a1.Qav.get 0 0)+(a1.Qav.get 1 0)))+(a1.Qav.get 2 0)))+(a1.Qav.get 3 0))) - (x24.Qav.get 0 0))) - (x24.Qav.get 1 0))) - (x24.Qav.get 2 0))) (a:=x24.Qav) (fkI .i64).len (fkI .i64).one g23.1 g23.2 [] (encB x24.QaU) (by simp [Qaf,encI,encB,encS]) (by first|rfl|simp [encAI_len,encAB_len,encA_len]) hs rfl rfl (cs':=(Qaf (⟨x24.Qav.set 3 (i64w ((i64w ((i64w ((i64w ((i64w ((i64w ((a1.Qav.get 0 0)+(a1.Qav.get 1 0)))+(a1.Qav.get 2 0)))+(a1.Qav.get 3 0))) - (x24.Qav.get 0 0))) - (x24.Qav.get 1 0))) - (x24.Qav.get 2 0))),x24.QaU⟩:Qac))) (by simp [Qaf,encI,encB,encS]) rfl rfl rfl (fun _=>rfl) ?_
  intro w hs
  refine g_n rfl (Qaa (Qag (Qan [0,1] rfl ?_)))
  refine QaG rfl rfl (es:=(Qaf (⟨x24.Qav.set 3 (i64w ((i64w ((i64w ((i64w ((i64w ((i64w ((a1.Qav.get 0 0)+(a1.Qav.get 1 0)))+(a1.Qav.get 2 0)))+(a1.Qav.get 3 0))) - (x24.Qav.get 0 0))) - (x24.Qav.get 1 0))) - (x24.Qav.get 2 0))),x24.QaU⟩:Qac))) rfl rfl (fun _=>rfl) (n:=5) (fun _=>rfl) (Qbc.len _) (cells_all (hs.cells 0 rfl)) ?_
  refine g_d rfl ?_
  have hs:St _ [_,_] _:=hs.pull 1 rfl
  refine Qa9 (n:=5) hs (Qbc.len _) rfl rfl (vs:=(Qaf (⟨x24.Qav.set 3 (i64w ((i64w ((i64w ((i64w ((i64w ((i64w ((a1.Qav.get 0 0)+(a1.Qav.get 1 0)))+(a1.Qav.get 2 0)))+(a1.Qav.get 3 0))) - (x24.Qav.get 0 0))) - (x24.Qav.get 1 0))) - (x24.Qav.get 2 0))),x24.QaU⟩:Qac))) rfl rfl rfl (fun _=>rfl) (Qbc.len _) (Qbc.one _) ?_
  intro w hs
  refine g_n rfl (Qaa ?_)
  obtain rfl:=QsJ H
  refine QaK Try.func79 (v:=agg (Qaf (⟨x24.Qav.set 3 (i64w ((i64w ((i64w ((i64w ((i64w ((i64w ((a1.Qav.get 0 0)+(a1.Qav.get 1 0)))+(a1.Qav.get 2 0)))+(a1.Qav.get 3 0))) - (x24.Qav.get 0 0))) - (x24.Qav.get 1 0))) - (x24.Qav.get 2 0))),x24.QaU⟩:Qac)).toArray) (resC rfl ⟨⟨_,rfl,(run_loadVar_agg (es:=(Qaf (⟨x24.Qav.set 3 (i64w ((i64w ((i64w ((i64w ((i64w ((i64w ((a1.Qav.get 0 0)+(a1.Qav.get 1 0)))+(a1.Qav.get 2 0)))+(a1.Qav.get 3 0))) - (x24.Qav.get 0 0))) - (x24.Qav.get 1 0))) - (x24.Qav.get 2 0))),x24.QaU⟩:Qac))) rfl (congrArg (Result.ok · _) (Qbc.len _).symm) (cells_all (hs.cells 0 rfl)))⟩,trivial⟩) ?_
  have hs:St _ [] _:=St.take (Γ':=[_,_]) hs
  exact ⟨_,rfl,rfl,hs⟩
 intro ha
 refine Qan [0,1] rfl ?_
 refine Qab (v:=int .i64 a3) rfl rfl rfl (g_d rfl ?_)
 refine QaR (B:=a3==0) rfl rfl rfl ?_ ?_
 ·
  intro hb
  rw [if_pos (b_beq_t hb)] at H
  refine g_d rfl (Qaa (Qaw rfl (Qag (Qag (Qan [0] rfl ?_)))))
  refine Qab (v:=int .i64 0) rfl rfl rfl (g_d rfl (Qaa ?_))
  obtain ⟨o1_,Ho,Hr1_⟩:=bind_get H
  refine Qa2 (J:=fun t w=>∃ x15:Qac,QaM.a1 N a1 x15=some r∧Fr t (fun O=>(O 0::O 1::O 2::pointer (some ⟨b4,0,none⟩)::O 4::O 5::pointer (some ⟨b8,0,none⟩)::pointer (some ⟨b10,0,none⟩)::int .i64 (i64w ((i64w ((i64w ((a1.Qav.get 0 0)+(a1.Qav.get 1 0)))+(a1.Qav.get 2 0)))+(a1.Qav.get 3 0)))::O 9::oT O 1 (oT O 2 (oT O 3 (oT O 4 (oT O 5 (oT O 6 (oT O 7 (oT O 8 (O 90::O 91::O 92::O 93::[])))))))):List Value))∧St w0 [Cells b4 (Qaf a1) 71,Cells b8 (Qaf QbC) 71,Cells b10 (Qaf x15) 71] w) ?_ ?_
  ·
   rintro t w ⟨x15,H,hf,hs⟩
   obtain ⟨O,rfl⟩:=hf.open
   try dsimp only [oT]
   unfold QaM.a1 at H
   refine Qan [0,1,2,3] rfl ?_
   refine Qab (v:=pointer (some ⟨b4,4,none⟩)) rfl rfl rfl (g_d rfl ?_)
   refine Qaz rfl rfl (v:=bool a1.QaU) rfl rfl (fun _=>rfl) (cells_load (hs.cells 0 rfl) 4 1 (by first|rfl|(simp only [Qaf];simp [List.drop_append,List.take_append,encAI_len,encAB_len,List.take_of_length_le]))) (g_d rfl ?_)
   try dsimp only [set0,setS]
   refine Qab (v:=pointer (some ⟨b10,4,none⟩)) rfl rfl rfl (g_d rfl ?_)
   have hs:St _ [_,_,_] _:=hs.pull 2 rfl
   refine Qb8 hs rfl rfl (vs:=(encB a1.QaU)) (cs':=(Qaf (⟨x15.Qav,a1.QaU⟩:Qac))) rfl rfl rfl (n:=1) (fun _=>rfl) (fkB.len _) (by first|exact Nat.le_of_ble_eq_true rfl|exact fld_fit (pre:=((encA (encI .i64)) x15.Qav)) (old:=(encB x15.QaU)) (post:=[]) (by simp [Qaf,encI,encB,encS]) (by first|rfl|simp [encAI_len,encAB_len,encA_len]) (by first|rfl|simp [encAI_len,encAB_len,encA_len])|simp [encAI_len,encAB_len,encA_len]) (fkB.one _) (by first|rfl|exact fld_put (pre:=((encA (encI .i64)) x15.Qav)) (old:=(encB x15.QaU)) (post:=[]) (by simp [Qaf,encI,encB,encS]) (by first|rfl|simp [encAI_len,encAB_len,encA_len]) (by first|rfl|simp [encAI_len,encAB_len,encA_len]) (by simp [Qaf,encI,encB,encS])) ?_
   intro w hs
   refine g_n rfl (Qaa ?_)
   have hs:=hs.pull 0 rfl
   have hs:=hs.pull 2 rfl
   have hs:St _ [_,_] _:=St.take (Γ':=[_]) hs
   exact ha _ _ ⟨(⟨x15.Qav,a1.QaU⟩:Qac),H,rfl,hs⟩
  intro ha1_
  have hs:=hs.pull 0 rfl
  have hs:=hs.pull 1 rfl
  have hs:=hs.pull 2 rfl
  have hs:=hs.pull 3 rfl
  have hs:St _ [_,_,_,_] _:=St.take (Γ':=[]) hs
  refine Qbk (I:=fun n_ t w=>∃ x13:Qac,∃ x14:Int,rounds (fun s=>QaM.b1 N a1 a2 s.1 s.2) n_ (x13,x14)=some o1_∧Fr t (fun O=>(O 0::O 1::O 2::pointer (some ⟨b4,0,none⟩)::pointer (some ⟨b6,0,none⟩)::O 5::pointer (some ⟨b8,0,none⟩)::pointer (some ⟨b10,0,none⟩)::int .i64 (i64w ((i64w ((i64w ((a1.Qav.get 0 0)+(a1.Qav.get 1 0)))+(a1.Qav.get 2 0)))+(a1.Qav.get 3 0)))::O 9::oT O 1 (oT O 2 (int .i64 x14::O 31::O 32::O 33::O 34::O 35::O 36::O 37::O 38::O 39::oT O 4 (oT O 5 (oT O 6 (oT O 7 (oT O 8 (O 90::O 91::O 92::O 93::[]))))))):List Value))∧St w0 [Cells b4 (Qaf a1) 71,Cells b6 (QaA a2) 111,Cells b8 (Qaf QbC) 71,Cells b10 (Qaf x13) 71] w) N ⟨(⟨(Ar.rep 4 0),false⟩:Qac),0,Ho,rfl,hs⟩ ?_ ?_
  ·
   rintro _ _ ⟨x13,x14,h,_⟩
   exact rounds_zero h
  intro n_ ih1_
  rintro t w ⟨x13,x14,Ho,hf,hs⟩
  obtain ⟨O,rfl⟩:=hf.open
  try dsimp only [oT]
  obtain ⟨x13_,H,Hx1_⟩:=rounds_succ Ho
  have H:QaM.b1 N a1 a2 x13 x14=some x13_:=H
  unfold QaM.b1 at H
  refine Qag (Qan [0] rfl ?_)
  refine QaR (B:=decide (x14< 3)) rfl rfl rfl ?_ ?_
  ·
   intro hb
   rw [if_pos (b_dec_t hb)] at H
   refine g_d rfl (Qaa (Qag (Qaw rfl (QaS (Qag ?_)))))
   refine QbP (Qag (Qan [0,1] rfl ?_))
   refine Qab (v:=int .i64 x14) rfl rfl rfl (g_d rfl ?_)
   refine Qab (v:=int .i64 x14) rfl rfl rfl (g_d rfl ?_)
   try dsimp only [set0,setS]
   refine Qaa ?_
   obtain ⟨gd9,H⟩:=ite_get H
   obtain ⟨gd10,H⟩:=ite_get H
   obtain ⟨gd11,H⟩:=ite_get H
   obtain ⟨gd12,H⟩:=ite_get H
   refine QbT ?_
   intro T hT
   refine Qcg (n:=18) rfl [0,1,2,3,4,5,6,7,8,9,10,11,12,13,14,15,16,17] [0,1,2,3,4,5,6,7,8,9,10,11,12,13,14,15,16,17] rfl rfl (Inv:=fun D t w=>∃ O:Nat→Value,t=(O 0::O 1::O 2::pointer (some ⟨b4,0,none⟩)::pointer (some ⟨b6,0,none⟩)::O 5::pointer (some ⟨b8,0,none⟩)::pointer (some ⟨b10,0,none⟩)::int .i64 (i64w ((i64w ((i64w ((a1.Qav.get 0 0)+(a1.Qav.get 1 0)))+(a1.Qav.get 2 0)))+(a1.Qav.get 3 0)))::int .i64 x14::oT O 1 (oT O 2 (int .i64 x14::bool true::int .i64 x14::cnd (D 0) (int .i64 x14) (O 33)::cnd (D 1) (int .i64 x14) (O 34)::cnd (D 2) (pointer (some ⟨b4,0,none⟩)) (O 35)::cnd (D 3) (pointer (some ⟨b4,0+x14.toNat*1,none⟩)) (O 36)::cnd (D 4) (int .i64 (a1.Qav.get x14 0)) (O 37)::cnd (D 5) (int .i64 x14) (O 38)::cnd (D 6) (pointer (some ⟨b6,0,none⟩)) (O 39)::cnd (D 7) (pointer (some ⟨b6,0+x14.toNat*1,none⟩)) (O 40)::cnd (D 8) (int .i64 (a2.Qao.get x14 0)) (O 41)::cnd (D 9) (int .i64 (i64w ((a1.Qav.get x14 0) - (a2.Qao.get x14 0)))) (O 42)::cnd (D 10) (int .i64 x14) (O 43)::cnd (D 11) (pointer (some ⟨b6,4,none⟩)) (O 44)::cnd (D 12) (pointer (some ⟨b6,4+x14.toNat*1,none⟩)) (O 45)::cnd (D 13) (int .i64 (a2.Qaj.get x14 0)) (O 46)::cnd (D 14) (int .i64 (i64w ((i64w ((a1.Qav.get x14 0) - (a2.Qao.get x14 0))) - (a2.Qaj.get x14 0)))) (O 47)::cnd (D 15) (pointer (some ⟨b10,0,none⟩)) (O 48)::cnd (D 16) (pointer (some ⟨b10,0+x14.toNat*1,none⟩)) (O 49)::oT O 5 (oT O 6 (oT O 7 (oT O 8 (O 90::O 91::O 92::O 93::[])))))))∧St w0 [Cells b4 (Qaf a1) 71,Cells b6 (QaA a2) 111,Cells b8 (Qaf QbC) 71,Cells b10 (cnd (D 17) (Qaf (⟨x13.Qav.set x14 (i64w ((i64w ((a1.Qav.get x14 0) - (a2.Qao.get x14 0))) - (a2.Qaj.get x14 0))),x13.QaU⟩:Qac)) (Qaf x13)) 71] w) ?_ ⟨⟨⟨⟨⟨⟨⟨⟨⟨⟨⟨⟨⟨⟨⟨⟨⟨⟨trivial,?_⟩,?_⟩,?_⟩,?_⟩,?_⟩,?_⟩,?_⟩,?_⟩,?_⟩,?_⟩,?_⟩,?_⟩,?_⟩,?_⟩,?_⟩,?_⟩,?_⟩,?_⟩ ?_
   ·
    intro w hh hbw
    have hs:=hs.samew hh hbw
    exact ⟨fun i=>T.getD i undef,(by subst hT;rfl),hs⟩
   ·
    rintro D t w hD hp hcl ⟨O,ht,hs⟩ rest hk
    have q16_:=nz hcl 16 1 hD
    have q17_:=nz hcl 17 0 q16_
    simp only [hD,q16_,q17_,cq,oT] at ht hs
    subst ht
    refine Qab (v:=int .i64 x14) rfl rfl rfl (g_d rfl ?_)
    try dsimp only [set0,setS]
    refine hk _ _ ⟨O,?_,hs.cast ?_⟩<;>simp only [oT,lq,cq,Nat.reduceBEq,q16_,q17_]
   ·
    rintro D t w hD hp hcl ⟨O,ht,hs⟩ rest hk
    have q3_:=nz hcl 3 1 hD
    have q4_:=nz hcl 4 0 q3_
    have q9_:=nz hcl 9 0 q4_
    have q14_:=nz hcl 14 0 q9_
    have q16_:=nz hcl 16 3 hD
    have q17_:=nz hcl 17 0 q16_
    simp only [hD,q3_,q4_,q9_,q14_,q16_,q17_,cq,oT] at ht hs
    subst ht
    refine Qab (v:=int .i64 x14) rfl rfl rfl (g_d rfl ?_)
    try dsimp only [set0,setS]
    refine hk _ _ ⟨O,?_,hs.cast ?_⟩<;>simp only [oT,lq,cq,Nat.reduceBEq,q3_,q4_,q9_,q14_,q16_,q17_]
   ·
    rintro D t w hD hp hcl ⟨O,ht,hs⟩ rest hk
    have q3_:=nz hcl 3 0 hD
    have q4_:=nz hcl 4 0 q3_
    have q9_:=nz hcl 9 0 q4_
    have q14_:=nz hcl 14 0 q9_
    have q16_:=nz hcl 16 4 hD
    have q17_:=nz hcl 17 0 q16_
    simp only [hD,q3_,q4_,q9_,q14_,q16_,q17_,cq,oT] at ht hs
    subst ht
    refine Qab (v:=pointer (some ⟨b4,0,none⟩)) rfl rfl rfl (g_d rfl ?_)
    try dsimp only [set0,setS]
    refine hk _ _ ⟨O,?_,hs.cast ?_⟩<;>simp only [oT,lq,cq,Nat.reduceBEq,q3_,q4_,q9_,q14_,q16_,q17_]
   ·
    rintro D t w hD hp hcl ⟨O,ht,hs⟩ rest hk
    obtain ⟨p2_,p1_,_⟩:=hp
    have q4_:=nz hcl 4 0 hD
    have q9_:=nz hcl 9 0 q4_
    have q14_:=nz hcl 14 0 q9_
    have q16_:=nz hcl 16 5 hD
    have q17_:=nz hcl 17 0 q16_
    simp only [hD,p1_,p2_,q4_,q9_,q14_,q16_,q17_,cq,oT] at ht hs
    subst ht
    refine Qa1 (n:=x14) (m:=1) rfl (fun _=>rfl) gd9.1 gd9.2 rfl rfl rfl rfl rfl (g_d rfl ?_)
    try dsimp only [set0,setS]
    refine hk _ _ ⟨O,?_,hs.cast ?_⟩<;>simp only [oT,lq,cq,Nat.reduceBEq,p1_,p2_,q4_,q9_,q14_,q16_,q17_]
   ·
    rintro D t w hD hp hcl ⟨O,ht,hs⟩ rest hk
    obtain ⟨p3_,_⟩:=hp
    obtain ⟨p2_,p1_,_⟩:=(hcl.get 3 (by decide)) p3_
    have q9_:=nz hcl 9 0 hD
    have q14_:=nz hcl 14 0 q9_
    have q16_:=nz hcl 16 6 hD
    have q17_:=nz hcl 17 0 q16_
    simp only [hD,p1_,p2_,p3_,q9_,q14_,q16_,q17_,cq,oT] at ht hs
    subst ht
    refine Qaz rfl rfl (v:=int .i64 (a1.Qav.get x14 0)) rfl rfl (fun _=>rfl) (cells_load (hs.cells 0 rfl) _ _ (part_get (i:=x14) (fkI .i64).len a1.Qav 0 gd9.1 gd9.2 [] (encB a1.QaU) (by simp [Qaf,encI,encB,encS]) (by first|rfl|simp [encAI_len,encAB_len,encA_len]))) (g_d rfl ?_)
    try dsimp only [set0,setS]
    refine hk _ _ ⟨O,?_,hs.cast ?_⟩<;>simp only [oT,lq,cq,Nat.reduceBEq,p1_,p2_,p3_,q9_,q14_,q16_,q17_]
   ·
    rintro D t w hD hp hcl ⟨O,ht,hs⟩ rest hk
    have q7_:=nz hcl 7 1 hD
    have q8_:=nz hcl 8 0 q7_
    have q9_:=nz hcl 9 1 q8_
    have q14_:=nz hcl 14 0 q9_
    have q16_:=nz hcl 16 7 hD
    have q17_:=nz hcl 17 0 q16_
    simp only [hD,q7_,q8_,q9_,q14_,q16_,q17_,cq,oT] at ht hs
    subst ht
    refine Qab (v:=int .i64 x14) rfl rfl rfl (g_d rfl ?_)
    try dsimp only [set0,setS]
    refine hk _ _ ⟨O,?_,hs.cast ?_⟩<;>simp only [oT,lq,cq,Nat.reduceBEq,q7_,q8_,q9_,q14_,q16_,q17_]
   ·
    rintro D t w hD hp hcl ⟨O,ht,hs⟩ rest hk
    have q7_:=nz hcl 7 0 hD
    have q8_:=nz hcl 8 0 q7_
    have q9_:=nz hcl 9 1 q8_
    have q14_:=nz hcl 14 0 q9_
    have q16_:=nz hcl 16 8 hD
    have q17_:=nz hcl 17 0 q16_
    simp only [hD,q7_,q8_,q9_,q14_,q16_,q17_,cq,oT] at ht hs
    subst ht
    refine Qab (v:=pointer (some ⟨b6,0,none⟩)) rfl rfl rfl (g_d rfl ?_)
    try dsimp only [set0,setS]
    refine hk _ _ ⟨O,?_,hs.cast ?_⟩<;>simp only [oT,lq,cq,Nat.reduceBEq,q7_,q8_,q9_,q14_,q16_,q17_]
   ·
    rintro D t w hD hp hcl ⟨O,ht,hs⟩ rest hk
    obtain ⟨p6_,p5_,_⟩:=hp
    have q8_:=nz hcl 8 0 hD
    have q9_:=nz hcl 9 1 q8_
    have q14_:=nz hcl 14 0 q9_
    have q16_:=nz hcl 16 9 hD
    have q17_:=nz hcl 17 0 q16_
    simp only [hD,p5_,p6_,q8_,q9_,q14_,q16_,q17_,cq,oT] at ht hs
    subst ht
    refine Qa1 (n:=x14) (m:=1) rfl (fun _=>rfl) gd10.1 gd10.2 rfl rfl rfl rfl rfl (g_d rfl ?_)
    try dsimp only [set0,setS]
    refine hk _ _ ⟨O,?_,hs.cast ?_⟩<;>simp only [oT,lq,cq,Nat.reduceBEq,p5_,p6_,q8_,q9_,q14_,q16_,q17_]
   ·
    rintro D t w hD hp hcl ⟨O,ht,hs⟩ rest hk
    obtain ⟨p7_,_⟩:=hp
    obtain ⟨p6_,p5_,_⟩:=(hcl.get 7 (by decide)) p7_
    have q9_:=nz hcl 9 1 hD
    have q14_:=nz hcl 14 0 q9_
    have q16_:=nz hcl 16 10 hD
    have q17_:=nz hcl 17 0 q16_
    simp only [hD,p5_,p6_,p7_,q9_,q14_,q16_,q17_,cq,oT] at ht hs
    subst ht
    refine Qaz rfl rfl (v:=int .i64 (a2.Qao.get x14 0)) rfl rfl (fun _=>rfl) (cells_load (hs.cells 1 rfl) _ _ (part_get (i:=x14) (fkI .i64).len a2.Qao 0 gd10.1 gd10.2 [] ((encA (encI .i64)) a2.Qaj) (by simp [QaA,encI,encB,encS]) (by first|rfl|simp [encAI_len,encAB_len,encA_len]))) (g_d rfl ?_)
    try dsimp only [set0,setS]
    refine hk _ _ ⟨O,?_,hs.cast ?_⟩<;>simp only [oT,lq,cq,Nat.reduceBEq,p5_,p6_,p7_,q9_,q14_,q16_,q17_]
   ·
    rintro D t w hD hp hcl ⟨O,ht,hs⟩ rest hk
    obtain ⟨p4_,p8_,_⟩:=hp
    obtain ⟨p7_,_⟩:=(hcl.get 8 (by decide)) p8_
    obtain ⟨p6_,p5_,_⟩:=(hcl.get 7 (by decide)) p7_
    obtain ⟨p3_,_⟩:=(hcl.get 4 (by decide)) p4_
    obtain ⟨p2_,p1_,_⟩:=(hcl.get 3 (by decide)) p3_
    have q14_:=nz hcl 14 0 hD
    have q16_:=nz hcl 16 11 hD
    have q17_:=nz hcl 17 0 q16_
    simp only [hD,p1_,p2_,p3_,p4_,p5_,p6_,p7_,p8_,q14_,q16_,q17_,cq,oT] at ht hs
    subst ht
    refine Qab (v:=int .i64 (i64w ((a1.Qav.get x14 0) - (a2.Qao.get x14 0)))) rfl rfl rfl (g_d rfl ?_)
    try dsimp only [set0,setS]
    refine hk _ _ ⟨O,?_,hs.cast ?_⟩<;>simp only [oT,lq,cq,Nat.reduceBEq,p1_,p2_,p3_,p4_,p5_,p6_,p7_,p8_,q14_,q16_,q17_]
   ·
    rintro D t w hD hp hcl ⟨O,ht,hs⟩ rest hk
    have q12_:=nz hcl 12 1 hD
    have q13_:=nz hcl 13 0 q12_
    have q14_:=nz hcl 14 1 q13_
    have q16_:=nz hcl 16 12 hD
    have q17_:=nz hcl 17 0 q16_
    simp only [hD,q12_,q13_,q14_,q16_,q17_,cq,oT] at ht hs
    subst ht
    refine Qab (v:=int .i64 x14) rfl rfl rfl (g_d rfl ?_)
    try dsimp only [set0,setS]
    refine hk _ _ ⟨O,?_,hs.cast ?_⟩<;>simp only [oT,lq,cq,Nat.reduceBEq,q12_,q13_,q14_,q16_,q17_]
   ·
    rintro D t w hD hp hcl ⟨O,ht,hs⟩ rest hk
    have q12_:=nz hcl 12 0 hD
    have q13_:=nz hcl 13 0 q12_
    have q14_:=nz hcl 14 1 q13_
    have q16_:=nz hcl 16 13 hD
    have q17_:=nz hcl 17 0 q16_
    simp only [hD,q12_,q13_,q14_,q16_,q17_,cq,oT] at ht hs
    subst ht
    refine Qab (v:=pointer (some ⟨b6,4,none⟩)) rfl rfl rfl (g_d rfl ?_)
    try dsimp only [set0,setS]
    refine hk _ _ ⟨O,?_,hs.cast ?_⟩<;>simp only [oT,lq,cq,Nat.reduceBEq,q12_,q13_,q14_,q16_,q17_]
   ·
    rintro D t w hD hp hcl ⟨O,ht,hs⟩ rest hk
    obtain ⟨p11_,p10_,_⟩:=hp
    have q13_:=nz hcl 13 0 hD
    have q14_:=nz hcl 14 1 q13_
    have q16_:=nz hcl 16 14 hD
    have q17_:=nz hcl 17 0 q16_
    simp only [hD,p10_,p11_,q13_,q14_,q16_,q17_,cq,oT] at ht hs
    subst ht
    refine Qa1 (n:=x14) (m:=1) rfl (fun _=>rfl) gd11.1 gd11.2 rfl rfl rfl rfl rfl (g_d rfl ?_)
    try dsimp only [set0,setS]
    refine hk _ _ ⟨O,?_,hs.cast ?_⟩<;>simp only [oT,lq,cq,Nat.reduceBEq,p10_,p11_,q13_,q14_,q16_,q17_]
   ·
    rintro D t w hD hp hcl ⟨O,ht,hs⟩ rest hk
    obtain ⟨p12_,_⟩:=hp
    obtain ⟨p11_,p10_,_⟩:=(hcl.get 12 (by decide)) p12_
    have q14_:=nz hcl 14 1 hD
    have q16_:=nz hcl 16 15 hD
    have q17_:=nz hcl 17 0 q16_
    simp only [hD,p10_,p11_,p12_,q14_,q16_,q17_,cq,oT] at ht hs
    subst ht
    refine Qaz rfl rfl (v:=int .i64 (a2.Qaj.get x14 0)) rfl rfl (fun _=>rfl) (cells_load (hs.cells 1 rfl) _ _ (part_get (i:=x14) (fkI .i64).len a2.Qaj 0 gd11.1 gd11.2 ((encA (encI .i64)) a2.Qao) [] (by simp [QaA,encI,encB,encS]) (by first|rfl|simp [encAI_len,encAB_len,encA_len]))) (g_d rfl ?_)
    try dsimp only [set0,setS]
    refine hk _ _ ⟨O,?_,hs.cast ?_⟩<;>simp only [oT,lq,cq,Nat.reduceBEq,p10_,p11_,p12_,q14_,q16_,q17_]
   ·
    rintro D t w hD hp hcl ⟨O,ht,hs⟩ rest hk
    obtain ⟨p9_,p13_,_⟩:=hp
    obtain ⟨p12_,_⟩:=(hcl.get 13 (by decide)) p13_
    obtain ⟨p11_,p10_,_⟩:=(hcl.get 12 (by decide)) p12_
    obtain ⟨p4_,p8_,_⟩:=(hcl.get 9 (by decide)) p9_
    obtain ⟨p7_,_⟩:=(hcl.get 8 (by decide)) p8_
    obtain ⟨p6_,p5_,_⟩:=(hcl.get 7 (by decide)) p7_
    obtain ⟨p3_,_⟩:=(hcl.get 4 (by decide)) p4_
    obtain ⟨p2_,p1_,_⟩:=(hcl.get 3 (by decide)) p3_
    have q16_:=nz hcl 16 16 hD
    have q17_:=nz hcl 17 0 q16_
    simp only [hD,p1_,p2_,p3_,p4_,p5_,p6_,p7_,p8_,p9_,p10_,p11_,p12_,p13_,q16_,q17_,cq,oT] at ht hs
    subst ht
    refine Qab (v:=int .i64 (i64w ((i64w ((a1.Qav.get x14 0) - (a2.Qao.get x14 0))) - (a2.Qaj.get x14 0)))) rfl rfl rfl (g_d rfl ?_)
    try dsimp only [set0,setS]
    refine hk _ _ ⟨O,?_,hs.cast ?_⟩<;>simp only [oT,lq,cq,Nat.reduceBEq,p1_,p2_,p3_,p4_,p5_,p6_,p7_,p8_,p9_,p10_,p11_,p12_,p13_,q16_,q17_]
   ·
    rintro D t w hD hp hcl ⟨O,ht,hs⟩ rest hk
    have q16_:=nz hcl 16 0 hD
    have q17_:=nz hcl 17 0 q16_
    simp only [hD,q16_,q17_,cq,oT] at ht hs
    subst ht
    refine Qab (v:=pointer (some ⟨b10,0,none⟩)) rfl rfl rfl (g_d rfl ?_)
    try dsimp only [set0,setS]
    refine hk _ _ ⟨O,?_,hs.cast ?_⟩<;>simp only [oT,lq,cq,Nat.reduceBEq,q16_,q17_]
   ·
    rintro D t w hD hp hcl ⟨O,ht,hs⟩ rest hk
    obtain ⟨p15_,p0_,_,p1_,p2_,p3_,p4_,p5_,p6_,p7_,p8_,p9_,p10_,p11_,p12_,p13_,p14_,_⟩:=hp
    have q17_:=nz hcl 17 0 hD
    simp only [hD,p0_,p1_,p2_,p3_,p4_,p5_,p6_,p7_,p8_,p9_,p10_,p11_,p12_,p13_,p14_,p15_,q17_,cq,oT] at ht hs
    subst ht
    refine Qa1 (n:=x14) (m:=1) rfl (fun _=>rfl) gd12.1 gd12.2 rfl rfl rfl rfl rfl (g_d rfl ?_)
    try dsimp only [set0,setS]
    refine hk _ _ ⟨O,?_,hs.cast ?_⟩<;>simp only [oT,lq,cq,Nat.reduceBEq,p0_,p1_,p2_,p3_,p4_,p5_,p6_,p7_,p8_,p9_,p10_,p11_,p12_,p13_,p14_,p15_,q17_]
   ·
    rintro D t w hD hp hcl ⟨O,ht,hs⟩ rest hk
    obtain ⟨p16_,p14_,p0_,p1_,p2_,p3_,p4_,p5_,p6_,p7_,p8_,p9_,p10_,p11_,p12_,p13_,_,_⟩:=hp
    obtain ⟨p15_,_,_,_,_,_,_,_,_,_,_,_,_,_,_,_,_,_⟩:=(hcl.get 16 (by decide)) p16_
    simp only [hD,p0_,p1_,p2_,p3_,p4_,p5_,p6_,p7_,p8_,p9_,p10_,p11_,p12_,p13_,p14_,p15_,p16_,cq,oT] at ht hs
    subst ht
    have hs:St _ [_,_,_,_] _:=hs.pull 3 rfl
    refine Qcq (y:=i64w ((i64w ((a1.Qav.get x14 0) - (a2.Qao.get x14 0))) - (a2.Qaj.get x14 0))) (a:=x13.Qav) (fkI .i64).len (fkI .i64).one gd12.1 gd12.2 [] (encB x13.QaU) (by simp [Qaf,encI,encB,encS]) (by first|rfl|simp [encAI_len,encAB_len,encA_len]) hs rfl rfl (cs':=(Qaf (⟨x13.Qav.set x14 (i64w ((i64w ((a1.Qav.get x14 0) - (a2.Qao.get x14 0))) - (a2.Qaj.get x14 0))),x13.QaU⟩:Qac))) (by simp [Qaf,encI,encB,encS]) rfl rfl rfl (fun _=>rfl) ?_
    intro w hs
    refine g_n rfl ?_
    try dsimp only [set0,setS]
    have hs:=hs.push 3 (by simp)
    refine hk _ _ ⟨O,?_,hs.cast ?_⟩<;>simp only [oT,lq,cq,Nat.reduceBEq,p0_,p1_,p2_,p3_,p4_,p5_,p6_,p7_,p8_,p9_,p10_,p11_,p12_,p13_,p14_,p15_,p16_]
   intro D t w hall hI
   obtain ⟨O,ht,hs⟩:=hI
   have p0_:=hall 0 (by decide)
   have p1_:=hall 1 (by decide)
   have p2_:=hall 2 (by decide)
   have p3_:=hall 3 (by decide)
   have p4_:=hall 4 (by decide)
   have p5_:=hall 5 (by decide)
   have p6_:=hall 6 (by decide)
   have p7_:=hall 7 (by decide)
   have p8_:=hall 8 (by decide)
   have p9_:=hall 9 (by decide)
   have p10_:=hall 10 (by decide)
   have p11_:=hall 11 (by decide)
   have p12_:=hall 12 (by decide)
   have p13_:=hall 13 (by decide)
   have p14_:=hall 14 (by decide)
   have p15_:=hall 15 (by decide)
   have p16_:=hall 16 (by decide)
   have p17_:=hall 17 (by decide)
   simp only [p0_,p1_,p2_,p3_,p4_,p5_,p6_,p7_,p8_,p9_,p10_,p11_,p12_,p13_,p14_,p15_,p16_,p17_,cq,oT] at ht hs
   subst ht
   refine Qa5 (Qan [0,1] rfl ?_)
   refine Qab (v:=int .i64 (i64w (x14+1))) rfl rfl rfl (g_d rfl ?_)
   refine Qab (v:=int .i64 (i64w (x14+1))) rfl rfl rfl (g_d rfl (Qaa ?_))
   obtain rfl:=QsJ H
   have hs:=hs.pull 3 rfl
   have hs:=hs.pull 3 rfl
   have hs:=hs.pull 3 rfl
   have hs:=hs.pull 3 rfl
   have hs:St _ [_,_,_,_] _:=St.take (Γ':=[]) hs
   exact ih1_ _ _ ⟨(⟨x13.Qav.set x14 (i64w ((i64w ((a1.Qav.get x14 0) - (a2.Qao.get x14 0))) - (a2.Qaj.get x14 0))),x13.QaU⟩:Qac),i64w (x14+1),Hx1_,rfl,hs⟩
  intro hb
  rw [if_neg (b_dec_f hb)] at H
  refine g_d rfl ?_
  try dsimp only [set0,setS]
  refine Qaa (Qag (Qax rfl ?_))
  obtain rfl:=QsJ H
  subst Hx1_
  have hs:=hs.pull 3 rfl
  have hs:=hs.pull 3 rfl
  have hs:=hs.pull 2 rfl
  have hs:St _ [_,_,_] _:=St.take (Γ':=[_]) hs
  refine QbG rfl ?_
  exact ha1_ _ _ ⟨x13,Hr1_,rfl,hs⟩
 intro hb
 rw [if_neg (b_beq_f hb)] at H
 refine g_d rfl ?_
 try dsimp only [set0,setS]
 refine Qaa (Qax rfl (Qag ?_))
 refine QbT ?_
 intro T hT
 refine Qcg (n:=8) rfl [0,1,2,3,4,5,6,7] [0,1,5,6,2,3,4,7] rfl rfl (Inv:=fun D t w=>∃ b16:Nat,∃ b18:Nat,∃ O:Nat→Value,t=(agg (Qaf a1).toArray::agg (QaA a2).toArray::int .i64 a3::pointer (some ⟨b4,0,none⟩)::pointer (some ⟨b6,0,none⟩)::O 5::pointer (some ⟨b8,0,none⟩)::pointer (some ⟨b10,0,none⟩)::int .i64 (i64w ((i64w ((i64w ((a1.Qav.get 0 0)+(a1.Qav.get 1 0)))+(a1.Qav.get 2 0)))+(a1.Qav.get 3 0)))::O 9::cnd (D 4) (pointer (some ⟨b16,0,none⟩)) (O 10)::cnd (D 5) (pointer (some ⟨b18,0,none⟩)) (O 11)::agg (Qaf (⟨(Ar.rep 4 0),false⟩:Qac)).toArray::pointer (some ⟨b4,0,none⟩)::pointer (some ⟨b4,0+(0:Int).toNat*1,none⟩)::int .i64 (a1.Qav.get 0 0)::pointer (some ⟨b4,0,none⟩)::pointer (some ⟨b4,0+(1:Int).toNat*1,none⟩)::int .i64 (a1.Qav.get 1 0)::int .i64 (i64w ((a1.Qav.get 0 0)+(a1.Qav.get 1 0)))::pointer (some ⟨b4,0,none⟩)::pointer (some ⟨b4,0+(2:Int).toNat*1,none⟩)::int .i64 (a1.Qav.get 2 0)::int .i64 (i64w ((i64w ((a1.Qav.get 0 0)+(a1.Qav.get 1 0)))+(a1.Qav.get 2 0)))::pointer (some ⟨b4,0,none⟩)::pointer (some ⟨b4,0+(3:Int).toNat*1,none⟩)::int .i64 (a1.Qav.get 3 0)::int .i64 (i64w ((i64w ((i64w ((a1.Qav.get 0 0)+(a1.Qav.get 1 0)))+(a1.Qav.get 2 0)))+(a1.Qav.get 3 0)))::int .i64 a3::bool false::oT O 3 (oT O 4 (O 50::O 51::O 52::O 53::cnd (D 0) (pointer (some ⟨b6,0,none⟩)) (O 54)::cnd (D 1) (agg ((encA (encI .i64)) a2.Qao).toArray) (O 55)::cnd (D 2) (pointer (some ⟨b6,4,none⟩)) (O 56)::cnd (D 3) (agg ((encA (encI .i64)) a2.Qaj).toArray) (O 57)::O 58::O 59::oT O 6 (oT O 7 (oT O 8 (O 90::O 91::O 92::O 93::[]))))))∧St w0 [Asc (D 4) (Cells b16 (cnd (D 6) ((encA (encI .i64)) a2.Qao) ((encA (encI .i64)) (Ar.rep 4 0))) 69),Asc (D 5) (Cells b18 (cnd (D 7) ((encA (encI .i64)) a2.Qaj) ((encA (encI .i64)) (Ar.rep 4 0))) 69),Cells b10 (Qaf (⟨(Ar.rep 4 0),false⟩:Qac)) 71,Cells b8 (Qaf QbC) 71,Cells b6 (QaA a2) 111,Cells b4 (Qaf a1) 71] w) ?_ ⟨⟨⟨⟨⟨⟨⟨⟨trivial,?_⟩,?_⟩,?_⟩,?_⟩,?_⟩,?_⟩,?_⟩,?_⟩ ?_
 ·
  intro w hh hbw
  have hs:=hs.samew hh hbw
  have hs:=hs.emp
  have hs:=hs.emp
  exact ⟨0,0,fun i=>T.getD i undef,(by subst hT;rfl),hs⟩
 ·
  rintro D t w hD hp hcl ⟨b16,b18,O,ht,hs⟩ rest hk
  have q1_:=nz hcl 1 0 hD
  have q6_:=nz hcl 6 1 q1_
  have q7_:=nz hcl 7 2 q6_
  simp only [hD,q1_,q6_,q7_,cq,oT] at ht hs
  subst ht
  refine Qab (v:=pointer (some ⟨b6,0,none⟩)) rfl rfl rfl (g_d rfl ?_)
  try dsimp only [set0,setS]
  refine hk _ _ ⟨b16,b18,O,?_,hs.cast ?_⟩<;>simp only [oT,lq,cq,Nat.reduceBEq,q1_,q6_,q7_]
 ·
  rintro D t w hD hp hcl ⟨b16,b18,O,ht,hs⟩ rest hk
  obtain ⟨p0_,_⟩:=hp
  have q6_:=nz hcl 6 1 hD
  have q7_:=nz hcl 7 2 q6_
  simp only [hD,p0_,q6_,q7_,cq,oT] at ht hs
  subst ht
  refine QaG rfl rfl (es:=((encA (encI .i64)) a2.Qao)) rfl rfl (fun _=>rfl) (n:=4) (fun _=>rfl) ((fkA (n:=4) (he:=(fkI .i64).len) (h1:=(fkI .i64).one)).len _) (cells_load (hs.cells 4 rfl) 0 4 (by simp only [QaA];first|rfl|exact List.take_of_length_le (Nat.le_of_eq ((fkA (n:=4) (he:=(fkI .i64).len) (h1:=(fkI .i64).one)).len _))|simp [List.drop_append,List.take_append,encAI_len,encAB_len,encA_len,List.take_of_length_le])) ?_
  refine g_d rfl ?_
  try dsimp only [set0,setS]
  refine hk _ _ ⟨b16,b18,O,?_,hs.cast ?_⟩<;>simp only [oT,lq,cq,Nat.reduceBEq,p0_,q6_,q7_]
 ·
  rintro D t w hD hp hcl ⟨b16,b18,O,ht,hs⟩ rest hk
  have q3_:=nz hcl 3 0 hD
  have q7_:=nz hcl 7 1 q3_
  simp only [hD,q3_,q7_,cq,oT] at ht hs
  subst ht
  refine Qab (v:=pointer (some ⟨b6,4,none⟩)) rfl rfl rfl (g_d rfl ?_)
  try dsimp only [set0,setS]
  refine hk _ _ ⟨b16,b18,O,?_,hs.cast ?_⟩<;>simp only [oT,lq,cq,Nat.reduceBEq,q3_,q7_]
 ·
  rintro D t w hD hp hcl ⟨b16,b18,O,ht,hs⟩ rest hk
  obtain ⟨p2_,_⟩:=hp
  have q7_:=nz hcl 7 1 hD
  simp only [hD,p2_,q7_,cq,oT] at ht hs
  subst ht
  refine QaG rfl rfl (es:=((encA (encI .i64)) a2.Qaj)) rfl rfl (fun _=>rfl) (n:=4) (fun _=>rfl) ((fkA (n:=4) (he:=(fkI .i64).len) (h1:=(fkI .i64).one)).len _) (cells_load (hs.cells 4 rfl) 4 4 (by simp only [QaA];first|rfl|exact List.take_of_length_le (Nat.le_of_eq ((fkA (n:=4) (he:=(fkI .i64).len) (h1:=(fkI .i64).one)).len _))|simp [List.drop_append,List.take_append,encAI_len,encAB_len,encA_len,List.take_of_length_le])) ?_
  refine g_d rfl ?_
  try dsimp only [set0,setS]
  refine hk _ _ ⟨b16,b18,O,?_,hs.cast ?_⟩<;>simp only [oT,lq,cq,Nat.reduceBEq,p2_,q7_]
 ·
  rintro D t w hD hp hcl ⟨b16,b18,O,ht,hs⟩ rest hk
  have q6_:=nz hcl 6 0 hD
  have q7_:=nz hcl 7 2 q6_
  simp only [hD,q6_,q7_,cq,oT] at ht hs
  subst ht
  refine QbH hs rfl rfl (z:=(agg #[int .i64 0,int .i64 0,int .i64 0,int .i64 0])) (cs:=((encA (encI .i64)) (Ar.rep 4 0))) rfl (fun _=>rfl) rfl ?_
  intro b16 w hs
  refine g_d rfl ?_
  try dsimp only [set0,setS]
  have hs:=hs.fill 0 rfl
  refine hk _ _ ⟨b16,b18,O,?_,hs.cast ?_⟩<;>simp only [oT,lq,cq,Nat.reduceBEq,q6_,q7_]
 ·
  rintro D t w hD hp hcl ⟨b16,b18,O,ht,hs⟩ rest hk
  have q6_:=nz hcl 6 5 hD
  have q7_:=nz hcl 7 0 hD
  simp only [hD,q6_,q7_,cq,oT] at ht hs
  subst ht
  refine QbH hs rfl rfl (z:=(agg #[int .i64 0,int .i64 0,int .i64 0,int .i64 0])) (cs:=((encA (encI .i64)) (Ar.rep 4 0))) rfl (fun _=>rfl) rfl ?_
  intro b18 w hs
  refine g_d rfl ?_
  try dsimp only [set0,setS]
  have hs:=hs.fill 1 rfl
  refine hk _ _ ⟨b16,b18,O,?_,hs.cast ?_⟩<;>simp only [oT,lq,cq,Nat.reduceBEq,q6_,q7_]
 ·
  rintro D t w hD hp hcl ⟨b16,b18,O,ht,hs⟩ rest hk
  obtain ⟨p4_,p1_,p0_,_,_,p5_,_⟩:=hp
  have q7_:=nz hcl 7 2 hD
  simp only [hD,p0_,p1_,p4_,p5_,q7_,cq,oT] at ht hs
  subst ht
  refine Qa9 (n:=4) hs ((fkA (n:=4) (he:=(fkI .i64).len) (h1:=(fkI .i64).one)).len _) rfl rfl (vs:=((encA (encI .i64)) a2.Qao)) rfl rfl rfl (fun _=>rfl) ((fkA (n:=4) (he:=(fkI .i64).len) (h1:=(fkI .i64).one)).len _) ((fkA (n:=4) (he:=(fkI .i64).len) (h1:=(fkI .i64).one)).one _) ?_
  intro w hs
  refine g_n rfl ?_
  try dsimp only [set0,setS]
  have hs:=hs.push 0 (by simp)
  refine hk _ _ ⟨b16,b18,O,?_,hs.cast ?_⟩<;>simp only [oT,lq,cq,Nat.reduceBEq,p0_,p1_,p4_,p5_,q7_]
 ·
  rintro D t w hD hp hcl ⟨b16,b18,O,ht,hs⟩ rest hk
  obtain ⟨p5_,p3_,p6_,p0_,p1_,p2_,_,p4_,_,_,_⟩:=hp
  simp only [hD,p0_,p1_,p2_,p3_,p4_,p5_,p6_,cq,oT] at ht hs
  subst ht
  have hs:St _ [_,_,_,_,_,_] _:=hs.pull 1 rfl
  refine Qa9 (n:=4) hs ((fkA (n:=4) (he:=(fkI .i64).len) (h1:=(fkI .i64).one)).len _) rfl rfl (vs:=((encA (encI .i64)) a2.Qaj)) rfl rfl rfl (fun _=>rfl) ((fkA (n:=4) (he:=(fkI .i64).len) (h1:=(fkI .i64).one)).len _) ((fkA (n:=4) (he:=(fkI .i64).len) (h1:=(fkI .i64).one)).one _) ?_
  intro w hs
  refine g_n rfl ?_
  try dsimp only [set0,setS]
  have hs:=hs.push 1 (by simp)
  refine hk _ _ ⟨b16,b18,O,?_,hs.cast ?_⟩<;>simp only [oT,lq,cq,Nat.reduceBEq,p0_,p1_,p2_,p3_,p4_,p5_,p6_]
 intro D t w hall hI
 obtain ⟨b16,b18,O,ht,hs⟩:=hI
 have p0_:=hall 0 (by decide)
 have p1_:=hall 1 (by decide)
 have p2_:=hall 2 (by decide)
 have p3_:=hall 3 (by decide)
 have p4_:=hall 4 (by decide)
 have p5_:=hall 5 (by decide)
 have p6_:=hall 6 (by decide)
 have p7_:=hall 7 (by decide)
 simp only [p0_,p1_,p2_,p3_,p4_,p5_,p6_,p7_,cq,oT] at ht hs
 subst ht
 refine Qag (Qag ?_)
 refine QcB (J:=(fun t w=>∃ x22:(Ar Int 4),∃ x23:(Ar Int 4),QaM.j3 N a1 x22 x23=some r∧Fr t (fun O=>(O 0::O 1::O 2::O 3::O 4::O 5::pointer (some ⟨b8,0,none⟩)::pointer (some ⟨b10,0,none⟩)::int .i64 (i64w ((i64w ((i64w ((a1.Qav.get 0 0)+(a1.Qav.get 1 0)))+(a1.Qav.get 2 0)))+(a1.Qav.get 3 0)))::O 9::pointer (some ⟨b16,0,none⟩)::pointer (some ⟨b18,0,none⟩)::O 12::O 13::O 14::O 15::O 16::O 17::O 18::O 19::oT O 2 (oT O 3 (oT O 4 (oT O 5 (oT O 6 (oT O 7 (oT O 8 (O 90::O 91::O 92::O 93::[]))))))):List Value))∧St w0 [Cells b8 (Qaf QbC) 71,Cells b10 (Qaf (⟨(Ar.rep 4 0),false⟩:Qac)) 71,Cells b16 ((encA (encI .i64)) x22) 69,Cells b18 ((encA (encI .i64)) x23) 69] w)) ?_ ?_
 ·
  rintro t w ⟨x22,x23,H,hf,hs⟩
  obtain ⟨O,rfl⟩:=hf.open
  try dsimp only [oT]
  unfold QaM.j3 at H
  obtain ⟨gd14,H⟩:=ite_get H
  obtain ⟨gd15,H⟩:=ite_get H
  obtain ⟨gd16,H⟩:=ite_get H
  obtain ⟨gd17,H⟩:=ite_get H
  obtain ⟨gd18,H⟩:=ite_get H
  obtain ⟨gd19,H⟩:=ite_get H
  refine QbT ?_
  intro T hT
  refine Qcg (n:=16) rfl [0,1,2,3,4,5,6,7,8,9,10,11,12,13,14,15] [0,1,2,3,4,8,9,10,11,12,5,6,7,13,14,15] rfl rfl (Inv:=fun D t w=>∃ O:Nat→Value,t=(O 0::O 1::O 2::O 3::O 4::O 5::pointer (some ⟨b8,0,none⟩)::pointer (some ⟨b10,0,none⟩)::int .i64 (i64w ((i64w ((i64w ((a1.Qav.get 0 0)+(a1.Qav.get 1 0)))+(a1.Qav.get 2 0)))+(a1.Qav.get 3 0)))::O 9::pointer (some ⟨b16,0,none⟩)::pointer (some ⟨b18,0,none⟩)::O 12::O 13::O 14::O 15::O 16::O 17::O 18::O 19::oT O 2 (oT O 3 (oT O 4 (oT O 5 (O 60::O 61::O 62::O 63::cnd (D 0) (pointer (some ⟨b16,0+(0:Int).toNat*1,none⟩)) (O 64)::cnd (D 1) (int .i64 (x22.get 0 0)) (O 65)::cnd (D 2) (pointer (some ⟨b16,0+(1:Int).toNat*1,none⟩)) (O 66)::cnd (D 3) (int .i64 (x22.get 1 0)) (O 67)::cnd (D 4) (int .i64 (i64w ((x22.get 0 0)+(x22.get 1 0)))) (O 68)::cnd (D 5) (pointer (some ⟨b18,0+(0:Int).toNat*1,none⟩)) (O 69)::cnd (D 6) (int .i64 (x23.get 0 0)) (O 70)::cnd (D 7) (pointer (some ⟨b18,0+(2:Int).toNat*1,none⟩)) (O 71)::cnd (D 8) (int .i64 (x23.get 2 0)) (O 72)::cnd (D 9) (int .i64 (i64w ((x23.get 0 0)+(x23.get 2 0)))) (O 73)::cnd (D 10) (pointer (some ⟨b10,0,none⟩)) (O 74)::cnd (D 11) (pointer (some ⟨b10,0+(1:Int).toNat*1,none⟩)) (O 75)::cnd (D 13) (pointer (some ⟨b10,0,none⟩)) (O 76)::cnd (D 14) (pointer (some ⟨b10,0+(2:Int).toNat*1,none⟩)) (O 77)::O 78::O 79::oT O 8 (O 90::O 91::O 92::O 93::[]))))))∧St w0 [Cells b8 (Qaf QbC) 71,Cells b10 (cnd (D 15) (Qaf (⟨((⟨((⟨(Ar.rep 4 0),false⟩:Qac).Qav).set 1 (i64w ((x22.get 0 0)+(x22.get 1 0))),(⟨(Ar.rep 4 0),false⟩:Qac).QaU⟩:Qac).Qav).set 2 (i64w ((x23.get 0 0)+(x23.get 2 0))),(⟨((⟨(Ar.rep 4 0),false⟩:Qac).Qav).set 1 (i64w ((x22.get 0 0)+(x22.get 1 0))),(⟨(Ar.rep 4 0),false⟩:Qac).QaU⟩:Qac).QaU⟩:Qac)) (cnd (D 12) (Qaf (⟨((⟨(Ar.rep 4 0),false⟩:Qac).Qav).set 1 (i64w ((x22.get 0 0)+(x22.get 1 0))),(⟨(Ar.rep 4 0),false⟩:Qac).QaU⟩:Qac)) (Qaf (⟨(Ar.rep 4 0),false⟩:Qac)))) 71,Cells b16 ((encA (encI .i64)) x22) 69,Cells b18 ((encA (encI .i64)) x23) 69] w) ?_ ⟨⟨⟨⟨⟨⟨⟨⟨⟨⟨⟨⟨⟨⟨⟨⟨trivial,?_⟩,?_⟩,?_⟩,?_⟩,?_⟩,?_⟩,?_⟩,?_⟩,?_⟩,?_⟩,?_⟩,?_⟩,?_⟩,?_⟩,?_⟩,?_⟩ ?_
  ·
   intro w hh hbw
   have hs:=hs.samew hh hbw
   exact ⟨fun i=>T.getD i undef,(by subst hT;rfl),hs⟩
  ·
   rintro D t w hD hp hcl ⟨O,ht,hs⟩ rest hk
   have q1_:=nz hcl 1 0 hD
   have q4_:=nz hcl 4 0 q1_
   have q11_:=nz hcl 11 1 hD
   have q12_:=nz hcl 12 0 q11_
   have q14_:=nz hcl 14 1 hD
   have q15_:=nz hcl 15 0 q14_
   simp only [hD,q1_,q4_,q11_,q12_,q14_,q15_,cq,oT] at ht hs
   subst ht
   refine Qa1 (n:=0) (m:=1) rfl (fun _=>rfl) gd14.1 gd14.2 rfl rfl rfl rfl rfl (g_d rfl ?_)
   try dsimp only [set0,setS]
   refine hk _ _ ⟨O,?_,hs.cast ?_⟩<;>simp only [oT,lq,cq,Nat.reduceBEq,q1_,q4_,q11_,q12_,q14_,q15_]
  ·
   rintro D t w hD hp hcl ⟨O,ht,hs⟩ rest hk
   obtain ⟨p0_,_⟩:=hp
   have q4_:=nz hcl 4 0 hD
   have q11_:=nz hcl 11 2 hD
   have q12_:=nz hcl 12 0 q11_
   have q14_:=nz hcl 14 2 hD
   have q15_:=nz hcl 15 0 q14_
   simp only [hD,p0_,q4_,q11_,q12_,q14_,q15_,cq,oT] at ht hs
   subst ht
   refine Qaz rfl rfl (v:=int .i64 (x22.get 0 0)) rfl rfl (fun _=>rfl) (by rw [Nat.zero_add];exact cells_load (hs.cells 2 rfl) _ _ (encA_at (fkI .i64).len _ _ 0 gd14.1 gd14.2)) (g_d rfl ?_)
   try dsimp only [set0,setS]
   refine hk _ _ ⟨O,?_,hs.cast ?_⟩<;>simp only [oT,lq,cq,Nat.reduceBEq,p0_,q4_,q11_,q12_,q14_,q15_]
  ·
   rintro D t w hD hp hcl ⟨O,ht,hs⟩ rest hk
   have q3_:=nz hcl 3 0 hD
   have q4_:=nz hcl 4 1 q3_
   have q11_:=nz hcl 11 3 hD
   have q12_:=nz hcl 12 0 q11_
   have q14_:=nz hcl 14 3 hD
   have q15_:=nz hcl 15 0 q14_
   simp only [hD,q3_,q4_,q11_,q12_,q14_,q15_,cq,oT] at ht hs
   subst ht
   refine Qa1 (n:=1) (m:=1) rfl (fun _=>rfl) gd15.1 gd15.2 rfl rfl rfl rfl rfl (g_d rfl ?_)
   try dsimp only [set0,setS]
   refine hk _ _ ⟨O,?_,hs.cast ?_⟩<;>simp only [oT,lq,cq,Nat.reduceBEq,q3_,q4_,q11_,q12_,q14_,q15_]
  ·
   rintro D t w hD hp hcl ⟨O,ht,hs⟩ rest hk
   obtain ⟨p2_,_⟩:=hp
   have q4_:=nz hcl 4 1 hD
   have q11_:=nz hcl 11 4 hD
   have q12_:=nz hcl 12 0 q11_
   have q14_:=nz hcl 14 4 hD
   have q15_:=nz hcl 15 0 q14_
   simp only [hD,p2_,q4_,q11_,q12_,q14_,q15_,cq,oT] at ht hs
   subst ht
   refine Qaz rfl rfl (v:=int .i64 (x22.get 1 0)) rfl rfl (fun _=>rfl) (by rw [Nat.zero_add];exact cells_load (hs.cells 2 rfl) _ _ (encA_at (fkI .i64).len _ _ 0 gd15.1 gd15.2)) (g_d rfl ?_)
   try dsimp only [set0,setS]
   refine hk _ _ ⟨O,?_,hs.cast ?_⟩<;>simp only [oT,lq,cq,Nat.reduceBEq,p2_,q4_,q11_,q12_,q14_,q15_]
  ·
   rintro D t w hD hp hcl ⟨O,ht,hs⟩ rest hk
   obtain ⟨p1_,p3_,_⟩:=hp
   obtain ⟨p2_,_⟩:=(hcl.get 3 (by decide)) p3_
   obtain ⟨p0_,_⟩:=(hcl.get 1 (by decide)) p1_
   have q11_:=nz hcl 11 5 hD
   have q12_:=nz hcl 12 0 q11_
   have q14_:=nz hcl 14 5 hD
   have q15_:=nz hcl 15 0 q14_
   simp only [hD,p0_,p1_,p2_,p3_,q11_,q12_,q14_,q15_,cq,oT] at ht hs
   subst ht
   refine Qab (v:=int .i64 (i64w ((x22.get 0 0)+(x22.get 1 0)))) rfl rfl rfl (g_d rfl ?_)
   try dsimp only [set0,setS]
   refine hk _ _ ⟨O,?_,hs.cast ?_⟩<;>simp only [oT,lq,cq,Nat.reduceBEq,p0_,p1_,p2_,p3_,q11_,q12_,q14_,q15_]
  ·
   rintro D t w hD hp hcl ⟨O,ht,hs⟩ rest hk
   have q6_:=nz hcl 6 0 hD
   have q9_:=nz hcl 9 0 q6_
   have q14_:=nz hcl 14 6 hD
   have q15_:=nz hcl 15 0 q14_
   simp only [hD,q6_,q9_,q14_,q15_,cq,oT] at ht hs
   subst ht
   refine Qa1 (n:=0) (m:=1) rfl (fun _=>rfl) gd16.1 gd16.2 rfl rfl rfl rfl rfl (g_d rfl ?_)
   try dsimp only [set0,setS]
   refine hk _ _ ⟨O,?_,hs.cast ?_⟩<;>simp only [oT,lq,cq,Nat.reduceBEq,q6_,q9_,q14_,q15_]
  ·
   rintro D t w hD hp hcl ⟨O,ht,hs⟩ rest hk
   obtain ⟨p5_,_⟩:=hp
   have q9_:=nz hcl 9 0 hD
   have q14_:=nz hcl 14 7 hD
   have q15_:=nz hcl 15 0 q14_
   simp only [hD,p5_,q9_,q14_,q15_,cq,oT] at ht hs
   subst ht
   refine Qaz rfl rfl (v:=int .i64 (x23.get 0 0)) rfl rfl (fun _=>rfl) (by rw [Nat.zero_add];exact cells_load (hs.cells 3 rfl) _ _ (encA_at (fkI .i64).len _ _ 0 gd16.1 gd16.2)) (g_d rfl ?_)
   try dsimp only [set0,setS]
   refine hk _ _ ⟨O,?_,hs.cast ?_⟩<;>simp only [oT,lq,cq,Nat.reduceBEq,p5_,q9_,q14_,q15_]
  ·
   rintro D t w hD hp hcl ⟨O,ht,hs⟩ rest hk
   have q8_:=nz hcl 8 0 hD
   have q9_:=nz hcl 9 1 q8_
   have q14_:=nz hcl 14 8 hD
   have q15_:=nz hcl 15 0 q14_
   simp only [hD,q8_,q9_,q14_,q15_,cq,oT] at ht hs
   subst ht
   refine Qa1 (n:=2) (m:=1) rfl (fun _=>rfl) gd17.1 gd17.2 rfl rfl rfl rfl rfl (g_d rfl ?_)
   try dsimp only [set0,setS]
   refine hk _ _ ⟨O,?_,hs.cast ?_⟩<;>simp only [oT,lq,cq,Nat.reduceBEq,q8_,q9_,q14_,q15_]
  ·
   rintro D t w hD hp hcl ⟨O,ht,hs⟩ rest hk
   obtain ⟨p7_,_⟩:=hp
   have q9_:=nz hcl 9 1 hD
   have q14_:=nz hcl 14 9 hD
   have q15_:=nz hcl 15 0 q14_
   simp only [hD,p7_,q9_,q14_,q15_,cq,oT] at ht hs
   subst ht
   refine Qaz rfl rfl (v:=int .i64 (x23.get 2 0)) rfl rfl (fun _=>rfl) (by rw [Nat.zero_add];exact cells_load (hs.cells 3 rfl) _ _ (encA_at (fkI .i64).len _ _ 0 gd17.1 gd17.2)) (g_d rfl ?_)
   try dsimp only [set0,setS]
   refine hk _ _ ⟨O,?_,hs.cast ?_⟩<;>simp only [oT,lq,cq,Nat.reduceBEq,p7_,q9_,q14_,q15_]
  ·
   rintro D t w hD hp hcl ⟨O,ht,hs⟩ rest hk
   obtain ⟨p6_,p8_,_⟩:=hp
   obtain ⟨p7_,_⟩:=(hcl.get 8 (by decide)) p8_
   obtain ⟨p5_,_⟩:=(hcl.get 6 (by decide)) p6_
   have q14_:=nz hcl 14 10 hD
   have q15_:=nz hcl 15 0 q14_
   simp only [hD,p5_,p6_,p7_,p8_,q14_,q15_,cq,oT] at ht hs
   subst ht
   refine Qab (v:=int .i64 (i64w ((x23.get 0 0)+(x23.get 2 0)))) rfl rfl rfl (g_d rfl ?_)
   try dsimp only [set0,setS]
   refine hk _ _ ⟨O,?_,hs.cast ?_⟩<;>simp only [oT,lq,cq,Nat.reduceBEq,p5_,p6_,p7_,p8_,q14_,q15_]
  ·
   rintro D t w hD hp hcl ⟨O,ht,hs⟩ rest hk
   have q11_:=nz hcl 11 0 hD
   have q12_:=nz hcl 12 0 q11_
   have q14_:=nz hcl 14 11 hD
   have q15_:=nz hcl 15 0 q14_
   simp only [hD,q11_,q12_,q14_,q15_,cq,oT] at ht hs
   subst ht
   refine Qab (v:=pointer (some ⟨b10,0,none⟩)) rfl rfl rfl (g_d rfl ?_)
   try dsimp only [set0,setS]
   refine hk _ _ ⟨O,?_,hs.cast ?_⟩<;>simp only [oT,lq,cq,Nat.reduceBEq,q11_,q12_,q14_,q15_]
  ·
   rintro D t w hD hp hcl ⟨O,ht,hs⟩ rest hk
   obtain ⟨p10_,p0_,p1_,p2_,p3_,p4_,_⟩:=hp
   have q12_:=nz hcl 12 0 hD
   have q14_:=nz hcl 14 12 hD
   have q15_:=nz hcl 15 0 q14_
   simp only [hD,p0_,p1_,p2_,p3_,p4_,p10_,q12_,q14_,q15_,cq,oT] at ht hs
   subst ht
   refine Qa1 (n:=1) (m:=1) rfl (fun _=>rfl) gd18.1 gd18.2 rfl rfl rfl rfl rfl (g_d rfl ?_)
   try dsimp only [set0,setS]
   refine hk _ _ ⟨O,?_,hs.cast ?_⟩<;>simp only [oT,lq,cq,Nat.reduceBEq,p0_,p1_,p2_,p3_,p4_,p10_,q12_,q14_,q15_]
  ·
   rintro D t w hD hp hcl ⟨O,ht,hs⟩ rest hk
   obtain ⟨p11_,p4_,p0_,p1_,p2_,p3_,_,_⟩:=hp
   obtain ⟨p10_,_,_,_,_,_,_⟩:=(hcl.get 11 (by decide)) p11_
   have q14_:=nz hcl 14 13 hD
   have q15_:=nz hcl 15 0 q14_
   simp only [hD,p0_,p1_,p2_,p3_,p4_,p10_,p11_,q14_,q15_,cq,oT] at ht hs
   subst ht
   have hs:St _ [_,_,_,_] _:=hs.pull 1 rfl
   refine Qcq (y:=i64w ((x22.get 0 0)+(x22.get 1 0))) (a:=((⟨(Ar.rep 4 0),false⟩:Qac).Qav)) (fkI .i64).len (fkI .i64).one gd18.1 gd18.2 [] (encB ((⟨(Ar.rep 4 0),false⟩:Qac).QaU)) (by simp [Qaf,encI,encB,encS]) (by first|rfl|simp [encAI_len,encAB_len,encA_len]) hs rfl rfl (cs':=(Qaf (⟨((⟨(Ar.rep 4 0),false⟩:Qac).Qav).set 1 (i64w ((x22.get 0 0)+(x22.get 1 0))),(⟨(Ar.rep 4 0),false⟩:Qac).QaU⟩:Qac))) (by simp [Qaf,encI,encB,encS]) rfl rfl rfl (fun _=>rfl) ?_
   intro w hs
   refine g_n rfl ?_
   try dsimp only [set0,setS]
   have hs:=hs.push 1 (by simp)
   refine hk _ _ ⟨O,?_,hs.cast ?_⟩<;>simp only [oT,lq,cq,Nat.reduceBEq,p0_,p1_,p2_,p3_,p4_,p10_,p11_,q14_,q15_]
  ·
   rintro D t w hD hp hcl ⟨O,ht,hs⟩ rest hk
   have q14_:=nz hcl 14 0 hD
   have q15_:=nz hcl 15 0 q14_
   simp only [hD,q14_,q15_,cq,oT] at ht hs
   subst ht
   refine Qab (v:=pointer (some ⟨b10,0,none⟩)) rfl rfl rfl (g_d rfl ?_)
   try dsimp only [set0,setS]
   refine hk _ _ ⟨O,?_,hs.cast ?_⟩<;>simp only [oT,lq,cq,Nat.reduceBEq,q14_,q15_]
  ·
   rintro D t w hD hp hcl ⟨O,ht,hs⟩ rest hk
   obtain ⟨p13_,p0_,p1_,p2_,p3_,p4_,p5_,p6_,p7_,p8_,p9_,p10_,p11_,p12_,_⟩:=hp
   have q15_:=nz hcl 15 0 hD
   simp only [hD,p0_,p1_,p2_,p3_,p4_,p5_,p6_,p7_,p8_,p9_,p10_,p11_,p12_,p13_,q15_,cq,oT] at ht hs
   subst ht
   refine Qa1 (n:=2) (m:=1) rfl (fun _=>rfl) gd19.1 gd19.2 rfl rfl rfl rfl rfl (g_d rfl ?_)
   try dsimp only [set0,setS]
   refine hk _ _ ⟨O,?_,hs.cast ?_⟩<;>simp only [oT,lq,cq,Nat.reduceBEq,p0_,p1_,p2_,p3_,p4_,p5_,p6_,p7_,p8_,p9_,p10_,p11_,p12_,p13_,q15_]
  ·
   rintro D t w hD hp hcl ⟨O,ht,hs⟩ rest hk
   obtain ⟨p14_,p9_,p12_,p0_,p1_,p2_,p3_,p4_,p5_,p6_,p7_,p8_,_,p10_,p11_,_,_⟩:=hp
   obtain ⟨p13_,_,_,_,_,_,_,_,_,_,_,_,_,_,_⟩:=(hcl.get 14 (by decide)) p14_
   simp only [hD,p0_,p1_,p2_,p3_,p4_,p5_,p6_,p7_,p8_,p9_,p10_,p11_,p12_,p13_,p14_,cq,oT] at ht hs
   subst ht
   have hs:St _ [_,_,_,_] _:=hs.pull 1 rfl
   refine Qcq (y:=i64w ((x23.get 0 0)+(x23.get 2 0))) (a:=((⟨((⟨(Ar.rep 4 0),false⟩:Qac).Qav).set 1 (i64w ((x22.get 0 0)+(x22.get 1 0))),(⟨(Ar.rep 4 0),false⟩:Qac).QaU⟩:Qac).Qav)) (fkI .i64).len (fkI .i64).one gd19.1 gd19.2 [] (encB ((⟨((⟨(Ar.rep 4 0),false⟩:Qac).Qav).set 1 (i64w ((x22.get 0 0)+(x22.get 1 0))),(⟨(Ar.rep 4 0),false⟩:Qac).QaU⟩:Qac).QaU)) (by simp [Qaf,encI,encB,encS]) (by first|rfl|simp [encAI_len,encAB_len,encA_len]) hs rfl rfl (cs':=(Qaf (⟨((⟨((⟨(Ar.rep 4 0),false⟩:Qac).Qav).set 1 (i64w ((x22.get 0 0)+(x22.get 1 0))),(⟨(Ar.rep 4 0),false⟩:Qac).QaU⟩:Qac).Qav).set 2 (i64w ((x23.get 0 0)+(x23.get 2 0))),(⟨((⟨(Ar.rep 4 0),false⟩:Qac).Qav).set 1 (i64w ((x22.get 0 0)+(x22.get 1 0))),(⟨(Ar.rep 4 0),false⟩:Qac).QaU⟩:Qac).QaU⟩:Qac))) (by simp [Qaf,encI,encB,encS]) rfl rfl rfl (fun _=>rfl) ?_
   intro w hs
   refine g_n rfl ?_
   try dsimp only [set0,setS]
   have hs:=hs.push 1 (by simp)
   refine hk _ _ ⟨O,?_,hs.cast ?_⟩<;>simp only [oT,lq,cq,Nat.reduceBEq,p0_,p1_,p2_,p3_,p4_,p5_,p6_,p7_,p8_,p9_,p10_,p11_,p12_,p13_,p14_]
  intro D t w hall hI
  obtain ⟨O,ht,hs⟩:=hI
  have p0_:=hall 0 (by decide)
  have p1_:=hall 1 (by decide)
  have p2_:=hall 2 (by decide)
  have p3_:=hall 3 (by decide)
  have p4_:=hall 4 (by decide)
  have p5_:=hall 5 (by decide)
  have p6_:=hall 6 (by decide)
  have p7_:=hall 7 (by decide)
  have p8_:=hall 8 (by decide)
  have p9_:=hall 9 (by decide)
  have p10_:=hall 10 (by decide)
  have p11_:=hall 11 (by decide)
  have p12_:=hall 12 (by decide)
  have p13_:=hall 13 (by decide)
  have p14_:=hall 14 (by decide)
  have p15_:=hall 15 (by decide)
  simp only [p0_,p1_,p2_,p3_,p4_,p5_,p6_,p7_,p8_,p9_,p10_,p11_,p12_,p13_,p14_,p15_,cq,oT] at ht hs
  subst ht
  have hs:=hs.pull 1 rfl
  have hs:=hs.pull 1 rfl
  have hs:St _ [_,_] _:=St.take (Γ':=[_,_]) hs
  exact ha _ _ ⟨(⟨((⟨((⟨(Ar.rep 4 0),false⟩:Qac).Qav).set 1 (i64w ((x22.get 0 0)+(x22.get 1 0))),(⟨(Ar.rep 4 0),false⟩:Qac).QaU⟩:Qac).Qav).set 2 (i64w ((x23.get 0 0)+(x23.get 2 0))),(⟨((⟨(Ar.rep 4 0),false⟩:Qac).Qav).set 1 (i64w ((x22.get 0 0)+(x22.get 1 0))),(⟨(Ar.rep 4 0),false⟩:Qac).QaU⟩:Qac).QaU⟩:Qac),H,rfl,hs⟩
 intro ha
 refine Qan [0,1] rfl ?_
 refine Qab (v:=int .i64 a3) rfl rfl rfl (g_d rfl ?_)
 refine QaR (B:=decide (a3>0)) rfl rfl rfl ?_ ?_
 ·
  intro hb
  rw [if_pos (b_dec_t hb)] at H
  refine g_d rfl ?_
  try dsimp only [set0,setS]
  refine Qaa (Qaw rfl ?_)
  refine QbT ?_
  intro T hT
  refine Qcg (n:=6) rfl [0,1,2,3,4,5] [0,1,3,4,2,5] rfl rfl (Inv:=fun D t w=>∃ O:Nat→Value,t=(agg (Qaf a1).toArray::agg (QaA a2).toArray::int .i64 a3::pointer (some ⟨b4,0,none⟩)::pointer (some ⟨b6,0,none⟩)::O 5::pointer (some ⟨b8,0,none⟩)::pointer (some ⟨b10,0,none⟩)::int .i64 (i64w ((i64w ((i64w ((a1.Qav.get 0 0)+(a1.Qav.get 1 0)))+(a1.Qav.get 2 0)))+(a1.Qav.get 3 0)))::O 9::pointer (some ⟨b16,0,none⟩)::pointer (some ⟨b18,0,none⟩)::agg (Qaf (⟨(Ar.rep 4 0),false⟩:Qac)).toArray::pointer (some ⟨b4,0,none⟩)::pointer (some ⟨b4,0+(0:Int).toNat*1,none⟩)::int .i64 (a1.Qav.get 0 0)::pointer (some ⟨b4,0,none⟩)::pointer (some ⟨b4,0+(1:Int).toNat*1,none⟩)::int .i64 (a1.Qav.get 1 0)::int .i64 (i64w ((a1.Qav.get 0 0)+(a1.Qav.get 1 0)))::pointer (some ⟨b4,0,none⟩)::pointer (some ⟨b4,0+(2:Int).toNat*1,none⟩)::int .i64 (a1.Qav.get 2 0)::int .i64 (i64w ((i64w ((a1.Qav.get 0 0)+(a1.Qav.get 1 0)))+(a1.Qav.get 2 0)))::pointer (some ⟨b4,0,none⟩)::pointer (some ⟨b4,0+(3:Int).toNat*1,none⟩)::int .i64 (a1.Qav.get 3 0)::int .i64 (i64w ((i64w ((i64w ((a1.Qav.get 0 0)+(a1.Qav.get 1 0)))+(a1.Qav.get 2 0)))+(a1.Qav.get 3 0)))::int .i64 a3::bool false::oT O 3 (oT O 4 (O 50::O 51::O 52::O 53::pointer (some ⟨b6,0,none⟩)::agg ((encA (encI .i64)) a2.Qao).toArray::pointer (some ⟨b6,4,none⟩)::agg ((encA (encI .i64)) a2.Qaj).toArray::int .i64 a3::bool true::cnd (D 0) (pointer (some ⟨b6,4,none⟩)) (O 60)::cnd (D 1) (agg ((encA (encI .i64)) a2.Qaj).toArray) (O 61)::cnd (D 2) (pointer (some ⟨b6,0,none⟩)) (O 62)::cnd (D 3) (agg ((encA (encI .i64)) a2.Qao).toArray) (O 63)::O 64::O 65::O 66::O 67::O 68::O 69::oT O 7 (oT O 8 (O 90::O 91::O 92::O 93::[])))))∧St w0 [Cells b16 (cnd (D 4) ((encA (encI .i64)) a2.Qaj) ((encA (encI .i64)) a2.Qao)) 69,Cells b18 (cnd (D 5) ((encA (encI .i64)) a2.Qao) ((encA (encI .i64)) a2.Qaj)) 69,Cells b10 (Qaf (⟨(Ar.rep 4 0),false⟩:Qac)) 71,Cells b8 (Qaf QbC) 71,Cells b6 (QaA a2) 111,Cells b4 (Qaf a1) 71] w) ?_ ⟨⟨⟨⟨⟨⟨trivial,?_⟩,?_⟩,?_⟩,?_⟩,?_⟩,?_⟩ ?_
  ·
   intro w hh hbw
   have hs:=hs.samew hh hbw
   exact ⟨fun i=>T.getD i undef,(by subst hT;rfl),hs⟩
  ·
   rintro D t w hD hp hcl ⟨O,ht,hs⟩ rest hk
   have q1_:=nz hcl 1 0 hD
   have q4_:=nz hcl 4 0 q1_
   have q5_:=nz hcl 5 1 q4_
   simp only [hD,q1_,q4_,q5_,cq,oT] at ht hs
   subst ht
   refine Qab (v:=pointer (some ⟨b6,4,none⟩)) rfl rfl rfl (g_d rfl ?_)
   try dsimp only [set0,setS]
   refine hk _ _ ⟨O,?_,hs.cast ?_⟩<;>simp only [oT,lq,cq,Nat.reduceBEq,q1_,q4_,q5_]
  ·
   rintro D t w hD hp hcl ⟨O,ht,hs⟩ rest hk
   obtain ⟨p0_,_⟩:=hp
   have q4_:=nz hcl 4 0 hD
   have q5_:=nz hcl 5 1 q4_
   simp only [hD,p0_,q4_,q5_,cq,oT] at ht hs
   subst ht
   refine QaG rfl rfl (es:=((encA (encI .i64)) a2.Qaj)) rfl rfl (fun _=>rfl) (n:=4) (fun _=>rfl) ((fkA (n:=4) (he:=(fkI .i64).len) (h1:=(fkI .i64).one)).len _) (cells_load (hs.cells 4 rfl) 4 4 (by simp only [QaA];first|rfl|exact List.take_of_length_le (Nat.le_of_eq ((fkA (n:=4) (he:=(fkI .i64).len) (h1:=(fkI .i64).one)).len _))|simp [List.drop_append,List.take_append,encAI_len,encAB_len,encA_len,List.take_of_length_le])) ?_
   refine g_d rfl ?_
   try dsimp only [set0,setS]
   refine hk _ _ ⟨O,?_,hs.cast ?_⟩<;>simp only [oT,lq,cq,Nat.reduceBEq,p0_,q4_,q5_]
  ·
   rintro D t w hD hp hcl ⟨O,ht,hs⟩ rest hk
   have q3_:=nz hcl 3 0 hD
   have q5_:=nz hcl 5 0 q3_
   simp only [hD,q3_,q5_,cq,oT] at ht hs
   subst ht
   refine Qab (v:=pointer (some ⟨b6,0,none⟩)) rfl rfl rfl (g_d rfl ?_)
   try dsimp only [set0,setS]
   refine hk _ _ ⟨O,?_,hs.cast ?_⟩<;>simp only [oT,lq,cq,Nat.reduceBEq,q3_,q5_]
  ·
   rintro D t w hD hp hcl ⟨O,ht,hs⟩ rest hk
   obtain ⟨p2_,_⟩:=hp
   have q5_:=nz hcl 5 0 hD
   simp only [hD,p2_,q5_,cq,oT] at ht hs
   subst ht
   refine QaG rfl rfl (es:=((encA (encI .i64)) a2.Qao)) rfl rfl (fun _=>rfl) (n:=4) (fun _=>rfl) ((fkA (n:=4) (he:=(fkI .i64).len) (h1:=(fkI .i64).one)).len _) (cells_load (hs.cells 4 rfl) 0 4 (by simp only [QaA];first|rfl|exact List.take_of_length_le (Nat.le_of_eq ((fkA (n:=4) (he:=(fkI .i64).len) (h1:=(fkI .i64).one)).len _))|simp [List.drop_append,List.take_append,encAI_len,encAB_len,encA_len,List.take_of_length_le])) ?_
   refine g_d rfl ?_
   try dsimp only [set0,setS]
   refine hk _ _ ⟨O,?_,hs.cast ?_⟩<;>simp only [oT,lq,cq,Nat.reduceBEq,p2_,q5_]
  ·
   rintro D t w hD hp hcl ⟨O,ht,hs⟩ rest hk
   obtain ⟨p1_,p0_,_,_⟩:=hp
   have q5_:=nz hcl 5 1 hD
   simp only [hD,p0_,p1_,q5_,cq,oT] at ht hs
   subst ht
   refine Qa9 (n:=4) hs ((fkA (n:=4) (he:=(fkI .i64).len) (h1:=(fkI .i64).one)).len _) rfl rfl (vs:=((encA (encI .i64)) a2.Qaj)) rfl rfl rfl (fun _=>rfl) ((fkA (n:=4) (he:=(fkI .i64).len) (h1:=(fkI .i64).one)).len _) ((fkA (n:=4) (he:=(fkI .i64).len) (h1:=(fkI .i64).one)).one _) ?_
   intro w hs
   refine g_n rfl ?_
   try dsimp only [set0,setS]
   have hs:=hs.push 0 (by simp)
   refine hk _ _ ⟨O,?_,hs.cast ?_⟩<;>simp only [oT,lq,cq,Nat.reduceBEq,p0_,p1_,q5_]
  ·
   rintro D t w hD hp hcl ⟨O,ht,hs⟩ rest hk
   obtain ⟨p3_,p4_,p0_,p1_,p2_,_,_,_⟩:=hp
   simp only [hD,p0_,p1_,p2_,p3_,p4_,cq,oT] at ht hs
   subst ht
   have hs:St _ [_,_,_,_,_,_] _:=hs.pull 1 rfl
   refine Qa9 (n:=4) hs ((fkA (n:=4) (he:=(fkI .i64).len) (h1:=(fkI .i64).one)).len _) rfl rfl (vs:=((encA (encI .i64)) a2.Qao)) rfl rfl rfl (fun _=>rfl) ((fkA (n:=4) (he:=(fkI .i64).len) (h1:=(fkI .i64).one)).len _) ((fkA (n:=4) (he:=(fkI .i64).len) (h1:=(fkI .i64).one)).one _) ?_
   intro w hs
   refine g_n rfl ?_
   try dsimp only [set0,setS]
   have hs:=hs.push 1 (by simp)
   refine hk _ _ ⟨O,?_,hs.cast ?_⟩<;>simp only [oT,lq,cq,Nat.reduceBEq,p0_,p1_,p2_,p3_,p4_]
  intro D t w hall hI
  obtain ⟨O,ht,hs⟩:=hI
  have p0_:=hall 0 (by decide)
  have p1_:=hall 1 (by decide)
  have p2_:=hall 2 (by decide)
  have p3_:=hall 3 (by decide)
  have p4_:=hall 4 (by decide)
  have p5_:=hall 5 (by decide)
  simp only [p0_,p1_,p2_,p3_,p4_,p5_,cq,oT] at ht hs
  subst ht
  have hs:=hs.pull 1 rfl
  have hs:=hs.pull 1 rfl
  have hs:=hs.pull 2 rfl
  have hs:=hs.pull 3 rfl
  have hs:St _ [_,_,_,_] _:=St.take (Γ':=[_,_]) hs
  exact ha _ _ ⟨a2.Qaj,a2.Qao,H,rfl,hs⟩
 intro hb
 rw [if_neg (b_dec_f hb)] at H
 refine g_d rfl (Qaa (Qax rfl (QaS ?_)))
 have hs:=hs.pull 1 rfl
 have hs:=hs.pull 1 rfl
 have hs:=hs.pull 2 rfl
 have hs:=hs.pull 3 rfl
 have hs:St _ [_,_,_,_] _:=St.take (Γ':=[_,_]) hs
 exact ha _ _ ⟨a2.Qao,a2.Qaj,H,rfl,hs⟩
end Go.Proofs.YtgpdpedpmhonkaaX
