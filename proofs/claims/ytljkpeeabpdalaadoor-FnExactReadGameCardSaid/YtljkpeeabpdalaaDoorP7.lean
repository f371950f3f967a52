import Derived.Test.YtljkpeeabpdalaaDoorP6
namespace Go.Proofs.YtljkpeeabpdalaaDoorX
open Go Go.RowKit Go.Proofs
open Go.Value (int pointer bool agg slice string tuple)
set_option maxHeartbeats 8000000
set_option maxRecDepth 100000
set_option linter.unusedVariables false
set_option linter.unusedSimpArgs false
def QaE.post (w0:World) (r:(Qao×Int)) (v:Value) (w:World):Prop:=∃ u1:Value,v=tuple #[agg (([int .i8 r.1.Qai,int .i8 r.1.Qaq,u1]:List Value)).toArray,int .i64 r.2]∧St w0 [Row 55 Qav u1 r.1.Qap] w
theorem QaE.calls {N:Nat} {a1:ByteArray} {w0:World} {r:(Qao×Int)} (H:QaE.f N a1=some r):
 Calls Tryd.prog 10 #[string a1] w0 fun e w=>∃ v,e= .returned v∧QaE.post w0 r v w:=by
 unfold QaE.f at H
 have hs:St w0 [] w0:=St.refl w0
 refine calls_of_g (n:=126) Tryd.func10 rfl rfl ?_
 show G _ _ _ _ (_::_::_::_::_::_::_::_::_::_::_::_::_::_::_::_::_::_::_::_::_::_::_::_::_::_::_::_::_::_::_::_::_::_::_::_::_::_::_::_::_::_::_::_::_::_::_::_::_::_::_::_::_::_::_::_::_::_::_::_::_::_::_::_::_::_::_::_::_::_::_::_::_::_::_::_::_::_::_::_::_::_::_::_::_::_::_::_::_::_::_::_::_::_::_::_::_::_::_::_::_::_::_::_::_::_::_::_::_::_::_::_::_::_::_::_::_::_::_::_::_::_::_::_::_::_::_::[]) _
 refine Qac (Qaj [0,1] rfl ?_)
 refine Qbm hs rfl rfl (z:=(agg #[int .i8 0,int .i8 0,slice none 0 0])) (cs:=(([int .i8 0,int .i8 0,slice none 0 0]:List Value))) rfl (fun _=>rfl) rfl ?_
 intro b2 w hs
 refine g_d rfl ?_
 refine Qaa (v:=int .i64 0) rfl rfl rfl (g_d rfl ?_)
 try dsimp only [Qae,Qaf]
 refine Qab (Qac (Qaj [0,1,2] rfl ?_))
 refine Qaa (v:=string a1) rfl rfl rfl (g_d rfl ?_)
 obtain ⟨r4,Hr4,H⟩:=bind_get H
 refine QaA (args:=[string a1,int .u8 10]) rfl rfl (Qax rfl (callFunc_enter Tryd.func25 rfl rfl) rfl) (Qaz.calls (a1:=a1) (a2:=10) Hr4) ?_
 intro v5 w hs2
 have hs:St _ [_,_] _:=hs.call hs2
 refine g_d rfl ?_
 refine Qaa (v:=v5) rfl rfl rfl (g_d rfl ?_)
 try dsimp only [Qae,Qaf]
 refine Qab (Qac (Qaj [0,1,2,3] rfl ?_))
 refine Qaa (v:=v5) rfl rfl rfl (g_d rfl ?_)
 refine Qbn (hs.row 0 rfl) rfl rfl rfl rfl rfl (g_d rfl ?_)
 refine Qaa (v:=int .i64 (i64w ((r4.length:Int) - 1))) rfl rfl rfl (g_d rfl ?_)
 try dsimp only [Qae,Qaf]
 refine Qaa (v:=int .i64 (i64w ((r4.length:Int) - 1))) rfl rfl rfl (g_d rfl (Qab (Qac (Qaj [0,1,2,3,4] rfl ?_))))
 refine Qaa (v:=v5) rfl rfl rfl (g_d rfl ?_)
 obtain ⟨g1,H⟩:=ite_get H
 refine Qbl fkS (⟨#[]⟩:ByteArray) (hs.row 0 rfl) rfl (fun _=>rfl) g1.1 g1.2 rfl rfl rfl rfl rfl ?_
 intro p7 hp7 lp7 op7
 refine g_d rfl ?_
 try dsimp only [Qae,Qaf]
 refine QaI rfl rfl (v:=string (rdL r4 0 (⟨#[]⟩:ByteArray))) rfl rfl (fun _=>rfl) hp7 (g_d rfl ?_)
 obtain ⟨r8,Hr8,H⟩:=bind_get H
 refine QaA (args:=[string (rdL r4 0 (⟨#[]⟩:ByteArray)),int .u8 32]) rfl rfl (Qax rfl (callFunc_enter Tryd.func25 rfl rfl) rfl) (Qaz.calls (a1:=rdL r4 0 (⟨#[]⟩:ByteArray)) (a2:=32) Hr8) ?_
 intro v9 w hs2
 have hs:St _ [_,_,_] _:=hs.call hs2
 refine g_d rfl ?_
 try dsimp only [Qae,Qaf]
 refine Qaa (v:=v9) rfl rfl rfl (g_d rfl (Qab (Qac (Qac (Qaj [0,1,2,3,4,5,6,7,8,9,10,11,12,13,14,15,16,17] rfl ?_)))))
 refine Qaa (v:=int .i64 (i64w ((r4.length:Int) - 1))) rfl rfl rfl (g_d rfl ?_)
 refine Qas (B:=decide ((i64w ((r4.length:Int) - 1))< 1)) rfl rfl rfl ?_ ?_
 ·
  intro hb
  rw [if_pos (b_dec_t hb)] at H
  refine g_d rfl ?_
  refine Qaa (v:=bool true) rfl rfl rfl (g_d rfl (Qag rfl rfl (g_d rfl (Qag rfl rfl (g_d rfl ?_)))))
  try dsimp only [Qae,Qaf]
  refine Qaa (v:=bool true) rfl rfl rfl (g_d rfl ?_)
  refine Qaa (v:=bool true) rfl rfl rfl (g_d rfl (Qag rfl rfl (g_d rfl (Qag rfl rfl (g_d rfl (Qag rfl rfl (g_d rfl ?_)))))))
  try dsimp only [Qae,Qaf]
  refine Qag rfl rfl (g_d rfl (Qag rfl rfl (g_d rfl ?_)))
  try dsimp only [Qae,Qaf]
  refine Qaa (v:=bool true) rfl rfl rfl (g_d rfl ?_)
  refine Qaa (v:=bool true) rfl rfl rfl (g_d rfl (Qag rfl rfl (g_d rfl (Qag rfl rfl (g_d rfl ?_)))))
  try dsimp only [Qae,Qaf]
  refine Qag rfl rfl (g_d rfl ?_)
  refine Qaa (v:=bool true) rfl rfl rfl (g_d rfl ?_)
  try dsimp only [Qae,Qaf]
  refine Qab (Qak rfl (Qac (Qaj [0,1,2] rfl ?_)))
  refine Qaa (v:=agg (([int .i8 0,int .i8 0,slice none 0 0]:List Value)).toArray) rfl rfl (Qa4 (cs:=(([int .i8 0,int .i8 0,slice none 0 0]:List Value))) (segs:=[[int .i8 0],[int .i8 0],[slice none 0 0]]) rfl rfl (fun _=>rfl) ⟨rfl,(fun _=>rfl),rfl,(fun _=>rfl),rfl,(fun _=>rfl),trivial⟩ (by simp) (by first|rfl|(simp [ev,encA];done)|(simp [ev,encA];rfl))) ?_
  refine g_d rfl ?_
  have hs:St _ [_,_,_] _:=hs.pull 2 rfl
  refine QaT (n:=3) hs rfl rfl rfl (vs:=(([int .i8 0,int .i8 0,slice none 0 0]:List Value))) rfl rfl rfl (fun _=>rfl) rfl (by simp [Value.oneCell']) ?_
  intro w hs
  refine g_n rfl ?_
  refine Qaa (v:=int .i64 5) rfl rfl rfl (g_d rfl ?_)
  try dsimp only [Qae,Qaf]
  refine Qab ?_
  obtain rfl:=QsJ H
  refine Qau Tryd.func10 (v:=tuple #[agg (([int .i8 0,int .i8 0,slice none 0 0]:List Value)).toArray,int .i64 5]) (resN (l:=Tryd.f10.results.toList) (vs:=[agg (([int .i8 0,int .i8 0,slice none 0 0]:List Value)).toArray,int .i64 5]) rfl ⟨⟨_,rfl,(run_loadVar_agg (es:=(([int .i8 0,int .i8 0,slice none 0 0]:List Value))) rfl rfl (cells_all (hs.cells 0 rfl)))⟩,rfl,trivial⟩ (by simp)) ?_
  have hs:=hs.nil 55 Qav
  have hs:=hs.pull 0 rfl
  have hs:St _ [_] _:=St.take (Γ':=[_,_,_]) hs
  exact ⟨_,rfl,(slice none 0 0),rfl,hs⟩
 intro hb
 rw [if_neg (b_dec_f hb)] at H
 refine g_d rfl ?_
 try dsimp only [Qae,Qaf]
 refine Qaa (v:=bool false) rfl rfl rfl (g_d rfl ?_)
 refine Qaa (v:=int .i64 (i64w ((r4.length:Int) - 1))) rfl rfl rfl (g_d rfl ?_)
 refine Qaa (v:=bool (decide ((i64w ((r4.length:Int) - 1))>61))) rfl rfl rfl (g_d rfl ?_)
 refine Qas (B:=decide ((i64w ((r4.length:Int) - 1))>61)) rfl rfl rfl ?_ ?_
 ·
  intro hb
  rw [if_pos (b_dec_t hb)] at H
  refine g_d rfl ?_
  refine Qaa (v:=bool true) rfl rfl rfl (g_d rfl (Qag rfl rfl (g_d rfl (Qag rfl rfl (g_d rfl (Qag rfl rfl (g_d rfl ?_)))))))
  try dsimp only [Qae,Qaf]
  refine Qag rfl rfl (g_d rfl (Qag rfl rfl (g_d rfl ?_)))
  try dsimp only [Qae,Qaf]
  refine Qaa (v:=bool true) rfl rfl rfl (g_d rfl ?_)
  refine Qaa (v:=bool true) rfl rfl rfl (g_d rfl (Qag rfl rfl (g_d rfl (Qag rfl rfl (g_d rfl ?_)))))
  try dsimp only [Qae,Qaf]
  refine Qag rfl rfl (g_d rfl ?_)
  refine Qaa (v:=bool true) rfl rfl rfl (g_d rfl ?_)
  try dsimp only [Qae,Qaf]
  refine Qab (Qak rfl (Qac (Qaj [0,1,2] rfl ?_)))
  refine Qaa (v:=agg (([int .i8 0,int .i8 0,slice none 0 0]:List Value)).toArray) rfl rfl (Qa4 (cs:=(([int .i8 0,int .i8 0,slice none 0 0]:List Value))) (segs:=[[int .i8 0],[int .i8 0],[slice none 0 0]]) rfl rfl (fun _=>rfl) ⟨rfl,(fun _=>rfl),rfl,(fun _=>rfl),rfl,(fun _=>rfl),trivial⟩ (by simp) (by first|rfl|(simp [ev,encA];done)|(simp [ev,encA];rfl))) ?_
  refine g_d rfl ?_
  have hs:St _ [_,_,_] _:=hs.pull 2 rfl
  refine QaT (n:=3) hs rfl rfl rfl (vs:=(([int .i8 0,int .i8 0,slice none 0 0]:List Value))) rfl rfl rfl (fun _=>rfl) rfl (by simp [Value.oneCell']) ?_
  intro w hs
  refine g_n rfl ?_
  refine Qaa (v:=int .i64 5) rfl rfl rfl (g_d rfl ?_)
  try dsimp only [Qae,Qaf]
  refine Qab ?_
  obtain rfl:=QsJ H
  refine Qau Tryd.func10 (v:=tuple #[agg (([int .i8 0,int .i8 0,slice none 0 0]:List Value)).toArray,int .i64 5]) (resN (l:=Tryd.f10.results.toList) (vs:=[agg (([int .i8 0,int .i8 0,slice none 0 0]:List Value)).toArray,int .i64 5]) rfl ⟨⟨_,rfl,(run_loadVar_agg (es:=(([int .i8 0,int .i8 0,slice none 0 0]:List Value))) rfl rfl (cells_all (hs.cells 0 rfl)))⟩,rfl,trivial⟩ (by simp)) ?_
  have hs:=hs.nil 55 Qav
  have hs:=hs.pull 0 rfl
  have hs:St _ [_] _:=St.take (Γ':=[_,_,_]) hs
  exact ⟨_,rfl,(slice none 0 0),rfl,hs⟩
 intro hb
 rw [if_neg (b_dec_f hb)] at H
 refine g_d rfl ?_
 try dsimp only [Qae,Qaf]
 refine Qaa (v:=bool false) rfl rfl rfl (g_d rfl ?_)
 refine Qaa (v:=v5) rfl rfl rfl (g_d rfl ?_)
 refine Qaa (v:=int .i64 (i64w ((r4.length:Int) - 1))) rfl rfl rfl (g_d rfl ?_)
 obtain ⟨g2,H⟩:=ite_get H
 refine Qbl fkS (⟨#[]⟩:ByteArray) (hs.row 1 rfl) rfl (fun _=>rfl) g2.1 g2.2 rfl rfl rfl rfl rfl ?_
 intro p11 hp11 lp11 op11
 refine g_d rfl ?_
 refine QaI rfl rfl (v:=string (rdL r4 (i64w ((r4.length:Int) - 1)) (⟨#[]⟩:ByteArray))) rfl rfl (fun _=>rfl) hp11 (g_d rfl ?_)
 try dsimp only [Qae,Qaf]
 refine Qaa (v:=bool (!((rdL r4 (i64w ((r4.length:Int) - 1)) (⟨#[]⟩:ByteArray)).toList==(⟨#[]⟩:ByteArray).toList))) rfl rfl rfl (g_d rfl ?_)
 refine Qas (B:=!((rdL r4 (i64w ((r4.length:Int) - 1)) (⟨#[]⟩:ByteArray)).toList==(⟨#[]⟩:ByteArray).toList)) rfl rfl rfl ?_ ?_
 ·
  intro hb
  rw [if_neg (b_nbeq_t hb)] at H
  refine g_d rfl ?_
  refine Qaa (v:=bool true) rfl rfl rfl (g_d rfl (Qag rfl rfl (g_d rfl (Qag rfl rfl (g_d rfl ?_)))))
  try dsimp only [Qae,Qaf]
  refine Qag rfl rfl (g_d rfl ?_)
  refine Qaa (v:=bool true) rfl rfl rfl (g_d rfl ?_)
  try dsimp only [Qae,Qaf]
  refine Qab (Qak rfl (Qac (Qaj [0,1,2] rfl ?_)))
  refine Qaa (v:=agg (([int .i8 0,int .i8 0,slice none 0 0]:List Value)).toArray) rfl rfl (Qa4 (cs:=(([int .i8 0,int .i8 0,slice none 0 0]:List Value))) (segs:=[[int .i8 0],[int .i8 0],[slice none 0 0]]) rfl rfl (fun _=>rfl) ⟨rfl,(fun _=>rfl),rfl,(fun _=>rfl),rfl,(fun _=>rfl),trivial⟩ (by simp) (by first|rfl|(simp [ev,encA];done)|(simp [ev,encA];rfl))) ?_
  refine g_d rfl ?_
  have hs:St _ [_,_,_] _:=hs.pull 2 rfl
  refine QaT (n:=3) hs rfl rfl rfl (vs:=(([int .i8 0,int .i8 0,slice none 0 0]:List Value))) rfl rfl rfl (fun _=>rfl) rfl (by simp [Value.oneCell']) ?_
  intro w hs
  refine g_n rfl ?_
  refine Qaa (v:=int .i64 5) rfl rfl rfl (g_d rfl ?_)
  try dsimp only [Qae,Qaf]
  refine Qab ?_
  obtain rfl:=QsJ H
  refine Qau Tryd.func10 (v:=tuple #[agg (([int .i8 0,int .i8 0,slice none 0 0]:List Value)).toArray,int .i64 5]) (resN (l:=Tryd.f10.results.toList) (vs:=[agg (([int .i8 0,int .i8 0,slice none 0 0]:List Value)).toArray,int .i64 5]) rfl ⟨⟨_,rfl,(run_loadVar_agg (es:=(([int .i8 0,int .i8 0,slice none 0 0]:List Value))) rfl rfl (cells_all (hs.cells 0 rfl)))⟩,rfl,trivial⟩ (by simp)) ?_
  have hs:=hs.nil 55 Qav
  have hs:=hs.pull 0 rfl
  have hs:St _ [_] _:=St.take (Γ':=[_,_,_]) hs
  exact ⟨_,rfl,(slice none 0 0),rfl,hs⟩
 intro hb
 rw [if_pos (b_nbeq_f hb)] at H
 refine g_d rfl ?_
 try dsimp only [Qae,Qaf]
 refine Qaa (v:=bool false) rfl rfl rfl (g_d rfl ?_)
 refine Qaa (v:=v9) rfl rfl rfl (g_d rfl ?_)
 refine Qbn (hs.row 0 rfl) rfl rfl rfl rfl rfl (g_d rfl ?_)
 refine Qas (B:=(r8.length:Int) !=2) rfl rfl rfl ?_ ?_
 ·
  intro hb
  rw [if_neg (b_bne_t hb)] at H
  refine g_d rfl ?_
  refine Qaa (v:=bool true) rfl rfl rfl (g_d rfl ?_)
  try dsimp only [Qae,Qaf]
  refine Qab (Qak rfl (Qac (Qaj [0,1,2] rfl ?_)))
  refine Qaa (v:=agg (([int .i8 0,int .i8 0,slice none 0 0]:List Value)).toArray) rfl rfl (Qa4 (cs:=(([int .i8 0,int .i8 0,slice none 0 0]:List Value))) (segs:=[[int .i8 0],[int .i8 0],[slice none 0 0]]) rfl rfl (fun _=>rfl) ⟨rfl,(fun _=>rfl),rfl,(fun _=>rfl),rfl,(fun _=>rfl),trivial⟩ (by simp) (by first|rfl|(simp [ev,encA];done)|(simp [ev,encA];rfl))) ?_
  refine g_d rfl ?_
  have hs:St _ [_,_,_] _:=hs.pull 2 rfl
  refine QaT (n:=3) hs rfl rfl rfl (vs:=(([int .i8 0,int .i8 0,slice none 0 0]:List Value))) rfl rfl rfl (fun _=>rfl) rfl (by simp [Value.oneCell']) ?_
  intro w hs
  refine g_n rfl ?_
  refine Qaa (v:=int .i64 5) rfl rfl rfl (g_d rfl ?_)
  try dsimp only [Qae,Qaf]
  refine Qab ?_
  obtain rfl:=QsJ H
  refine Qau Tryd.func10 (v:=tuple #[agg (([int .i8 0,int .i8 0,slice none 0 0]:List Value)).toArray,int .i64 5]) (resN (l:=Tryd.f10.results.toList) (vs:=[agg (([int .i8 0,int .i8 0,slice none 0 0]:List Value)).toArray,int .i64 5]) rfl ⟨⟨_,rfl,(run_loadVar_agg (es:=(([int .i8 0,int .i8 0,slice none 0 0]:List Value))) rfl rfl (cells_all (hs.cells 0 rfl)))⟩,rfl,trivial⟩ (by simp)) ?_
  have hs:=hs.nil 55 Qav
  have hs:=hs.pull 0 rfl
  have hs:St _ [_] _:=St.take (Γ':=[_,_,_]) hs
  exact ⟨_,rfl,(slice none 0 0),rfl,hs⟩
 intro hb
 rw [if_pos (b_bne_f hb)] at H
 refine g_d rfl ?_
 try dsimp only [Qae,Qaf]
 refine Qaa (v:=bool false) rfl rfl rfl (g_d rfl (Qab (Qad rfl (Qaw (Qac (Qaj [0,1,2,3,4,5,6,7,8] rfl ?_))))))
 refine Qaa (v:=v9) rfl rfl rfl (g_d rfl ?_)
 obtain ⟨g3,H⟩:=ite_get H
 refine Qbl fkS (⟨#[]⟩:ByteArray) (hs.row 0 rfl) rfl (fun _=>rfl) g3.1 g3.2 rfl rfl rfl rfl rfl ?_
 intro p12 hp12 lp12 op12
 refine g_d rfl ?_
 try dsimp only [Qae,Qaf]
 refine QaI rfl rfl (v:=string (rdL r8 0 (⟨#[]⟩:ByteArray))) rfl rfl (fun _=>rfl) hp12 (g_d rfl ?_)
 obtain ⟨r13,Hr13,H⟩:=bind_get H
 refine QaA (args:=[string (rdL r8 0 (⟨#[]⟩:ByteArray))]) rfl rfl (Qax rfl (callFunc_enter Tryd.func26 rfl rfl) rfl) (QaC.calls (a1:=rdL r8 0 (⟨#[]⟩:ByteArray)) Hr13) ?_
 rintro _ w ⟨rfl,hs2⟩
 have hs:St _ [_,_,_] _:=hs.call hs2
 refine g_d rfl ?_
 try dsimp only [Qae,Qaf]
 refine Qaa (v:=tuple #[int .i64 r13.1,bool r13.2]) rfl rfl rfl (g_d rfl ?_)
 refine Qaa (v:=int .i64 r13.1) rfl rfl rfl (g_d rfl ?_)
 refine Qaa (v:=bool r13.2) rfl rfl rfl (g_d rfl ?_)
 refine Qaa (v:=int .i64 r13.1) rfl rfl rfl (g_d rfl ?_)
 refine Qaa (v:=bool r13.2) rfl rfl rfl (g_d rfl ?_)
 try dsimp only [Qae,Qaf]
 refine Qab (Qac (Qaj [0,1,2,3,4,5,6,7,8] rfl ?_))
 refine Qaa (v:=v9) rfl rfl rfl (g_d rfl ?_)
 obtain ⟨g4,H⟩:=ite_get H
 refine Qbl fkS (⟨#[]⟩:ByteArray) (hs.row 0 rfl) rfl (fun _=>rfl) g4.1 g4.2 rfl rfl rfl rfl rfl ?_
 intro p14 hp14 lp14 op14
 refine g_d rfl ?_
 refine QaI rfl rfl (v:=string (rdL r8 1 (⟨#[]⟩:ByteArray))) rfl rfl (fun _=>rfl) hp14 (g_d rfl ?_)
 try dsimp only [Qae,Qaf]
 obtain ⟨r15,Hr15,H⟩:=bind_get H
 refine QaA (args:=[string (rdL r8 1 (⟨#[]⟩:ByteArray))]) rfl rfl (Qax rfl (callFunc_enter Tryd.func26 rfl rfl) rfl) (QaC.calls (a1:=rdL r8 1 (⟨#[]⟩:ByteArray)) Hr15) ?_
 rintro _ w ⟨rfl,hs2⟩
 have hs:St _ [_,_,_] _:=hs.call hs2
 refine g_d rfl ?_
 refine Qaa (v:=tuple #[int .i64 r15.1,bool r15.2]) rfl rfl rfl (g_d rfl ?_)
 refine Qaa (v:=int .i64 r15.1) rfl rfl rfl (g_d rfl ?_)
 refine Qaa (v:=bool r15.2) rfl rfl rfl (g_d rfl ?_)
 refine Qaa (v:=int .i64 r15.1) rfl rfl rfl (g_d rfl ?_)
 try dsimp only [Qae,Qaf]
 refine Qaa (v:=bool r15.2) rfl rfl rfl (g_d rfl (Qab (Qac (Qac (Qaj [0,1,2,3,4,5,6,7,8,9,10,11] rfl ?_)))))
 refine Qas (B:=r13.2) rfl rfl rfl ?_ ?_
 ·
  intro hb
  rw [if_pos (b_var_t hb)] at H
  refine g_d rfl ?_
  refine Qaa (v:=bool false) rfl rfl rfl (g_d rfl ?_)
  try dsimp only [Qae,Qaf]
  refine Qaa (v:=bool false) rfl rfl rfl (g_d rfl ?_)
  refine Qaa (v:=bool r15.2) rfl rfl rfl (g_d rfl ?_)
  refine Qaa (v:=bool (!r15.2)) rfl rfl rfl (g_d rfl ?_)
  refine Qas (B:=!r15.2) rfl rfl rfl ?_ ?_
  ·
   intro hb
   rw [if_neg (b_not_t hb)] at H
   refine g_d rfl ?_
   try dsimp only [Qae,Qaf]
   refine Qaa (v:=bool true) rfl rfl rfl (g_d rfl (Qag rfl rfl (g_d rfl (Qag rfl rfl (g_d rfl (Qag rfl rfl (g_d rfl ?_)))))))
   refine Qag rfl rfl (g_d rfl ?_)
   try dsimp only [Qae,Qaf]
   refine Qaa (v:=bool true) rfl rfl rfl (g_d rfl (Qab (Qak rfl (Qac (Qaj [0,1,2] rfl ?_)))))
   refine Qaa (v:=agg (([int .i8 0,int .i8 0,slice none 0 0]:List Value)).toArray) rfl rfl (Qa4 (cs:=(([int .i8 0,int .i8 0,slice none 0 0]:List Value))) (segs:=[[int .i8 0],[int .i8 0],[slice none 0 0]]) rfl rfl (fun _=>rfl) ⟨rfl,(fun _=>rfl),rfl,(fun _=>rfl),rfl,(fun _=>rfl),trivial⟩ (by simp) (by first|rfl|(simp [ev,encA];done)|(simp [ev,encA];rfl))) ?_
   refine g_d rfl ?_
   try dsimp only [Qae,Qaf]
   have hs:St _ [_,_,_] _:=hs.pull 2 rfl
   refine QaT (n:=3) hs rfl rfl rfl (vs:=(([int .i8 0,int .i8 0,slice none 0 0]:List Value))) rfl rfl rfl (fun _=>rfl) rfl (by simp [Value.oneCell']) ?_
   intro w hs
   refine g_n rfl ?_
   refine Qaa (v:=int .i64 5) rfl rfl rfl (g_d rfl (Qab ?_))
   obtain rfl:=QsJ H
   refine Qau Tryd.func10 (v:=tuple #[agg (([int .i8 0,int .i8 0,slice none 0 0]:List Value)).toArray,int .i64 5]) (resN (l:=Tryd.f10.results.toList) (vs:=[agg (([int .i8 0,int .i8 0,slice none 0 0]:List Value)).toArray,int .i64 5]) rfl ⟨⟨_,rfl,(run_loadVar_agg (es:=(([int .i8 0,int .i8 0,slice none 0 0]:List Value))) rfl rfl (cells_all (hs.cells 0 rfl)))⟩,rfl,trivial⟩ (by simp)) ?_
   have hs:=hs.nil 55 Qav
   have hs:=hs.pull 0 rfl
   have hs:St _ [_] _:=St.take (Γ':=[_,_,_]) hs
   exact ⟨_,rfl,(slice none 0 0),rfl,hs⟩
  intro hb
  rw [if_pos (b_not_f hb)] at H
  refine g_d rfl ?_
  try dsimp only [Qae,Qaf]
  refine Qaa (v:=bool false) rfl rfl rfl (g_d rfl ?_)
  refine Qaa (v:=int .i64 r13.1) rfl rfl rfl (g_d rfl ?_)
  refine Qaa (v:=int .i64 r15.1) rfl rfl rfl (g_d rfl ?_)
  obtain ⟨r16,Hr16,H⟩:=bind_get H
  refine QaA (args:=[int .i64 r13.1,int .i64 r15.1]) rfl rfl (Qax rfl (callFunc_enter Tryd.func27 rfl rfl) rfl) (QaZ.calls (a1:=r13.1) (a2:=r15.1) Hr16) ?_
  rintro _ w ⟨rfl,hs2⟩
  have hs:St _ [_,_,_] _:=hs.call hs2
  cases r16 with
  |true=>
   rw [if_pos rfl] at H
   refine g_d rfl ?_
   try dsimp only [Qae,Qaf]
   refine Qaa (v:=bool false) rfl rfl rfl (g_d rfl ?_)
   refine Qaa (v:=bool false) rfl rfl rfl (g_d rfl ?_)
   try dsimp only [Qae,Qaf]
   refine Qab (Qad rfl (Qaw (Qac (Qaj [0,1,2,3,4,5,6] rfl ?_))))
   refine Qaa (v:=int .i64 r13.1) rfl rfl rfl (g_d rfl ?_)
   refine Qaa (v:=int .i8 (i8w r13.1)) rfl rfl rfl (g_d rfl ?_)
   refine Qaa (v:=int .i64 r15.1) rfl rfl rfl (g_d rfl ?_)
   refine Qaa (v:=int .i8 (i8w r15.1)) rfl rfl rfl (g_d rfl ?_)
   try dsimp only [Qae,Qaf]
   refine Qaa (v:=agg (([int .i8 (i8w r13.1),int .i8 (i8w r15.1),slice none 0 0]:List Value)).toArray) rfl rfl (Qa4 (cs:=(([int .i8 (i8w r13.1),int .i8 (i8w r15.1),slice none 0 0]:List Value))) (segs:=[[int .i8 0],[int .i8 0],[slice none 0 0]]) rfl rfl (fun _=>rfl) ⟨rfl,(fun _=>rfl),rfl,(fun _=>rfl),rfl,(fun _=>rfl),trivial⟩ (by simp only [List.map_cons,List.map_nil,List.forall_mem_cons,List.not_mem_nil,false_implies,implies_true,and_true];exact ⟨⟨_,rfl,rfl⟩,⟨_,rfl,rfl⟩⟩) (by first|rfl|(simp [ev,encA];done)|(simp [ev,encA];rfl))) ?_
   refine g_d rfl ?_
   try dsimp only [Qae,Qaf]
   refine Qbm hs rfl rfl (z:=(agg #[int .i8 0,int .i8 0,slice none 0 0])) (cs:=(([int .i8 0,int .i8 0,slice none 0 0]:List Value))) rfl (fun _=>rfl) rfl ?_
   intro b17 w hs
   refine g_d rfl ?_
   refine QaT (n:=3) hs rfl rfl rfl (vs:=(([int .i8 (i8w r13.1),int .i8 (i8w r15.1),slice none 0 0]:List Value))) rfl rfl rfl (fun _=>rfl) rfl (by simp [Value.oneCell']) ?_
   intro w hs
   refine g_n rfl (Qab (Qac (Qac (Qaj [0] rfl ?_))))
   refine Qaa (v:=int .i64 1) rfl rfl rfl (g_d rfl ?_)
   try dsimp only [Qae,Qaf]
   refine Qab ?_
   obtain ⟨o1_,Ho,Hr1_⟩:=bind_get H
   refine QaR (J:=fun t w=>∃ x63:Int,∃ x64:Int,∃ v65:Value,∃ x66:(List Qar),QaE.a0 N x63 x64 x66=some r∧Fr t (fun O=>(O 0::O 1::pointer (some ⟨b2,0,none⟩)::O 3::O 4::O 5::O 6::O 7::O 8::O 9::O 10::pointer (some ⟨b17,0,none⟩)::O 12::O 13::O 14::O 15::O 16::O 17::O 18::O 19::oT O 2 (oT O 3 (oT O 4 (oT O 5 (oT O 6 (oT O 7 (oT O 8 (oT O 9 (oT O 10 (oT O 11 (O 120::O 121::O 122::O 123::O 124::O 125::O 126::[])))))))))):List Value))∧St w0 [Cells b2 (([int .i8 0,int .i8 0,slice none 0 0]:List Value)) 30,Cells b17 (([int .i8 x63,int .i8 x64,v65]:List Value)) 30,Row 55 Qav v65 x66] w) ?_ ?_
   ·
    rintro t w ⟨x63,x64,v65,x66,H,hf,hs⟩
    obtain ⟨O,rfl⟩:=hf.open
    try dsimp only [oT]
    unfold QaE.a0 at H
    refine Qac (Qac (Qaj [0,1] rfl ?_))
    obtain ⟨r68,Hr68,H⟩:=bind_get H
    refine QaA (args:=[pointer (some ⟨b17,0,none⟩)]) rfl rfl (Qax rfl (callFunc_enter Tryd.func15 rfl rfl) rfl) (QaU.calls (a1:=(⟨x63,x64,x66⟩:Qao)) (hs.row 2 rfl) (hs.cells 1 rfl) Hr68) ?_
    rintro _ w ⟨rfl,hs2⟩
    have hs:St _ [_,_,_] _:=hs.call hs2
    cases r68 with
    |true=>
     rw [if_pos rfl] at H
     refine g_d rfl ?_
     try dsimp only [Qae,Qaf]
     refine Qaa (v:=bool false) rfl rfl rfl (g_d rfl (Qab (Qad rfl (Qaw (Qac (Qaj [0,1,2] rfl ?_))))))
     refine Qbe rfl rfl (es:=(([int .i8 x63,int .i8 x64,v65]:List Value))) rfl rfl (fun _=>rfl) (n:=3) (fun _=>rfl) rfl (cells_all (hs.cells 1 rfl)) (g_d rfl ?_)
     try dsimp only [Qae,Qaf]
     refine QaT (n:=3) hs rfl rfl rfl (vs:=(([int .i8 x63,int .i8 x64,v65]:List Value))) rfl rfl rfl (fun _=>rfl) rfl (by intro v hv;simp only [List.mem_append,List.mem_cons,List.not_mem_nil,or_false] at hv;repeat (first|(subst hv;first|rfl|exact slOne (hs.row 2 rfl))|(rcases hv with hv|hv))) ?_
     intro w hs
     refine g_n rfl ?_
     refine Qaa (v:=int .i64 0) rfl rfl rfl (g_d rfl (Qab ?_))
     obtain rfl:=QsJ H
     refine Qau Tryd.func10 (v:=tuple #[agg (([int .i8 x63,int .i8 x64,v65]:List Value)).toArray,int .i64 0]) (resN (l:=Tryd.f10.results.toList) (vs:=[agg (([int .i8 x63,int .i8 x64,v65]:List Value)).toArray,int .i64 0]) rfl ⟨⟨_,rfl,(run_loadVar_agg (es:=(([int .i8 x63,int .i8 x64,v65]:List Value))) rfl rfl (cells_all (hs.cells 0 rfl)))⟩,rfl,trivial⟩ (by simp)) ?_
     have hs:=hs.pull 2 rfl
     have hs:St _ [_] _:=St.take (Γ':=[_,_]) hs
     exact ⟨_,rfl,v65,rfl,hs⟩
    |false=>
     rw [if_neg Bool.false_ne_true] at H
     refine g_d rfl ?_
     try dsimp only [Qae,Qaf]
     refine Qaa (v:=bool true) rfl rfl rfl (g_d rfl (Qab (Qak rfl (Qac (Qaj [0,1,2] rfl ?_)))))
     refine Qaa (v:=agg (([int .i8 0,int .i8 0,slice none 0 0]:List Value)).toArray) rfl rfl (Qa4 (cs:=(([int .i8 0,int .i8 0,slice none 0 0]:List Value))) (segs:=[[int .i8 0],[int .i8 0],[slice none 0 0]]) rfl rfl (fun _=>rfl) ⟨rfl,(fun _=>rfl),rfl,(fun _=>rfl),rfl,(fun _=>rfl),trivial⟩ (by simp) (by first|rfl|(simp [ev,encA];done)|(simp [ev,encA];rfl))) ?_
     refine g_d rfl ?_
     try dsimp only [Qae,Qaf]
     refine QaT (n:=3) hs rfl rfl rfl (vs:=(([int .i8 0,int .i8 0,slice none 0 0]:List Value))) rfl rfl rfl (fun _=>rfl) rfl (by simp [Value.oneCell']) ?_
     intro w hs
     refine g_n rfl ?_
     refine Qaa (v:=int .i64 5) rfl rfl rfl (g_d rfl (Qab ?_))
     obtain rfl:=QsJ H
     refine Qau Tryd.func10 (v:=tuple #[agg (([int .i8 0,int .i8 0,slice none 0 0]:List Value)).toArray,int .i64 5]) (resN (l:=Tryd.f10.results.toList) (vs:=[agg (([int .i8 0,int .i8 0,slice none 0 0]:List Value)).toArray,int .i64 5]) rfl ⟨⟨_,rfl,(run_loadVar_agg (es:=(([int .i8 0,int .i8 0,slice none 0 0]:List Value))) rfl rfl (cells_all (hs.cells 0 rfl)))⟩,rfl,trivial⟩ (by simp)) ?_
     have hs:=hs.nil 55 Qav
     have hs:=hs.pull 0 rfl
     have hs:St _ [_] _:=St.take (Γ':=[_,_,_]) hs
     exact ⟨_,rfl,(slice none 0 0),rfl,hs⟩
   intro ha1_
   have hs:=hs.nil 55 Qav
   have hs:=hs.pull 1 rfl
   have hs:=hs.pull 1 rfl
   have hs:=hs.pull 3 rfl
   have hs:=hs.pull 4 rfl
   have hs:St _ [_,_,_,_] _:=St.take (Γ':=[_]) hs
   refine QaY (I:=fun n_ t w=>∃ x39:Int,∃ x40:Int,∃ v42:Value,∃ x43:(List Qar),∃ x44:Int,rounds (fun s=>QaE.b0 N r4 s.1 s.2.1 s.2.2.1 s.2.2.2) n_ (x39,x40,x43,x44)=some o1_∧Fr t (fun O=>(O 0::O 1::pointer (some ⟨b2,0,none⟩)::O 3::v5::int .i64 (i64w ((r4.length:Int) - 1))::O 6::O 7::O 8::O 9::O 10::pointer (some ⟨b17,0,none⟩)::int .i64 x44::O 13::O 14::O 15::O 16::O 17::O 18::O 19::oT O 2 (oT O 3 (oT O 4 (oT O 5 (oT O 6 (oT O 7 (oT O 8 (oT O 9 (oT O 10 (oT O 11 (O 120::O 121::O 122::O 123::O 124::O 125::O 126::[])))))))))):List Value))∧St w0 [Cells b2 (([int .i8 0,int .i8 0,slice none 0 0]:List Value)) 30,Row 9 K.str v5 r4,Row 55 Qav v42 x43,Cells b17 (([int .i8 x39,int .i8 x40,v42]:List Value)) 30] w) N ⟨i8w r13.1,i8w r15.1,slice none 0 0,[],1,Ho,rfl,hs⟩ ?_ ?_
   ·
    rintro _ _ ⟨x39,x40,v42,x43,x44,h,_⟩
    exact rounds_zero h
   intro n_ ih1_
   rintro t w ⟨x39,x40,v42,x43,x44,Ho,hf,hs⟩
   obtain ⟨O,rfl⟩:=hf.open
   try dsimp only [oT]
   obtain ⟨x17_,H,Hx1_⟩:=rounds_succ Ho
   have H:QaE.b0 N r4 x39 x40 x43 x44=some x17_:=H
   unfold QaE.b0 at H
   refine Qac (Qac (Qaj [0,1,2] rfl ?_))
   refine Qaa (v:=int .i64 x44) rfl rfl rfl (g_d rfl ?_)
   refine Qaa (v:=int .i64 (i64w ((r4.length:Int) - 1))) rfl rfl rfl (g_d rfl ?_)
   refine Qas (B:=decide (x44< (i64w ((r4.length:Int) - 1)))) rfl rfl rfl ?_ ?_
   ·
    intro hb
    rw [if_pos (b_dec_t hb)] at H
    refine g_d rfl ?_
    try dsimp only [Qae,Qaf]
    refine Qab (Qak rfl (Qaw (Qac ?_)))
    refine Qbd (Qac (Qaj [0,1,2,3,4,5] rfl ?_))
    refine Qaa (v:=v5) rfl rfl rfl (g_d rfl ?_)
    refine Qaa (v:=int .i64 x44) rfl rfl rfl (g_d rfl ?_)
    obtain ⟨g11,H⟩:=ite_get H
    refine Qbl fkS (⟨#[]⟩:ByteArray) (hs.row 1 rfl) rfl (fun _=>rfl) g11.1 g11.2 rfl rfl rfl rfl rfl ?_
    intro p45 hp45 lp45 op45
    refine g_d rfl ?_
    refine QaI rfl rfl (v:=string (rdL r4 x44 (⟨#[]⟩:ByteArray))) rfl rfl (fun _=>rfl) hp45 (g_d rfl ?_)
    try dsimp only [Qae,Qaf]
    obtain ⟨r46,Hr46,H⟩:=bind_get H
    refine QaA (args:=[string (rdL r4 x44 (⟨#[]⟩:ByteArray)),int .u8 32]) rfl rfl (Qax rfl (callFunc_enter Tryd.func25 rfl rfl) rfl) (Qaz.calls (a1:=rdL r4 x44 (⟨#[]⟩:ByteArray)) (a2:=32) Hr46) ?_
    intro v47 w hs2
    have hs:St _ [_,_,_,_,_] _:=hs.call hs2
    refine g_d rfl ?_
    refine Qaa (v:=v47) rfl rfl rfl (g_d rfl ?_)
    try dsimp only [Qae,Qaf]
    refine Qab (Qac (Qac ?_))
    refine Qbr (J:=(fun t w=>∃ x54:Bool,QaE.j2 N r46 x43 x39 x40 x44 x54=some x17_∧Fr t (fun O=>(O 0::O 1::pointer (some ⟨b2,0,none⟩)::O 3::v5::int .i64 (i64w ((r4.length:Int) - 1))::O 6::O 7::O 8::O 9::O 10::pointer (some ⟨b17,0,none⟩)::int .i64 x44::v47::O 14::O 15::O 16::O 17::O 18::O 19::oT O 2 (oT O 3 (oT O 4 (oT O 5 (oT O 6 (oT O 7 (oT O 8 (v47::O 91::string (rdL r46 1 (⟨#[]⟩:ByteArray))::bool x54::bool x54::O 95::O 96::O 97::O 98::bool false::oT O 10 (oT O 11 (O 120::O 121::O 122::O 123::O 124::O 125::O 126::[]))))))))):List Value))∧St w0 [Cells b2 (([int .i8 0,int .i8 0,slice none 0 0]:List Value)) 30,Row 9 K.str v5 r4,Cells b17 (([int .i8 x39,int .i8 x40,v42]:List Value)) 30,Row 55 Qav v42 x43,Row 9 K.str v47 r46] w)) ?_ ?_
    ·
     rintro t w ⟨x54,H,hf,hs⟩
     obtain ⟨O,rfl⟩:=hf.open
     try dsimp only [oT]
     unfold QaE.j2 at H
     refine Qac (Qaj [0,1,2,3,4,5,6,7,8] rfl ?_)
     refine Qaa (v:=v47) rfl rfl rfl (g_d rfl ?_)
     obtain ⟨g14,H⟩:=ite_get H
     refine Qbl fkS (⟨#[]⟩:ByteArray) (hs.row 4 rfl) rfl (fun _=>rfl) g14.1 g14.2 rfl rfl rfl rfl rfl ?_
     intro p55 hp55 lp55 op55
     refine g_d rfl ?_
     try dsimp only [Qae,Qaf]
     refine QaI rfl rfl (v:=string (rdL r46 0 (⟨#[]⟩:ByteArray))) rfl rfl (fun _=>rfl) hp55 (g_d rfl ?_)
     obtain ⟨r56,Hr56,H⟩:=bind_get H
     refine QaA (args:=[string (rdL r46 0 (⟨#[]⟩:ByteArray))]) rfl rfl (Qax rfl (callFunc_enter Tryd.func28 rfl rfl) rfl) (QaF.calls (a1:=rdL r46 0 (⟨#[]⟩:ByteArray)) Hr56) ?_
     rintro _ w ⟨rfl,hs2⟩
     have hs:St _ [_,_,_,_,_] _:=hs.call hs2
     refine g_d rfl ?_
     try dsimp only [Qae,Qaf]
     refine Qaa (v:=tuple #[int .u64 r56.1,bool r56.2]) rfl rfl rfl (g_d rfl ?_)
     refine Qaa (v:=int .u64 r56.1) rfl rfl rfl (g_d rfl ?_)
     refine Qaa (v:=bool r56.2) rfl rfl rfl (g_d rfl ?_)
     refine Qaa (v:=int .u64 r56.1) rfl rfl rfl (g_d rfl ?_)
     refine Qaa (v:=bool r56.2) rfl rfl rfl (g_d rfl ?_)
     try dsimp only [Qae,Qaf]
     refine Qab (Qac (Qac (Qaj [0,1] rfl ?_)))
     refine Qas (B:=r56.2) rfl rfl rfl ?_ ?_
     ·
      intro hb
      rw [if_pos (b_var_t hb)] at H
      refine g_d rfl ?_
      refine Qaa (v:=bool false) rfl rfl rfl (g_d rfl ?_)
      try dsimp only [Qae,Qaf]
      refine Qab (Qad rfl (Qaw ?_))
      obtain ⟨gd15,H⟩:=ite_get H
      obtain ⟨ad16_,ad16_N,ad16_C,had16_⟩:=sl_at (hs.row 4 rfl) gd15.1 gd15.2
      obtain ⟨gq9_,H⟩:=ite_get H
      refine Qbt ?_
      intro T hT
      refine QbN (n:=12) rfl [0,1,2,3,4,5,6,7,8,9,10,11] [0,1,2,3,4,5,6,7,8,9,10,11] rfl rfl (Inv:=fun D t w=>∃ v57:Value,∃ v59:Value,∃ O:Nat→Value,t=(O 0::O 1::pointer (some ⟨b2,0,none⟩)::O 3::v5::int .i64 (i64w ((r4.length:Int) - 1))::O 6::O 7::O 8::O 9::O 10::pointer (some ⟨b17,0,none⟩)::int .i64 x44::v47::int .u64 r56.1::bool r56.2::O 16::O 17::O 18::O 19::oT O 2 (oT O 3 (oT O 4 (oT O 5 (oT O 6 (oT O 7 (oT O 8 (v47::O 91::string (rdL r46 1 (⟨#[]⟩:ByteArray))::bool x54::bool x54::O 95::O 96::O 97::O 98::bool false::O 100::O 101::tuple #[int .u64 r56.1,bool r56.2]::v47::pointer (some p55)::string (rdL r46 0 (⟨#[]⟩:ByteArray))::tuple #[int .u64 r56.1,bool r56.2]::int .u64 r56.1::bool r56.2::bool true::bool false::O 111::cnd (D 0) (pointer (some ⟨b17,2,none⟩)) (O 112)::cnd (D 1) v42 (O 113)::cnd (D 2) (int .u64 r56.1) (O 114)::cnd (D 3) v47 (O 115)::cnd (D 4) (pointer (some (ad16_.add ((1:Int).toNat*1)))) (O 116)::cnd (D 5) (string (rdL r46 1 (⟨#[]⟩:ByteArray))) (O 117)::cnd (D 6) (bool ((rdL r46 1 (⟨#[]⟩:ByteArray)).toList==(⟨#[121,101,115]⟩:ByteArray).toList)) (O 118)::cnd (D 7) (agg (Qay (⟨r56.1,(rdL r46 1 (⟨#[]⟩:ByteArray)).toList==(⟨#[121,101,115]⟩:ByteArray).toList⟩:Qar)).toArray) (O 119)::cnd (D 8) v57 (O 120)::cnd (D 9) v59 (O 121)::cnd (D 10) (pointer (some ⟨b17,2,none⟩)) (O 122)::O 123::O 124::O 125::O 126::[]))))))))∧St w0 [Asc (D 8) (Row 55 Qav v57 ([(⟨r56.1,(rdL r46 1 (⟨#[]⟩:ByteArray)).toList==(⟨#[121,101,115]⟩:ByteArray).toList⟩:Qar)])),Cells b2 (([int .i8 0,int .i8 0,slice none 0 0]:List Value)) 30,Row 9 K.str v5 r4,Cells b17 (cnd (D 11) (([int .i8 x39,int .i8 x40,v59]:List Value)) (([int .i8 x39,int .i8 x40,v42]:List Value))) 30,Row 55 Qav (cnd (D 9) v59 v42) (cnd (D 9) (x43++([(⟨r56.1,(rdL r46 1 (⟨#[]⟩:ByteArray)).toList==(⟨#[121,101,115]⟩:ByteArray).toList⟩:Qar)])) x43),Row 9 K.str v47 r46] w) ?_ ⟨⟨⟨⟨⟨⟨⟨⟨⟨⟨⟨⟨trivial,?_⟩,?_⟩,?_⟩,?_⟩,?_⟩,?_⟩,?_⟩,?_⟩,?_⟩,?_⟩,?_⟩,?_⟩ ?_
      ·
       intro w hh hbw
       have hs:=hs.samew hh hbw
       have hs:=hs.emp
       exact ⟨undef,undef,fun i=>T.getD i undef,(by subst hT;rfl),hs⟩
      ·
       rintro D t w hD hp hcl ⟨v57,v59,O,ht,hs⟩ rest hk
       have q1_:=nz hcl 1 0 hD
       have q9_:=nz hcl 9 0 q1_
       have q10_:=nz hcl 10 0 hD
       have q11_:=nz hcl 11 0 q10_
       simp only [hD,q1_,q9_,q10_,q11_,cq,oT] at ht hs
       subst ht
       refine Qaa (v:=pointer (some ⟨b17,2,none⟩)) rfl rfl rfl (g_d rfl ?_)
       try dsimp only [Qae,Qaf]
       refine hk _ _ ⟨v57,v59,O,?_,hs.cast ?_⟩<;>simp only [oT,lq,cq,Nat.reduceBEq,q1_,q9_,q10_,q11_]
      ·
       rintro D t w hD hp hcl ⟨v57,v59,O,ht,hs⟩ rest hk
       obtain ⟨p0_,_⟩:=hp
       have q9_:=nz hcl 9 0 hD
       have q10_:=nz hcl 10 1 hD
       have q11_:=nz hcl 11 0 q10_
       simp only [hD,p0_,q9_,q10_,q11_,cq,oT] at ht hs
       subst ht
       refine QaI rfl rfl (v:=v42) rfl rfl (fun _=>rfl) (cells_load (hs.cells 3 rfl) 2 1 rfl) (g_d rfl ?_)
       try dsimp only [Qae,Qaf]
       refine hk _ _ ⟨v57,v59,O,?_,hs.cast ?_⟩<;>simp only [oT,lq,cq,Nat.reduceBEq,p0_,q9_,q10_,q11_]
      ·
       rintro D t w hD hp hcl ⟨v57,v59,O,ht,hs⟩ rest hk
       have q7_:=nz hcl 7 0 hD
       have q8_:=nz hcl 8 0 q7_
       have q9_:=nz hcl 9 1 q8_
       have q10_:=nz hcl 10 2 hD
       have q11_:=nz hcl 11 0 q10_
       simp only [hD,q7_,q8_,q9_,q10_,q11_,cq,oT] at ht hs
       subst ht
       refine Qaa (v:=int .u64 r56.1) rfl rfl rfl (g_d rfl ?_)
       try dsimp only [Qae,Qaf]
       refine hk _ _ ⟨v57,v59,O,?_,hs.cast ?_⟩<;>simp only [oT,lq,cq,Nat.reduceBEq,q7_,q8_,q9_,q10_,q11_]
      ·
       rintro D t w hD hp hcl ⟨v57,v59,O,ht,hs⟩ rest hk
       have q4_:=nz hcl 4 0 hD
       have q5_:=nz hcl 5 0 q4_
       have q6_:=nz hcl 6 0 q5_
       have q7_:=nz hcl 7 1 q6_
       have q8_:=nz hcl 8 0 q7_
       have q9_:=nz hcl 9 1 q8_
       have q10_:=nz hcl 10 3 hD
       have q11_:=nz hcl 11 0 q10_
       simp only [hD,q4_,q5_,q6_,q7_,q8_,q9_,q10_,q11_,cq,oT] at ht hs
       subst ht
       refine Qaa (v:=v47) rfl rfl rfl (g_d rfl ?_)
       try dsimp only [Qae,Qaf]
       refine hk _ _ ⟨v57,v59,O,?_,hs.cast ?_⟩<;>simp only [oT,lq,cq,Nat.reduceBEq,q4_,q5_,q6_,q7_,q8_,q9_,q10_,q11_]
      ·
       rintro D t w hD hp hcl ⟨v57,v59,O,ht,hs⟩ rest hk
       obtain ⟨p3_,_⟩:=hp
       have q5_:=nz hcl 5 0 hD
       have q6_:=nz hcl 6 0 q5_
       have q7_:=nz hcl 7 1 q6_
       have q8_:=nz hcl 8 0 q7_
       have q9_:=nz hcl 9 1 q8_
       have q10_:=nz hcl 10 4 hD
       have q11_:=nz hcl 11 0 q10_
       simp only [hD,p3_,q5_,q6_,q7_,q8_,q9_,q10_,q11_,cq,oT] at ht hs
       subst ht
       refine QbC (κ:=K.str) (m:=1) rfl (hs.row 5 rfl) rfl (fun _=>rfl) gd15.1 gd15.2 had16_ rfl rfl rfl rfl rfl (g_d rfl ?_)
       try dsimp only [Qae,Qaf]
       refine hk _ _ ⟨v57,v59,O,?_,hs.cast ?_⟩<;>simp only [oT,lq,cq,Nat.reduceBEq,p3_,q5_,q6_,q7_,q8_,q9_,q10_,q11_]
      ·
       rintro D t w hD hp hcl ⟨v57,v59,O,ht,hs⟩ rest hk
       obtain ⟨p4_,_⟩:=hp
       obtain ⟨p3_,_⟩:=(hcl.get 4 (by decide)) p4_
       have q6_:=nz hcl 6 0 hD
       have q7_:=nz hcl 7 1 q6_
       have q8_:=nz hcl 8 0 q7_
       have q9_:=nz hcl 9 1 q8_
       have q10_:=nz hcl 10 5 hD
       have q11_:=nz hcl 11 0 q10_
       simp only [hD,p3_,p4_,q6_,q7_,q8_,q9_,q10_,q11_,cq,oT] at ht hs
       subst ht
       refine QaI rfl rfl (v:=string (rdL r46 1 (⟨#[]⟩:ByteArray))) rfl rfl (fun _=>rfl) (cellsAt_of fkS (⟨#[]⟩:ByteArray) (hs.row 5 rfl) had16_ gd15.1 gd15.2) (g_d rfl ?_)
       try dsimp only [Qae,Qaf]
       refine hk _ _ ⟨v57,v59,O,?_,hs.cast ?_⟩<;>simp only [oT,lq,cq,Nat.reduceBEq,p3_,p4_,q6_,q7_,q8_,q9_,q10_,q11_]
      ·
       rintro D t w hD hp hcl ⟨v57,v59,O,ht,hs⟩ rest hk
       obtain ⟨p5_,_⟩:=hp
       obtain ⟨p4_,_⟩:=(hcl.get 5 (by decide)) p5_
       obtain ⟨p3_,_⟩:=(hcl.get 4 (by decide)) p4_
       have q7_:=nz hcl 7 1 hD
       have q8_:=nz hcl 8 0 q7_
       have q9_:=nz hcl 9 1 q8_
       have q10_:=nz hcl 10 6 hD
       have q11_:=nz hcl 11 0 q10_
       simp only [hD,p3_,p4_,p5_,q7_,q8_,q9_,q10_,q11_,cq,oT] at ht hs
       subst ht
       refine Qaa (v:=bool ((rdL r46 1 (⟨#[]⟩:ByteArray)).toList==(⟨#[121,101,115]⟩:ByteArray).toList)) rfl rfl rfl (g_d rfl ?_)
       try dsimp only [Qae,Qaf]
       refine hk _ _ ⟨v57,v59,O,?_,hs.cast ?_⟩<;>simp only [oT,lq,cq,Nat.reduceBEq,p3_,p4_,p5_,q7_,q8_,q9_,q10_,q11_]
      ·
       rintro D t w hD hp hcl ⟨v57,v59,O,ht,hs⟩ rest hk
       obtain ⟨p2_,p6_,_⟩:=hp
       obtain ⟨p5_,_⟩:=(hcl.get 6 (by decide)) p6_
       obtain ⟨p4_,_⟩:=(hcl.get 5 (by decide)) p5_
       obtain ⟨p3_,_⟩:=(hcl.get 4 (by decide)) p4_
       have q8_:=nz hcl 8 0 hD
       have q9_:=nz hcl 9 1 q8_
       have q10_:=nz hcl 10 7 hD
       have q11_:=nz hcl 11 0 q10_
       simp only [hD,p2_,p3_,p4_,p5_,p6_,q8_,q9_,q10_,q11_,cq,oT] at ht hs
       subst ht
       refine Qaa (v:=agg (Qay (⟨r56.1,(rdL r46 1 (⟨#[]⟩:ByteArray)).toList==(⟨#[121,101,115]⟩:ByteArray).toList⟩:Qar)).toArray) rfl rfl (Qa4 (cs:=(Qay (⟨r56.1,(rdL r46 1 (⟨#[]⟩:ByteArray)).toList==(⟨#[121,101,115]⟩:ByteArray).toList⟩:Qar))) (segs:=[[int .u64 0],[bool false]]) rfl rfl (fun _=>rfl) ⟨rfl,(fun _=>rfl),rfl,(fun _=>rfl),trivial⟩ (by simp only [List.map_cons,List.map_nil,List.forall_mem_cons,List.not_mem_nil,false_implies,implies_true,and_true];exact ⟨⟨_,rfl,rfl⟩,⟨_,rfl,rfl⟩⟩) (by first|rfl|(simp [ev,Qay];done)|(simp [ev,Qay];rfl))) ?_
       refine g_d rfl ?_
       try dsimp only [Qae,Qaf]
       refine hk _ _ ⟨v57,v59,O,?_,hs.cast ?_⟩<;>simp only [oT,lq,cq,Nat.reduceBEq,p2_,p3_,p4_,p5_,p6_,q8_,q9_,q10_,q11_]
      ·
       rintro D t w hD hp hcl ⟨v57,v59,O,ht,hs⟩ rest hk
       obtain ⟨p7_,_⟩:=hp
       obtain ⟨p2_,p6_,_⟩:=(hcl.get 7 (by decide)) p7_
       obtain ⟨p5_,_⟩:=(hcl.get 6 (by decide)) p6_
       obtain ⟨p4_,_⟩:=(hcl.get 5 (by decide)) p5_
       obtain ⟨p3_,_⟩:=(hcl.get 4 (by decide)) p4_
       have q9_:=nz hcl 9 1 hD
       have q10_:=nz hcl 10 8 hD
       have q11_:=nz hcl 11 0 q10_
       simp only [hD,p2_,p3_,p4_,p5_,p6_,p7_,q9_,q10_,q11_,cq,oT] at ht hs
       subst ht
       refine QbD QaL (y:=(⟨r56.1,(rdL r46 1 (⟨#[]⟩:ByteArray)).toList==(⟨#[121,101,115]⟩:ByteArray).toList⟩:Qar)) hs rfl rfl rfl rfl (fun _=>rfl) (zv:=(agg #[int .u64 0,bool false])) (fun _=>rfl) rfl (by decide) (by decide) rfl ?_
       intro v57 w hs
       refine g_d rfl ?_
       try dsimp only [Qae,Qaf]
       have hs:=hs.fill 0 rfl
       refine hk _ _ ⟨v57,v59,O,?_,hs.cast ?_⟩<;>simp only [oT,lq,cq,Nat.reduceBEq,p2_,p3_,p4_,p5_,p6_,p7_,q9_,q10_,q11_]
      ·
       rintro D t w hD hp hcl ⟨v57,v59,O,ht,hs⟩ rest hk
       obtain ⟨p1_,p8_,_⟩:=hp
       obtain ⟨p7_,_⟩:=(hcl.get 8 (by decide)) p8_
       obtain ⟨p2_,p6_,_⟩:=(hcl.get 7 (by decide)) p7_
       obtain ⟨p5_,_⟩:=(hcl.get 6 (by decide)) p6_
       obtain ⟨p4_,_⟩:=(hcl.get 5 (by decide)) p5_
       obtain ⟨p3_,_⟩:=(hcl.get 4 (by decide)) p4_
       obtain ⟨p0_,_⟩:=(hcl.get 1 (by decide)) p1_
       have q10_:=nz hcl 10 9 hD
       have q11_:=nz hcl 11 0 q10_
       simp only [hD,p0_,p1_,p2_,p3_,p4_,p5_,p6_,p7_,p8_,q10_,q11_,cq,oT] at ht hs
       subst ht
       have hs:St _ [_,_,_,_,_,_] _:=hs.pull 4 rfl
       refine Qbu QaL (zv:=(agg #[int .u64 0,bool false])) (B:=16) hs (hs.row 1 rfl) rfl rfl rfl rfl rfl rfl rfl rfl rfl (by decide) rfl rfl (by decide) (by have:=gq9_;omega) ?_
       intro v59 w hs
       refine g_d rfl ?_
       try dsimp only [Qae,Qaf]
       have hs:=hs.push 4 (by simp)
       refine hk _ _ ⟨v57,v59,O,?_,hs.cast ?_⟩<;>simp only [oT,lq,cq,Nat.reduceBEq,p0_,p1_,p2_,p3_,p4_,p5_,p6_,p7_,p8_,q10_,q11_]
      ·
       rintro D t w hD hp hcl ⟨v57,v59,O,ht,hs⟩ rest hk
       obtain ⟨p0_,p1_,p2_,p3_,p4_,p5_,p6_,p7_,p8_,p9_,_⟩:=hp
       have q11_:=nz hcl 11 0 hD
       simp only [hD,p0_,p1_,p2_,p3_,p4_,p5_,p6_,p7_,p8_,p9_,q11_,cq,oT] at ht hs
       subst ht
       refine Qaa (v:=pointer (some ⟨b17,2,none⟩)) rfl rfl rfl (g_d rfl ?_)
       try dsimp only [Qae,Qaf]
       refine hk _ _ ⟨v57,v59,O,?_,hs.cast ?_⟩<;>simp only [oT,lq,cq,Nat.reduceBEq,p0_,p1_,p2_,p3_,p4_,p5_,p6_,p7_,p8_,p9_,q11_]
      ·
       rintro D t w hD hp hcl ⟨v57,v59,O,ht,hs⟩ rest hk
       obtain ⟨p10_,p9_,_,p0_,p1_,p2_,p3_,p4_,p5_,p6_,p7_,p8_,_,_⟩:=hp
       simp only [hD,p0_,p1_,p2_,p3_,p4_,p5_,p6_,p7_,p8_,p9_,p10_,cq,oT] at ht hs
       subst ht
       have hs:St _ [_,_,_,_,_,_] _:=hs.pull 3 rfl
       refine Qbs hs rfl rfl (vs:=[v59]) (cs':=(([int .i8 x39,int .i8 x40,v59]:List Value))) rfl rfl (slCells (hs.row 4 rfl)) (n:=1) (fun _=>rfl) rfl (by first|exact Nat.le_of_ble_eq_true rfl|simp [encAI_len,encAB_len,encA_len]) (by intro v hv;simp only [List.mem_cons,List.not_mem_nil,or_false] at hv;subst hv;exact slOne (hs.row 4 rfl)) rfl ?_
       intro w hs
       refine g_n rfl ?_
       try dsimp only [Qae,Qaf]
       have hs:=hs.push 3 (by simp)
       refine hk _ _ ⟨v57,v59,O,?_,hs.cast ?_⟩<;>simp only [oT,lq,cq,Nat.reduceBEq,p0_,p1_,p2_,p3_,p4_,p5_,p6_,p7_,p8_,p9_,p10_]
      intro D t w hall hI
      obtain ⟨v57,v59,O,ht,hs⟩:=hI
      have p0_:=hall 0 (by decide)
      have p1_:=hall 1 (by decide)
      have p2_:=hall 2 (by decide)
      have p3_:=hall 3 (by decide)
      have p4_:=hall 4 (by decide)
      have p5_:=hall 5 (by decide)
      have p6_:=hall 6 (by decide)
      have p7_:=hall 7 (by decide)
      have p8_:=hall 8 (by decide)
      have p9_:=hall 9 (by decide)
      have p10_:=hall 10 (by decide)
      have p11_:=hall 11 (by decide)
      simp only [p0_,p1_,p2_,p3_,p4_,p5_,p6_,p7_,p8_,p9_,p10_,p11_,cq,oT] at ht hs
      subst ht
      refine QaD (Qaj [0,1,2] rfl ?_)
      refine Qaa (v:=int .i64 x44) rfl rfl rfl (g_d rfl ?_)
      refine Qaa (v:=int .i64 (i64w (x44+1))) rfl rfl rfl (g_d rfl ?_)
      refine Qaa (v:=int .i64 (i64w (x44+1))) rfl rfl rfl (g_d rfl ?_)
      try dsimp only [Qae,Qaf]
      refine Qab ?_
      obtain rfl:=QsJ H
      have hs:=hs.pull 3 rfl
      have hs:=hs.pull 4 rfl
      have hs:=hs.pull 4 rfl
      have hs:=hs.pull 4 rfl
      have hs:St _ [_,_,_,_] _:=St.take (Γ':=[_,_]) hs
      exact ih1_ _ _ ⟨x39,x40,v59,x43++([(⟨r56.1,(rdL r46 1 (⟨#[]⟩:ByteArray)).toList==(⟨#[121,101,115]⟩:ByteArray).toList⟩:Qar)]),i64w (x44+1),Hx1_,rfl,hs⟩
     intro hb
     rw [if_neg (b_var_f hb)] at H
     refine g_d rfl ?_
     refine Qaa (v:=bool true) rfl rfl rfl (g_d rfl (Qab (Qak rfl (Qac (Qaj [0,1,2] rfl ?_)))))
     refine Qaa (v:=agg (([int .i8 0,int .i8 0,slice none 0 0]:List Value)).toArray) rfl rfl (Qa4 (cs:=(([int .i8 0,int .i8 0,slice none 0 0]:List Value))) (segs:=[[int .i8 0],[int .i8 0],[slice none 0 0]]) rfl rfl (fun _=>rfl) ⟨rfl,(fun _=>rfl),rfl,(fun _=>rfl),rfl,(fun _=>rfl),trivial⟩ (by simp) (by first|rfl|(simp [ev,encA];done)|(simp [ev,encA];rfl))) ?_
     refine g_d rfl ?_
     try dsimp only [Qae,Qaf]
     refine QaT (n:=3) hs rfl rfl rfl (vs:=(([int .i8 0,int .i8 0,slice none 0 0]:List Value))) rfl rfl rfl (fun _=>rfl) rfl (by simp [Value.oneCell']) ?_
     intro w hs
     refine g_n rfl ?_
     refine Qaa (v:=int .i64 5) rfl rfl rfl (g_d rfl (Qab ?_))
     obtain rfl:=QsJ H
     subst Hx1_
     have H:=QsJ Hr1_
     subst H
     refine Qau Tryd.func10 (v:=tuple #[agg (([int .i8 0,int .i8 0,slice none 0 0]:List Value)).toArray,int .i64 5]) (resN (l:=Tryd.f10.results.toList) (vs:=[agg (([int .i8 0,int .i8 0,slice none 0 0]:List Value)).toArray,int .i64 5]) rfl ⟨⟨_,rfl,(run_loadVar_agg (es:=(([int .i8 0,int .i8 0,slice none 0 0]:List Value))) rfl rfl (cells_all (hs.cells 0 rfl)))⟩,rfl,trivial⟩ (by simp)) ?_
     have hs:=hs.nil 55 Qav
     have hs:=hs.pull 0 rfl
     have hs:St _ [_] _:=St.take (Γ':=[_,_,_,_,_]) hs
     exact ⟨_,rfl,(slice none 0 0),rfl,hs⟩
    intro ha
    refine Qaj [0,1,2,3,4,5,6,7,8,9,10,11,12,13,14] rfl ?_
    refine Qaa (v:=v47) rfl rfl rfl (g_d rfl ?_)
    refine Qbn (hs.row 0 rfl) rfl rfl rfl rfl rfl (g_d rfl ?_)
    refine Qas (B:=(r46.length:Int) !=2) rfl rfl rfl ?_ ?_
    ·
     intro hb
     rw [if_neg (b_bne_t hb)] at H
     refine g_d rfl ?_
     refine Qaa (v:=bool true) rfl rfl rfl (g_d rfl (Qag rfl rfl (g_d rfl (Qag rfl rfl (g_d rfl ?_)))))
     try dsimp only [Qae,Qaf]
     refine Qag rfl rfl (g_d rfl (Qag rfl rfl (g_d rfl ?_)))
     try dsimp only [Qae,Qaf]
     refine Qag rfl rfl (g_d rfl (Qag rfl rfl (g_d rfl (Qag rfl rfl (g_d rfl (Qag rfl rfl (g_d rfl ?_)))))))
     try dsimp only [Qae,Qaf]
     refine Qag rfl rfl (g_d rfl (Qag rfl rfl (g_d rfl ?_)))
     try dsimp only [Qae,Qaf]
     refine Qaa (v:=bool true) rfl rfl rfl (g_d rfl (Qab (Qak rfl (Qac (Qaj [0,1,2] rfl ?_)))))
     refine Qaa (v:=agg (([int .i8 0,int .i8 0,slice none 0 0]:List Value)).toArray) rfl rfl (Qa4 (cs:=(([int .i8 0,int .i8 0,slice none 0 0]:List Value))) (segs:=[[int .i8 0],[int .i8 0],[slice none 0 0]]) rfl rfl (fun _=>rfl) ⟨rfl,(fun _=>rfl),rfl,(fun _=>rfl),rfl,(fun _=>rfl),trivial⟩ (by simp) (by first|rfl|(simp [ev,encA];done)|(simp [ev,encA];rfl))) ?_
     refine g_d rfl ?_
     try dsimp only [Qae,Qaf]
     have hs:St _ [_,_,_,_,_] _:=hs.pull 1 rfl
     refine QaT (n:=3) hs rfl rfl rfl (vs:=(([int .i8 0,int .i8 0,slice none 0 0]:List Value))) rfl rfl rfl (fun _=>rfl) rfl (by simp [Value.oneCell']) ?_
     intro w hs
     refine g_n rfl ?_
     refine Qaa (v:=int .i64 5) rfl rfl rfl (g_d rfl (Qab ?_))
     obtain rfl:=QsJ H
     subst Hx1_
     have H:=QsJ Hr1_
     subst H
     refine Qau Tryd.func10 (v:=tuple #[agg (([int .i8 0,int .i8 0,slice none 0 0]:List Value)).toArray,int .i64 5]) (resN (l:=Tryd.f10.results.toList) (vs:=[agg (([int .i8 0,int .i8 0,slice none 0 0]:List Value)).toArray,int .i64 5]) rfl ⟨⟨_,rfl,(run_loadVar_agg (es:=(([int .i8 0,int .i8 0,slice none 0 0]:List Value))) rfl rfl (cells_all (hs.cells 0 rfl)))⟩,rfl,trivial⟩ (by simp)) ?_
     have hs:=hs.nil 55 Qav
     have hs:=hs.pull 0 rfl
     have hs:St _ [_] _:=St.take (Γ':=[_,_,_,_,_]) hs
     exact ⟨_,rfl,(slice none 0 0),rfl,hs⟩
    intro hb
    rw [if_pos (b_bne_f hb)] at H
    refine g_d rfl ?_
    try dsimp only [Qae,Qaf]
    refine Qaa (v:=bool false) rfl rfl rfl (g_d rfl ?_)
    refine Qaa (v:=v47) rfl rfl rfl (g_d rfl ?_)
    obtain ⟨g12,H⟩:=ite_get H
    refine Qbl fkS (⟨#[]⟩:ByteArray) (hs.row 0 rfl) rfl (fun _=>rfl) g12.1 g12.2 rfl rfl rfl rfl rfl ?_
    intro p49 hp49 lp49 op49
    refine g_d rfl ?_
    refine QaI rfl rfl (v:=string (rdL r46 1 (⟨#[]⟩:ByteArray))) rfl rfl (fun _=>rfl) hp49 (g_d rfl ?_)
    try dsimp only [Qae,Qaf]
    refine Qas (B:=!((rdL r46 1 (⟨#[]⟩:ByteArray)).toList==(⟨#[121,101,115]⟩:ByteArray).toList)) rfl rfl rfl ?_ ?_
    ·
     intro hb
     rw [if_neg (b_nbeq_t hb)] at H
     refine g_d rfl ?_
     refine Qaa (v:=bool true) rfl rfl rfl (g_d rfl ?_)
     refine Qaa (v:=v47) rfl rfl rfl (g_d rfl ?_)
     obtain ⟨g13,H⟩:=ite_get H
     refine Qbl fkS (⟨#[]⟩:ByteArray) (hs.row 0 rfl) rfl (fun _=>rfl) g13.1 g13.2 rfl rfl rfl rfl rfl ?_
     intro p50 hp50 lp50 op50
     refine g_d rfl ?_
     try dsimp only [Qae,Qaf]
     refine QaI rfl rfl (v:=string (rdL r46 1 (⟨#[]⟩:ByteArray))) rfl rfl (fun _=>rfl) hp50 (g_d rfl ?_)
     refine Qaa (v:=bool (!((rdL r46 1 (⟨#[]⟩:ByteArray)).toList==(⟨#[110,111]⟩:ByteArray).toList))) rfl rfl rfl (g_d rfl ?_)
     try dsimp only [Qae,Qaf]
     refine Qas (B:=!((rdL r46 1 (⟨#[]⟩:ByteArray)).toList==(⟨#[110,111]⟩:ByteArray).toList)) rfl rfl rfl ?_ ?_
     ·
      intro hb
      rw [if_neg (b_nbeq_t hb)] at H
      refine g_d rfl ?_
      refine Qaa (v:=bool true) rfl rfl rfl (g_d rfl ?_)
      try dsimp only [Qae,Qaf]
      refine Qab (Qak rfl (Qac (Qaj [0,1,2] rfl ?_)))
      refine Qaa (v:=agg (([int .i8 0,int .i8 0,slice none 0 0]:List Value)).toArray) rfl rfl (Qa4 (cs:=(([int .i8 0,int .i8 0,slice none 0 0]:List Value))) (segs:=[[int .i8 0],[int .i8 0],[slice none 0 0]]) rfl rfl (fun _=>rfl) ⟨rfl,(fun _=>rfl),rfl,(fun _=>rfl),rfl,(fun _=>rfl),trivial⟩ (by simp) (by first|rfl|(simp [ev,encA];done)|(simp [ev,encA];rfl))) ?_
      refine g_d rfl ?_
      have hs:St _ [_,_,_,_,_] _:=hs.pull 1 rfl
      refine QaT (n:=3) hs rfl rfl rfl (vs:=(([int .i8 0,int .i8 0,slice none 0 0]:List Value))) rfl rfl rfl (fun _=>rfl) rfl (by simp [Value.oneCell']) ?_
      intro w hs
      refine g_n rfl ?_
      refine Qaa (v:=int .i64 5) rfl rfl rfl (g_d rfl ?_)
      try dsimp only [Qae,Qaf]
      refine Qab ?_
      obtain rfl:=QsJ H
      subst Hx1_
      have H:=QsJ Hr1_
      subst H
      refine Qau Tryd.func10 (v:=tuple #[agg (([int .i8 0,int .i8 0,slice none 0 0]:List Value)).toArray,int .i64 5]) (resN (l:=Tryd.f10.results.toList) (vs:=[agg (([int .i8 0,int .i8 0,slice none 0 0]:List Value)).toArray,int .i64 5]) rfl ⟨⟨_,rfl,(run_loadVar_agg (es:=(([int .i8 0,int .i8 0,slice none 0 0]:List Value))) rfl rfl (cells_all (hs.cells 0 rfl)))⟩,rfl,trivial⟩ (by simp)) ?_
      have hs:=hs.nil 55 Qav
      have hs:=hs.pull 0 rfl
      have hs:St _ [_] _:=St.take (Γ':=[_,_,_,_,_]) hs
      exact ⟨_,rfl,(slice none 0 0),rfl,hs⟩
     intro hb
     rw [if_pos (b_nbeq_f hb)] at H
     refine g_d rfl ?_
     refine Qaa (v:=bool false) rfl rfl rfl (g_d rfl ?_)
     try dsimp only [Qae,Qaf]
     refine Qab (Qad rfl (Qaw ?_))
     have hs:=hs.pull 0 rfl
     have hs:=hs.pull 3 rfl
     have hs:=hs.pull 4 rfl
     have hs:=hs.pull 4 rfl
     have hs:=hs.pull 4 rfl
     have hs:St _ [_,_,_,_,_] _:=St.take (Γ':=[]) hs
     exact ha _ _ ⟨true,H,rfl,hs⟩
    intro hb
    rw [if_pos (b_nbeq_f hb)] at H
    refine g_d rfl ?_
    refine Qaa (v:=bool false) rfl rfl rfl (g_d rfl (Qag rfl rfl (g_d rfl (Qag rfl rfl (g_d rfl ?_)))))
    try dsimp only [Qae,Qaf]
    refine Qag rfl rfl (g_d rfl (Qag rfl rfl (g_d rfl ?_)))
    try dsimp only [Qae,Qaf]
    refine Qaa (v:=bool false) rfl rfl rfl (g_d rfl ?_)
    refine Qaa (v:=bool false) rfl rfl rfl (g_d rfl ?_)
    try dsimp only [Qae,Qaf]
    refine Qab (Qad rfl (Qaw ?_))
    have hs:=hs.pull 0 rfl
    have hs:=hs.pull 3 rfl
    have hs:=hs.pull 4 rfl
    have hs:=hs.pull 4 rfl
    have hs:=hs.pull 4 rfl
    have hs:St _ [_,_,_,_,_] _:=St.take (Γ':=[]) hs
    exact ha _ _ ⟨false,H,rfl,hs⟩
   intro hb
   rw [if_neg (b_dec_f hb)] at H
   refine g_d rfl (Qab (Qad rfl ?_))
   obtain rfl:=QsJ H
   subst Hx1_
   have hs:=hs.pull 2 rfl
   have hs:=hs.pull 3 rfl
   have hs:=hs.pull 2 rfl
   have hs:St _ [_,_,_] _:=St.take (Γ':=[_]) hs
   refine Qbi rfl ?_
   exact ha1_ _ _ ⟨x39,x40,v42,x43,Hr1_,rfl,hs⟩
  |false=>
   rw [if_neg Bool.false_ne_true] at H
   refine g_d rfl ?_
   refine Qaa (v:=bool true) rfl rfl rfl (g_d rfl ?_)
   try dsimp only [Qae,Qaf]
   refine Qaa (v:=bool true) rfl rfl rfl (g_d rfl (Qab (Qak rfl (Qac (Qaj [0,1,2] rfl ?_)))))
   refine Qaa (v:=agg (([int .i8 0,int .i8 0,slice none 0 0]:List Value)).toArray) rfl rfl (Qa4 (cs:=(([int .i8 0,int .i8 0,slice none 0 0]:List Value))) (segs:=[[int .i8 0],[int .i8 0],[slice none 0 0]]) rfl rfl (fun _=>rfl) ⟨rfl,(fun _=>rfl),rfl,(fun _=>rfl),rfl,(fun _=>rfl),trivial⟩ (by simp) (by first|rfl|(simp [ev,encA];done)|(simp [ev,encA];rfl))) ?_
   refine g_d rfl ?_
   try dsimp only [Qae,Qaf]
   have hs:St _ [_,_,_] _:=hs.pull 2 rfl
   refine QaT (n:=3) hs rfl rfl rfl (vs:=(([int .i8 0,int .i8 0,slice none 0 0]:List Value))) rfl rfl rfl (fun _=>rfl) rfl (by simp [Value.oneCell']) ?_
   intro w hs
   refine g_n rfl ?_
   refine Qaa (v:=int .i64 5) rfl rfl rfl (g_d rfl (Qab ?_))
   obtain rfl:=QsJ H
   refine Qau Tryd.func10 (v:=tuple #[agg (([int .i8 0,int .i8 0,slice none 0 0]:List Value)).toArray,int .i64 5]) (resN (l:=Tryd.f10.results.toList) (vs:=[agg (([int .i8 0,int .i8 0,slice none 0 0]:List Value)).toArray,int .i64 5]) rfl ⟨⟨_,rfl,(run_loadVar_agg (es:=(([int .i8 0,int .i8 0,slice none 0 0]:List Value))) rfl rfl (cells_all (hs.cells 0 rfl)))⟩,rfl,trivial⟩ (by simp)) ?_
   have hs:=hs.nil 55 Qav
   have hs:=hs.pull 0 rfl
   have hs:St _ [_] _:=St.take (Γ':=[_,_,_]) hs
   exact ⟨_,rfl,(slice none 0 0),rfl,hs⟩
 intro hb
 rw [if_neg (b_var_f hb)] at H
 refine g_d rfl ?_
 refine Qaa (v:=bool true) rfl rfl rfl (g_d rfl ?_)
 try dsimp only [Qae,Qaf]
 refine Qaa (v:=bool true) rfl rfl rfl (g_d rfl (Qag rfl rfl (g_d rfl (Qag rfl rfl (g_d rfl ?_)))))
 refine Qaa (v:=bool true) rfl rfl rfl (g_d rfl ?_)
 try dsimp only [Qae,Qaf]
 refine Qaa (v:=bool true) rfl rfl rfl (g_d rfl (Qag rfl rfl (g_d rfl (Qag rfl rfl (g_d rfl (Qag rfl rfl (g_d rfl ?_)))))))
 refine Qag rfl rfl (g_d rfl ?_)
 try dsimp only [Qae,Qaf]
 refine Qaa (v:=bool true) rfl rfl rfl (g_d rfl (Qab (Qak rfl (Qac (Qaj [0,1,2] rfl ?_)))))
 refine Qaa (v:=agg (([int .i8 0,int .i8 0,slice none 0 0]:List Value)).toArray) rfl rfl (Qa4 (cs:=(([int .i8 0,int .i8 0,slice none 0 0]:List Value))) (segs:=[[int .i8 0],[int .i8 0],[slice none 0 0]]) rfl rfl (fun _=>rfl) ⟨rfl,(fun _=>rfl),rfl,(fun _=>rfl),rfl,(fun _=>rfl),trivial⟩ (by simp) (by first|rfl|(simp [ev,encA];done)|(simp [ev,encA];rfl))) ?_
 refine g_d rfl ?_
 try dsimp only [Qae,Qaf]
 have hs:St _ [_,_,_] _:=hs.pull 2 rfl
 refine QaT (n:=3) hs rfl rfl rfl (vs:=(([int .i8 0,int .i8 0,slice none 0 0]:List Value))) rfl rfl rfl (fun _=>rfl) rfl (by simp [Value.oneCell']) ?_
 intro w hs
 refine g_n rfl ?_
 refine Qaa (v:=int .i64 5) rfl rfl rfl (g_d rfl (Qab ?_))
 obtain rfl:=QsJ H
 refine Qau Tryd.func10 (v:=tuple #[agg (([int .i8 0,int .i8 0,slice none 0 0]:List Value)).toArray,int .i64 5]) (resN (l:=Tryd.f10.results.toList) (vs:=[agg (([int .i8 0,int .i8 0,slice none 0 0]:List Value)).toArray,int .i64 5]) rfl ⟨⟨_,rfl,(run_loadVar_agg (es:=(([int .i8 0,int .i8 0,slice none 0 0]:List Value))) rfl rfl (cells_all (hs.cells 0 rfl)))⟩,rfl,trivial⟩ (by simp)) ?_
 have hs:=hs.nil 55 Qav
 have hs:=hs.pull 0 rfl
 have hs:St _ [_] _:=St.take (Γ':=[_,_,_]) hs
 exact ⟨_,rfl,(slice none 0 0),rfl,hs⟩
def strings_Split.post (w0:World) (r:(List ByteArray)) (v:Value) (w:World):Prop:=St w0 [Row 9 K.str v r] w
theorem strings_Split.calls {N:Nat} {a1 a2:ByteArray} {w0:World} {r:(List ByteArray)} (hmax:CellI w0 1) (H:strings_Split.f N a1 a2=some r):
 Calls Tryd.prog 29 #[.string a1, .string a2] w0 fun e w=>∃ v,e= .returned v∧strings_Split.post w0 r v w:=by
 obtain ⟨hg,H⟩:=ite_get H
 obtain rfl:=QsJ H
 obtain ⟨m,hm⟩:=hmax
 exact (Tryd.strings_Split a1 a2 m w0 hg.1 hm hg.2).mono fun e w ⟨he,hw⟩=>⟨_,he,split_row (Lib.splitB_all a2 hg.2 0 _ a1 rfl) (by have:=Lib.countB_le a2 hg.2 a1.size a1 (Nat.le_refl _);omega) hw⟩
def strings_Cut.post (w0:World) (r:(ByteArray×ByteArray×Bool)) (v:Value) (w:World):Prop:=v=tuple #[string r.1,string r.2.1,bool r.2.2]∧St w0 [] w
theorem strings_Cut.calls {N:Nat} {a1 a2:ByteArray} {w0:World} {r:(ByteArray×ByteArray×Bool)} (hmax:CellI w0 1) (H:strings_Cut.f N a1 a2=some r):
 Calls Tryd.prog 30 #[.string a1, .string a2] w0 fun e w=>∃ v,e= .returned v∧strings_Cut.post w0 r v w:=by
 obtain ⟨hg,H⟩:=ite_get H
 obtain rfl:=QsJ H
 obtain ⟨m,hm⟩:=hmax
 exact (Tryd.strings_Cut a1 a2 m w0 hg hm).mono fun e w ⟨he,n,hw⟩=>⟨_,he,rfl,St.of_drew hw⟩
def strconv_ParseInt.post (w0:World) (r:(Int×Bool)) (v:Value) (w:World):Prop:=∃ u1:Value,v=tuple #[int .i64 r.1,u1]∧ErrIs u1 r.2∧St w0 [] w
theorem strconv_ParseInt.calls {N:Nat} {a1:ByteArray} {a2 a3:Int} {w0:World} {r:(Int×Bool)} (hsyn:CellE w0 2) (hrng:CellE w0 3) (H:strconv_ParseInt.f N a1 a2 a3=some r):
 Calls Tryd.prog 54 #[.string a1, .int .i64 a2, .int .i64 a3] w0 fun e w=>∃ v,e= .returned v∧strconv_ParseInt.post w0 r v w:=by
 obtain ⟨⟨hg,e2,e3⟩,H2⟩:=ite_get H
 subst e2 e3
 obtain rfl:=QsJ H2
 unfold strconv_ParseInt.post parsed
 have h9:a1.size≤9223372036854775806:=by omega
 cases hp:Lib.parseIntB 64 a1.data.toList with
 |ok v=>exact (Tryd.strconv_ParseInt_10_at64_ok a1 h9 _ hp w0).mono fun e w ⟨he,hw⟩=>⟨_,he,_,rfl, .inl ⟨rfl,rfl⟩,St.of_bytes hw⟩
 |range=>
  obtain ⟨ev,h1,h2⟩:=hrng
  exact (Tryd.strconv_ParseInt_10_at64_range a1 hg hp ev w0 h1 h2).mono fun e w ⟨n,he,_,_,hb⟩=>⟨_,he,_,rfl, .inr ⟨rfl,_,_,rfl⟩,St.of_below hb⟩
 |_=>
  obtain ⟨ev,h1,h2⟩:=hsyn
  exact (Tryd.Qbo a1 hg (by rw [hp];intro v g;cases g) (by rw [hp];intro g;cases g) ev w0 h1 h2).mono fun e w ⟨n,he,_,_,hb⟩=>⟨_,he,_,rfl, .inr ⟨rfl,_,_,rfl⟩,St.of_below hb⟩
def strconv_FormatInt.post (w0:World) (r:ByteArray) (v:Value) (w:World):Prop:=v=string r∧St w0 [] w
theorem strconv_FormatInt.calls {N : Nat} {a1 a2 : Int} {w0 : World} {r : ByteArray} (htab : Lib.TabIs Tryd.prog w0 "internal/strconv.uint64pow10" .u64 Lib.pow10Tab) (H : strconv_FormatInt.f N a1 a2 = some r) :
 Calls Tryd.prog 44 #[.int .i64 a1, .int .i64 a2] w0 fun e w=>∃ v,e= .returned v∧strconv_FormatInt.post w0 r v w:=by
 obtain ⟨⟨hg,e10⟩,H2⟩:=ite_get H
 subst e10
 obtain rfl:=QsJ H2
 exact (Tryd.strconv_FormatInt_10 a1 hg.1 hg.2 w0 htab).mono fun e w ⟨he,k,os,hw⟩=>⟨_,he,rfl,St.of_grow hw⟩
def QaV.post (w0:World) (r:ByteArray) (v:Value) (w:World):Prop:=v=string r∧St w0 [] w
theorem QaV.calls {N : Nat} {a1 : Int} {w0 : World} {r : ByteArray} (htab : Lib.TabIs Tryd.prog w0 "internal/strconv.uint64pow10" .u64 Lib.pow10Tab) (H : QaV.f N a1 = some r) :
 Calls Tryd.prog 20 #[int .i64 a1] w0 fun e w=>∃ v,e= .returned v∧QaV.post w0 r v w:=by
 unfold QaV.f at H
 have hs:St w0 [] w0:=St.refl w0
 refine calls_of_g (n:=4) Tryd.func20 rfl rfl ?_
 show G _ _ _ _ [_,_,_,_,_] _
 refine Qac (Qaj [0] rfl ?_)
 refine Qaa (v:=string (⟨#[]⟩:ByteArray)) rfl rfl rfl (Qab (Qac (Qaj [0,1,2] rfl ?_)))
 refine Qaa (v:=int .i64 a1) rfl rfl rfl ?_
 obtain ⟨r2,Hr2,H⟩:=bind_get H
 refine QaA (args:=[int .i64 a1,int .i64 10]) rfl rfl (Qax rfl (callFunc_enter Tryd.func44 rfl rfl) rfl) (strconv_FormatInt.calls (a1:=a1) (a2:=10) (hs.tab htab) Hr2) ?_
 rintro _ w ⟨rfl,hs2⟩
 have hs:St _ [] _:=hs.call hs2
 show G _ _ _ _ [_,_,_,_,_] _
 refine Qaa (v:=string r2) rfl rfl rfl (Qab ?_)
 obtain rfl:=QsJ H
 refine Qau Tryd.func20 (v:=string r2) (res1 rfl rfl) ?_
 have hs:St _ [] _:=St.take (Γ':=[]) hs
 exact ⟨_,rfl,rfl,hs⟩
def Qa3.post (w0:World) (r:Bool) (v:Value) (w:World):Prop:=v=bool r∧St w0 [] w
theorem Qa3.calls {N:Nat} {a1:Int} {a2:Int} {a3:Int} {w0:World} {r:Bool} (H:Qa3.f N a1 a2 a3=some r):
 Calls Tryd.prog 55 #[int .i64 a1,int .i64 a2,int .i64 a3] w0 fun e w=>∃ v,e= .returned v∧Qa3.post w0 r v w:=by
 unfold Qa3.f at H
 have hs:St w0 [] w0:=St.refl w0
 refine calls_of_g (n:=12) Tryd.func55 rfl rfl ?_
 show G _ _ _ _ [_,_,_,_,_,_,_,_,_,_,_,_,_,_,_] _
 refine Qac (Qaj [0] rfl ?_)
 refine Qaa (v:=bool false) rfl rfl rfl (Qab (Qac (Qaj [0,1,2,3,4,5,6,7,8] rfl ?_)))
 refine Qaa (v:=int .i64 a2) rfl rfl rfl ?_
 show G _ _ _ _ [_,_,_,_,_,_,_,_,_,_,_,_,_,_,_] _
 refine Qaa (v:=int .i64 a1) rfl rfl rfl ?_
 refine Qas (B:=decide (a2≤a1)) rfl rfl rfl ?_ ?_
 ·
  intro hb
  rw [if_pos (b_dec_t hb)] at H
  show G _ _ _ _ [_,_,_,_,_,_,_,_,_,_,_,_,_,_,_] _
  refine Qaa (v:=bool true) rfl rfl rfl ?_
  refine Qaa (v:=int .i64 a1) rfl rfl rfl ?_
  refine Qaa (v:=int .i64 a3) rfl rfl rfl ?_
  show G _ _ _ _ [_,_,_,_,_,_,_,_,_,_,_,_,_,_,_] _
  refine Qaa (v:=bool (decide (a1≤a3))) rfl rfl rfl ?_
  refine Qaa (v:=bool (decide (a1≤a3))) rfl rfl rfl ?_
  refine Qaa (v:=bool (decide (a1≤a3))) rfl rfl rfl ?_
  show G _ _ _ _ [_,_,_,_,_,_,_,_,_,_,_,_,_,_,_] _
  refine Qab ?_
  obtain rfl:=QsJ H
  refine Qau Tryd.func55 (v:=bool (decide (a1≤a3))) (res1 rfl rfl) ?_
  have hs:St _ [] _:=St.take (Γ':=[]) hs
  exact ⟨_,rfl,rfl,hs⟩
 intro hb
 rw [if_neg (b_dec_f hb)] at H
 refine Qaa (v:=bool false) rfl rfl rfl ?_
 show G _ _ _ _ [_,_,_,_,_,_,_,_,_,_,_,_,_,_,_] _
 refine Qag rfl rfl (Qag rfl rfl (Qag rfl rfl ?_))
 show G _ _ _ _ [_,_,_,_,_,_,_,_,_,_,_,_,_,_,_] _
 refine Qaa (v:=bool false) rfl rfl rfl ?_
 refine Qaa (v:=bool false) rfl rfl rfl (Qab ?_)
 obtain rfl:=QsJ H
 refine Qau Tryd.func55 (v:=bool false) (res1 rfl rfl) ?_
 have hs:St _ [] _:=St.take (Γ':=[]) hs
 exact ⟨_,rfl,rfl,hs⟩
def Qa8.post (w0:World) (r:(Int×Bool)) (v:Value) (w:World):Prop:=v=tuple #[int .i64 r.1,bool r.2]∧St w0 [] w
theorem Qa8.calls {N : Nat} {a1 : ByteArray} {a2 : Int} {w0 : World} {r : (Int × Bool)} (htab : Lib.TabIs Tryd.prog w0 "internal/strconv.uint64pow10" .u64 Lib.pow10Tab) (hsyn : CellE w0 2) (hrng : CellE w0 3) (H : Qa8.f N a1 a2 = some r) :
 Calls Tryd.prog 31 #[string a1,int .i64 a2] w0 fun e w=>∃ v,e= .returned v∧Qa8.post w0 r v w:=by
 unfold Qa8.f at H
 have hs:St w0 [] w0:=St.refl w0
 refine calls_of_g (n:=26) Tryd.func31 rfl rfl ?_
 show G _ _ _ _ [_,_,_,_,_,_,_,_,_,_,_,_,_,_,_,_,_,_,_,_,_,_,_,_,_,_,_,_] _
 refine Qac (Qaj [0,1] rfl ?_)
 refine Qaa (v:=int .i64 0) rfl rfl rfl ?_
 refine Qaa (v:=bool false) rfl rfl rfl (Qab (Qac (Qaj [0,1,2,3,4,5,6] rfl ?_)))
 refine Qaa (v:=string a1) rfl rfl rfl ?_
 obtain ⟨r3,Hr3,H⟩:=bind_get H
 refine QaA (args:=[string a1,int .i64 10,int .i64 64]) rfl rfl (Qax rfl (callFunc_enter Tryd.func54 rfl rfl) rfl) (strconv_ParseInt.calls (a1:=a1) (a2:=10) (a3:=64) (hs.cellE hsyn) (hs.cellE hrng) Hr3) ?_
 rintro _ w ⟨v4,rfl,hEv4,hs2⟩
 have hs:St _ [] _:=hs.call hs2
 show G _ _ _ _ [_,_,_,_,_,_,_,_,_,_,_,_,_,_,_,_,_,_,_,_,_,_,_,_,_,_,_,_] _
 refine Qaa (v:=tuple #[int .i64 r3.1,v4]) rfl rfl rfl ?_
 refine Qaa (v:=int .i64 r3.1) rfl rfl rfl ?_
 refine Qaa (v:=v4) rfl rfl rfl ?_
 refine Qaa (v:=int .i64 r3.1) rfl rfl rfl ?_
 refine Qaa (v:=v4) rfl rfl rfl (Qab (Qac (Qac (Qaj [0,1,2,3,4,5,6,7,8,9,10,11,12,13] rfl ?_))))
 refine Qaa (v:=v4) rfl rfl rfl ?_
 refine Qas (B:=r3.2) rfl rfl (Qb2 rfl (by kernel_rfl) rfl hEv4) ?_ ?_
 ·
  intro hb
  rw [if_pos (b_var_t hb)] at H
  refine Qaa (v:=bool true) rfl rfl rfl (Qag rfl rfl (Qag rfl rfl (Qag rfl rfl (Qag rfl rfl ?_))))
  show G _ _ _ _ [_,_,_,_,_,_,_,_,_,_,_,_,_,_,_,_,_,_,_,_,_,_,_,_,_,_,_,_] _
  refine Qaa (v:=bool true) rfl rfl rfl ?_
  refine Qaa (v:=bool true) rfl rfl rfl (Qag rfl rfl (Qag rfl rfl (Qag rfl rfl (Qag rfl rfl ?_))))
  show G _ _ _ _ [_,_,_,_,_,_,_,_,_,_,_,_,_,_,_,_,_,_,_,_,_,_,_,_,_,_,_,_] _
  refine Qaa (v:=bool true) rfl rfl rfl (Qab (Qak rfl (Qac (Qaj [0,1] rfl ?_))))
  refine Qaa (v:=int .i64 0) rfl rfl rfl ?_
  refine Qaa (v:=bool false) rfl rfl rfl ?_
  show G _ _ _ _ [_,_,_,_,_,_,_,_,_,_,_,_,_,_,_,_,_,_,_,_,_,_,_,_,_,_,_,_] _
  refine Qab ?_
  obtain rfl:=QsJ H
  refine Qau Tryd.func31 (v:=tuple #[int .i64 0,bool false]) (resN (l:=Tryd.f31.results.toList) (vs:=[int .i64 0,bool false]) rfl ⟨rfl,rfl,trivial⟩ (by simp)) ?_
  have hs:St _ [] _:=St.take (Γ':=[]) hs
  exact ⟨_,rfl,rfl,hs⟩
 intro hb
 rw [if_neg (b_var_f hb)] at H
 show G _ _ _ _ [_,_,_,_,_,_,_,_,_,_,_,_,_,_,_,_,_,_,_,_,_,_,_,_,_,_,_,_] _
 refine Qaa (v:=bool false) rfl rfl rfl ?_
 refine Qaa (v:=int .i64 r3.1) rfl rfl rfl ?_
 obtain ⟨r5,Hr5,H⟩:=bind_get H
 refine QaA (args:=[int .i64 r3.1]) rfl rfl (Qax rfl (callFunc_enter Tryd.func20 rfl rfl) rfl) (QaV.calls (a1:=r3.1) (hs.tab htab) Hr5) ?_
 rintro _ w ⟨rfl,hs2⟩
 have hs:St _ [] _:=hs.call hs2
 refine Qaa (v:=string a1) rfl rfl rfl ?_
 refine Qaa (v:=bool (!(r5.toList==a1.toList))) rfl rfl rfl ?_
 refine Qas (B:=!(r5.toList==a1.toList)) rfl rfl rfl ?_ ?_
 ·
  intro hb
  rw [if_neg (b_nbeq_t hb)] at H
  refine Qaa (v:=bool true) rfl rfl rfl (Qag rfl rfl (Qag rfl rfl (Qag rfl rfl (Qag rfl rfl ?_))))
  show G _ _ _ _ [_,_,_,_,_,_,_,_,_,_,_,_,_,_,_,_,_,_,_,_,_,_,_,_,_,_,_,_] _
  refine Qaa (v:=bool true) rfl rfl rfl (Qab (Qak rfl (Qac (Qaj [0,1] rfl ?_))))
  refine Qaa (v:=int .i64 0) rfl rfl rfl ?_
  refine Qaa (v:=bool false) rfl rfl rfl ?_
  show G _ _ _ _ [_,_,_,_,_,_,_,_,_,_,_,_,_,_,_,_,_,_,_,_,_,_,_,_,_,_,_,_] _
  refine Qab ?_
  obtain rfl:=QsJ H
  refine Qau Tryd.func31 (v:=tuple #[int .i64 0,bool false]) (resN (l:=Tryd.f31.results.toList) (vs:=[int .i64 0,bool false]) rfl ⟨rfl,rfl,trivial⟩ (by simp)) ?_
  have hs:St _ [] _:=St.take (Γ':=[]) hs
  exact ⟨_,rfl,rfl,hs⟩
 intro hb
 rw [if_pos (b_nbeq_f hb)] at H
 show G _ _ _ _ [_,_,_,_,_,_,_,_,_,_,_,_,_,_,_,_,_,_,_,_,_,_,_,_,_,_,_,_] _
 refine Qaa (v:=bool false) rfl rfl rfl ?_
 refine Qaa (v:=int .i64 r3.1) rfl rfl rfl ?_
 refine Qaa (v:=int .i64 a2) rfl rfl rfl ?_
 obtain ⟨r6,Hr6,H⟩:=bind_get H
 refine QaA (args:=[int .i64 r3.1,int .i64 0,int .i64 a2]) rfl rfl (Qax rfl (callFunc_enter Tryd.func55 rfl rfl) rfl) (Qa3.calls (a1:=r3.1) (a2:=0) (a3:=a2) Hr6) ?_
 rintro _ w ⟨rfl,hs2⟩
 have hs:St _ [] _:=hs.call hs2
 cases r6 with
 |true=>
  rw [if_pos rfl] at H
  show G _ _ _ _ [_,_,_,_,_,_,_,_,_,_,_,_,_,_,_,_,_,_,_,_,_,_,_,_,_,_,_,_] _
  refine Qaa (v:=bool false) rfl rfl rfl ?_
  refine Qaa (v:=bool false) rfl rfl rfl (Qab (Qad rfl (Qaw (Qac (Qaj [0,1,2] rfl ?_)))))
  refine Qaa (v:=int .i64 r3.1) rfl rfl rfl ?_
  refine Qaa (v:=int .i64 r3.1) rfl rfl rfl ?_
  show G _ _ _ _ [_,_,_,_,_,_,_,_,_,_,_,_,_,_,_,_,_,_,_,_,_,_,_,_,_,_,_,_] _
  refine Qaa (v:=bool true) rfl rfl rfl (Qab ?_)
  obtain rfl:=QsJ H
  refine Qau Tryd.func31 (v:=tuple #[int .i64 r3.1,bool true]) (resN (l:=Tryd.f31.results.toList) (vs:=[int .i64 r3.1,bool true]) rfl ⟨rfl,rfl,trivial⟩ (by simp)) ?_
  have hs:St _ [] _:=St.take (Γ':=[]) hs
  exact ⟨_,rfl,rfl,hs⟩
 |false=>
  rw [if_neg Bool.false_ne_true] at H
  refine Qaa (v:=bool true) rfl rfl rfl ?_
  refine Qaa (v:=bool true) rfl rfl rfl ?_
  show G _ _ _ _ [_,_,_,_,_,_,_,_,_,_,_,_,_,_,_,_,_,_,_,_,_,_,_,_,_,_,_,_] _
  refine Qab (Qak rfl (Qac (Qaj [0,1] rfl ?_)))
  refine Qaa (v:=int .i64 0) rfl rfl rfl ?_
  refine Qaa (v:=bool false) rfl rfl rfl (Qab ?_)
  obtain rfl:=QsJ H
  refine Qau Tryd.func31 (v:=tuple #[int .i64 0,bool false]) (resN (l:=Tryd.f31.results.toList) (vs:=[int .i64 0,bool false]) rfl ⟨rfl,rfl,trivial⟩ (by simp)) ?_
  have hs:St _ [] _:=St.take (Γ':=[]) hs
  exact ⟨_,rfl,rfl,hs⟩
def strings_IndexByte.post (w0:World) (r:Int) (v:Value) (w:World):Prop:=v=int .i64 r∧St w0 [] w
theorem strings_IndexByte.calls {N:Nat} {a1:ByteArray} {a2:Int} {w0:World} {r:Int} (H:strings_IndexByte.f N a1 a2=some r):
 Calls Tryd.prog 56 #[.string a1, .int .u8 a2] w0 fun e w=>∃ v,e= .returned v∧strings_IndexByte.post w0 r v w:=by
 obtain rfl:=QsJ H
 exact (Tryd.strings_IndexByte a1 a2 w0).mono fun e w ⟨he,hw⟩=>⟨_,he,rfl,by rw [hw];exact St.refl _⟩
end Go.Proofs.YtljkpeeabpdalaaDoorX
