import Derived.Test.YtblbfnngmeoipaaGreatDoorP18
namespace Go.Proofs.YtblbfnngmeoipaaGreatDoorX
open Go Go.RowKit Go.Proofs
open Go.Value (int pointer bool agg slice string tuple)
set_option maxHeartbeats 8000000
set_option maxRecDepth 100000
set_option linter.unusedVariables false
set_option linter.unusedSimpArgs false
def QaJ.post (w0:World) (r:(Int×Int)) (v:Value) (w:World):Prop:=v=tuple #[int .i64 r.1,int .i64 r.2]∧St w0 [] w
theorem QaJ.calls {N:Nat} {a1:Qaf} {v2:Value} {w0:World} {r:(Int×Int)} (hr3:RdRow (K.int .u16) w0 v2 a1.Qal) (H:QaJ.f N a1=some r):
 Calls Tryz.prog 13 #[agg (([int .i8 a1.Qad,int .i8 a1.Qag,v2]:List Value)).toArray] w0 fun e w=>∃ v,e= .returned v∧QaJ.post w0 r v w:=by
 unfold QaJ.f at H
 have hs:St w0 [] w0:=St.refl w0
 refine calls_of_g (n:=70) Tryz.func13 rfl rfl ?_
 show G _ _ _ _ (_::_::_::_::_::_::_::_::_::_::_::_::_::_::_::_::_::_::_::_::_::_::_::_::_::_::_::_::_::_::_::_::_::_::_::_::_::_::_::_::_::_::_::_::_::_::_::_::_::_::_::_::_::_::_::_::_::_::_::_::_::_::_::_::_::_::_::_::_::_::_::[]) _
 refine Qaj (Qan [0,1,2] rfl ?_)
 refine Qbw hs rfl rfl (cs:=(([int .i8 a1.Qad,int .i8 a1.Qag,v2]:List Value))) rfl rfl ?_
 intro b4 w hs
 refine g_d rfl ?_
 refine Qab (v:=int .i64 0) rfl rfl rfl (g_d rfl ?_)
 try dsimp only [Qah,Qai]
 refine Qab (v:=int .i64 0) rfl rfl rfl (g_d rfl (Qac (Qaj (Qaj (Qan [0,1,2] rfl ?_)))))
 refine QaF rfl rfl (es:=(([int .i8 a1.Qad,int .i8 a1.Qag,v2]:List Value))) rfl rfl (fun _=>rfl) (n:=3) (fun _=>rfl) rfl (cells_all (hs.cells 0 rfl)) (g_d rfl ?_)
 try dsimp only [Qah,Qai]
 obtain ⟨r6,Hr6,H⟩:=bind_get H
 refine Qaz (args:=[agg (([int .i8 a1.Qad,int .i8 a1.Qag,v2]:List Value)).toArray]) rfl rfl (QaA rfl (callFunc_enter Tryz.func17 rfl rfl) rfl) (QaX.calls (a1:=(⟨a1.Qad,a1.Qag,a1.Qal⟩:Qaf)) (hs.rd hr3) Hr6) ?_
 rintro _ w ⟨rfl,hs2⟩
 have hs:St _ [_] _:=hs.call hs2
 cases r6 with
 |true=>
  rw [if_pos rfl] at H
  refine g_d rfl ?_
  refine Qab (v:=bool false) rfl rfl rfl (g_d rfl ?_)
  try dsimp only [Qah,Qai]
  refine Qac (Qas rfl (QaK (Qaj (Qan [0,1,2] rfl ?_))))
  refine QaF rfl rfl (es:=(([int .i8 a1.Qad,int .i8 a1.Qag,v2]:List Value))) rfl rfl (fun _=>rfl) (n:=3) (fun _=>rfl) rfl (cells_all (hs.cells 0 rfl)) (g_d rfl ?_)
  obtain ⟨r7,Hr7,H⟩:=bind_get H
  refine Qaz (args:=[agg (([int .i8 a1.Qad,int .i8 a1.Qag,v2]:List Value)).toArray]) rfl rfl (QaA rfl (callFunc_enter Tryz.func35 rfl rfl) rfl) (Qa1.calls (a1:=(⟨a1.Qad,a1.Qag,a1.Qal⟩:Qaf)) (hs.rd hr3) Hr7) ?_
  intro v8 w hs2
  have hs:St _ [_,_] _:=hs.call hs2
  refine g_d rfl ?_
  try dsimp only [Qah,Qai]
  refine Qab (v:=v8) rfl rfl rfl (g_d rfl (Qac (Qaj (Qan [0,1,2,3,4,5,6] rfl ?_))))
  refine QcS (ek:=Qbu) (en:=(int .i64)) hs rfl rfl rfl ?_
  intro b10 w hs
  refine g_d rfl ?_
  try dsimp only [Qah,Qai]
  refine QaF rfl rfl (es:=(([int .i8 a1.Qad,int .i8 a1.Qag,v2]:List Value))) rfl rfl (fun _=>rfl) (n:=3) (fun _=>rfl) rfl (cells_all (hs.cells 2 rfl)) (g_d rfl ?_)
  obtain ⟨r12,Hr12,H⟩:=bind_get H
  refine Qaz (args:=[agg (([int .i8 a1.Qad,int .i8 a1.Qag,v2]:List Value)).toArray]) rfl rfl (QaA rfl (callFunc_enter Tryz.func44 rfl rfl) rfl) (QaZ.calls (a1:=(⟨a1.Qad,a1.Qag,a1.Qal⟩:Qaf)) (hs.rd hr3) Hr12) ?_
  rintro _ w ⟨rfl,hs2⟩
  have hs:St _ [_,_,_] _:=hs.call hs2
  refine g_d rfl ?_
  try dsimp only [Qah,Qai]
  refine Qab (v:=agg (Qaa (⟨r12,false⟩:Qak)).toArray) rfl rfl (Qbt (cs:=(Qaa (⟨r12,false⟩:Qak))) (segs:=[[int .u16 0],[bool false]]) rfl rfl (fun _=>rfl) ⟨rfl,(fun _=>rfl),rfl,(fun _=>rfl),trivial⟩ (by simp only [List.map_cons,List.map_nil,List.forall_mem_cons,List.not_mem_nil,false_implies,implies_true,and_true];exact ⟨_,rfl,rfl⟩) (by first|rfl|(simp [ev,Qaa];done)|(simp [ev,Qaa];rfl))) ?_
  refine g_d rfl ?_
  refine QcM QbR (a:=(⟨r12,false⟩:Qak)) (v:=1) hs rfl rfl (.inr rfl) Tryz.underlying88 rfl rfl rfl ?_
  intro w hs
  refine g_n rfl ?_
  refine Qab (v:=Value.map (some b10)) rfl rfl rfl (g_d rfl ?_)
  refine Qab (v:=Value.map (some b10)) rfl rfl rfl (g_d rfl ?_)
  try dsimp only [Qah,Qai]
  refine Qac (Qaj (Qaj (Qan [0,1,2,3] rfl ?_)))
  refine QaF rfl rfl (es:=(([int .i8 a1.Qad,int .i8 a1.Qag,v2]:List Value))) rfl rfl (fun _=>rfl) (n:=3) (fun _=>rfl) rfl (cells_all (hs.cells 2 rfl)) (g_d rfl ?_)
  obtain ⟨r13,Hr13,H⟩:=bind_get H
  refine Qaz (args:=[agg (([int .i8 a1.Qad,int .i8 a1.Qag,v2]:List Value)).toArray]) rfl rfl (QaA rfl (callFunc_enter Tryz.func39 rfl rfl) rfl) (Qau.calls (a1:=(⟨a1.Qad,a1.Qag,a1.Qal⟩:Qaf)) (hs.rd hr3) Hr13) ?_
  intro v14 w hs2
  have hs:St _ [_,_,_,_] _:=hs.call hs2
  refine g_d rfl ?_
  try dsimp only [Qah,Qai]
  refine QbC (hs.row 0 rfl) rfl rfl rfl rfl rfl (g_d rfl ?_)
  refine Qab (v:=int .i64 0) rfl rfl rfl (g_d rfl (Qac ?_))
  obtain ⟨o1_,Ho,Hr1_⟩:=bind_get H
  refine QaR (J:=fun t w=>∃ x79:(List (Qak×Int)),QaJ.a0 N x79=some r∧Fr t (fun O=>(O 0::O 1::O 2::O 3::O 4::Value.map (some b10)::O 6::O 7::O 8::O 9::oT O 1 (oT O 2 (oT O 3 (oT O 4 (oT O 5 (oT O 6 (O 70::[])))))):List Value))∧St w0 [MapAs b10 Qbu (int .i64) x79] w) ?_ ?_
  ·
   rintro t w ⟨x79,H,hf,hs⟩
   obtain ⟨O,rfl⟩:=hf.open
   try dsimp only [oT]
   unfold QaJ.a0 at H
   refine Qaj (Qaj (Qan [0,1,2,3] rfl ?_))
   refine Qab (v:=Value.map (some b10)) rfl rfl rfl (g_d rfl ?_)
   try dsimp only [Qah,Qai]
   refine Qab (v:=agg (Qaa (⟨0,true⟩:Qak)).toArray) rfl rfl (Qbt (cs:=(Qaa (⟨0,true⟩:Qak))) (segs:=[[int .u16 0],[bool false]]) rfl rfl (fun _=>rfl) ⟨rfl,(fun _=>rfl),rfl,(fun _=>rfl),trivial⟩ (by simp only [List.map_cons,List.map_nil,List.forall_mem_cons,List.not_mem_nil,false_implies,implies_true,and_true];exact ⟨_,rfl,rfl⟩) (by first|rfl|(simp [ev,Qaa];done)|(simp [ev,Qaa];rfl))) ?_
   refine g_d rfl ?_
   try dsimp only [Qah,Qai]
   refine Qab (v:=int .i64 (mGet x79 (⟨0,true⟩:Qak) 0)) rfl rfl (QcF QbR (a:=(⟨0,true⟩:Qak)) (z:=0) (hs.mp 0 rfl) rfl Tryz.underlying88 rfl rfl (fun _=>rfl)) (g_d rfl ?_)
   refine Qab (v:=int .i64 (mGet x79 (⟨0,true⟩:Qak) 0)) rfl rfl rfl (g_d rfl ?_)
   try dsimp only [Qah,Qai]
   refine Qac (Qaj (Qan [0,1] rfl ?_))
   refine Qab (v:=int .i64 (mGet x79 (⟨0,true⟩:Qak) 0)) rfl rfl rfl (g_d rfl ?_)
   refine QaI (B:=decide ((mGet x79 (⟨0,true⟩:Qak) 0)>0)) rfl rfl rfl ?_ ?_
   ·
    intro hb
    rw [if_pos (b_dec_t hb)] at H
    refine g_d rfl ?_
    try dsimp only [Qah,Qai]
    refine Qac (Qaq rfl (Qaj (Qan [0,1,2] rfl ?_)))
    refine Qab (v:=int .i64 (mGet x79 (⟨0,true⟩:Qak) 0)) rfl rfl rfl (g_d rfl ?_)
    refine Qab (v:=int .i64 (mGet x79 (⟨0,true⟩:Qak) 0)) rfl rfl rfl (g_d rfl ?_)
    refine Qab (v:=int .i64 0) rfl rfl rfl (g_d rfl ?_)
    try dsimp only [Qah,Qai]
    refine Qac ?_
    obtain rfl:=QsJ H
    refine QaB Tryz.func13 (v:=tuple #[int .i64 (mGet x79 (⟨0,true⟩:Qak) 0),int .i64 0]) (resN (l:=Tryz.f13.results.toList) (vs:=[int .i64 (mGet x79 (⟨0,true⟩:Qak) 0),int .i64 0]) rfl ⟨rfl,rfl,trivial⟩ (by simp)) ?_
    have hs:St _ [] _:=St.take (Γ':=[_]) hs
    exact ⟨_,rfl,rfl,hs⟩
   intro hb
   rw [if_neg (b_dec_f hb)] at H
   refine g_d rfl (Qac (Qas rfl (QaK (Qaj (Qan [0,1] rfl ?_)))))
   refine Qab (v:=int .i64 0) rfl rfl rfl (g_d rfl ?_)
   try dsimp only [Qah,Qai]
   refine Qab (v:=int .i64 6) rfl rfl rfl (g_d rfl (Qac ?_))
   obtain rfl:=QsJ H
   refine QaB Tryz.func13 (v:=tuple #[int .i64 0,int .i64 6]) (resN (l:=Tryz.f13.results.toList) (vs:=[int .i64 0,int .i64 6]) rfl ⟨rfl,rfl,trivial⟩ (by simp)) ?_
   have hs:St _ [] _:=St.take (Γ':=[_]) hs
   exact ⟨_,rfl,rfl,hs⟩
  intro ha1_
  have hs:=hs.pull 0 rfl
  have hs:=hs.pull 1 rfl
  have hs:=hs.pull 2 rfl
  have hs:=hs.pull 3 rfl
  have hs:St _ [_,_,_,_] _:=St.take (Γ':=[]) hs
  refine Qba (I:=fun n_ t w=>∃ x47:(List (Qak×Int)),∃ x48:Int,rounds (fun s=>QaJ.b0 N r13 a1 r7 s.1 s.2) n_ (x47,x48)=some o1_∧Fr t (fun O=>(O 0::pointer (some ⟨b4,0,none⟩)::O 2::O 3::v8::Value.map (some b10)::O 6::O 7::O 8::O 9::oT O 1 (O 20::O 21::O 22::v14::int .i64 (r13.length:Int)::int .i64 x48::O 26::O 27::O 28::O 29::oT O 3 (oT O 4 (oT O 5 (oT O 6 (O 70::[]))))):List Value))∧St w0 [Cells b4 (([int .i8 a1.Qad,int .i8 a1.Qag,v2]:List Value)) 27,Row 86 (K.int .i16) v8 r7,MapAs b10 Qbu (int .i64) x47,Row 82 Qa5 v14 r13] w) N ⟨mSet ([]:(List (Qak×Int))) (⟨r12,false⟩:Qak) 1,0,Ho,rfl,hs⟩ ?_ ?_
  ·
   rintro _ _ ⟨x47,x48,h,_⟩
   exact rounds_zero h
  intro n_ ih1_
  rintro t w ⟨x47,x48,Ho,hf,hs⟩
  obtain ⟨O,rfl⟩:=hf.open
  try dsimp only [oT]
  obtain ⟨x25_,H,Hx1_⟩:=rounds_succ Ho
  have H:QaJ.b0 N r13 a1 r7 x47 x48=some x25_:=H
  unfold QaJ.b0 at H
  refine Qaj (Qan [0] rfl ?_)
  refine QaI (B:=decide (x48< (r13.length:Int))) rfl rfl rfl ?_ ?_
  ·
   intro hb
   rw [if_pos (b_dec_t hb)] at H
   refine g_d rfl (Qac (Qaj (Qaq rfl (QaK (Qaj ?_)))))
   refine QbG (Qaj (Qan [0,1,2,3] rfl ?_))
   obtain ⟨g13,H⟩:=ite_get H
   refine QbQ Qa6 Qap (hs.row 3 rfl) rfl (fun _=>rfl) g13.1 g13.2 rfl rfl rfl rfl rfl ?_
   intro p49 hp49 lp49 op49
   refine g_d rfl ?_
   try dsimp only [Qah,Qai]
   refine QaF rfl rfl (es:=(QaE (rdL r13 x48 Qap))) rfl rfl (fun _=>rfl) (n:=5) (fun _=>rfl) (Qa6.len _) hp49 (g_d rfl ?_)
   refine QbI hs rfl rfl (z:=(agg #[int .u16 0,bool false,int .i64 0,int .u16 0,int .i64 0])) (cs:=(QaE Qap)) rfl (fun _=>rfl) rfl ?_
   intro b50 w hs
   refine g_d rfl ?_
   try dsimp only [Qah,Qai]
   refine QaY (n:=5) hs (Qa6.len _) rfl rfl (vs:=(QaE (rdL r13 x48 Qap))) rfl rfl rfl (fun _=>rfl) (Qa6.len _) (Qa6.one _) ?_
   intro w hs
   refine g_n rfl (Qac (Qaj (Qan [0,1,2,3,4,5] rfl ?_)))
   refine QaF rfl rfl (es:=(([int .i8 a1.Qad,int .i8 a1.Qag,v2]:List Value))) rfl rfl (fun _=>rfl) (n:=3) (fun _=>rfl) rfl (cells_all (hs.cells 1 rfl)) (g_d rfl ?_)
   refine Qab (v:=pointer (some ⟨b50,0,none⟩)) rfl rfl rfl (g_d rfl ?_)
   refine QaF rfl rfl (es:=(Qaa ((rdL r13 x48 Qap).Qax))) rfl rfl (fun _=>rfl) (n:=2) (fun _=>rfl) (Qam.len _) (cells_load (hs.cells 0 rfl) 0 2 (by simp only [QaE];first|rfl|exact List.take_of_length_le (Nat.le_of_eq (Qam.len _))|simp [List.drop_append,List.take_append,encAI_len,encAB_len,encA_len,List.take_of_length_le])) ?_
   refine g_d rfl ?_
   try dsimp only [Qah,Qai]
   obtain ⟨r52,Hr52,H⟩:=bind_get H
   refine Qaz (args:=[agg (([int .i8 a1.Qad,int .i8 a1.Qag,v2]:List Value)).toArray,agg (Qaa ((rdL r13 x48 Qap).Qax)).toArray]) rfl rfl (QaA rfl (callFunc_enter Tryz.func45 rfl rfl) rfl) (QaN.calls (a1:=(⟨a1.Qad,a1.Qag,a1.Qal⟩:Qaf)) (a4:=(rdL r13 x48 Qap).Qax) (hs.rd hr3) Hr52) ?_
   intro v53 w hs2
   have hs:St _ [_,_,_,_,_,_] _:=hs.call hs2
   refine g_d rfl ?_
   refine QbC (hs.row 0 rfl) rfl rfl rfl rfl rfl (g_d rfl ?_)
   try dsimp only [Qah,Qai]
   refine Qab (v:=int .i64 0) rfl rfl rfl (g_d rfl (Qac ?_))
   obtain ⟨o2_,Ho,Hr2_⟩:=bind_get H
   refine QaR (J:=fun t w=>∃ x77:(List (Qak×Int)),QaJ.a2 N x48 x77=some x25_∧Fr t (fun O=>(O 0::pointer (some ⟨b4,0,none⟩)::O 2::O 3::v8::Value.map (some b10)::O 6::O 7::O 8::O 9::oT O 1 (O 20::O 21::O 22::v14::int .i64 (r13.length:Int)::int .i64 x48::O 26::O 27::O 28::O 29::oT O 3 (oT O 4 (oT O 5 (oT O 6 (O 70::[]))))):List Value))∧St w0 [Cells b4 (([int .i8 a1.Qad,int .i8 a1.Qag,v2]:List Value)) 27,Row 86 (K.int .i16) v8 r7,MapAs b10 Qbu (int .i64) x77,Row 82 Qa5 v14 r13] w) ?_ ?_
   ·
    rintro t w ⟨x77,H,hf,hs⟩
    obtain ⟨O,rfl⟩:=hf.open
    try dsimp only [oT]
    unfold QaJ.a2 at H
    refine Qa0 (Qan [0,1] rfl ?_)
    refine Qab (v:=int .i64 (i64w (x48+1))) rfl rfl rfl (g_d rfl ?_)
    try dsimp only [Qah,Qai]
    refine Qab (v:=int .i64 (i64w (x48+1))) rfl rfl rfl (g_d rfl (Qac ?_))
    obtain rfl:=QsJ H
    have hs:=hs.pull 3 rfl
    have hs:=hs.pull 3 rfl
    have hs:=hs.pull 3 rfl
    have hs:=hs.pull 3 rfl
    have hs:St _ [_,_,_,_] _:=St.take (Γ':=[]) hs
    exact ih1_ _ _ ⟨x77,i64w (x48+1),Hx1_,rfl,hs⟩
   intro ha2_
   have hs:=hs.pull 0 rfl
   have hs:=hs.pull 5 rfl
   have hs:=hs.pull 2 rfl
   have hs:=hs.pull 5 rfl
   have hs:=hs.pull 5 rfl
   have hs:=hs.pull 5 rfl
   have hs:St _ [_,_,_,_,_,_] _:=St.take (Γ':=[]) hs
   refine Qba (I:=fun n_ t w=>∃ x65:(List (Qak×Int)),∃ x66:Int,rounds (fun s=>QaJ.b2 N r52 r13 x48 a1 r7 s.1 s.2) n_ (x65,x66)=some o2_∧Fr t (fun O=>(O 0::pointer (some ⟨b4,0,none⟩)::O 2::O 3::v8::Value.map (some b10)::O 6::pointer (some ⟨b50,0,none⟩)::O 8::O 9::oT O 1 (O 20::O 21::O 22::v14::int .i64 (r13.length:Int)::int .i64 x48::O 26::O 27::O 28::O 29::O 30::O 31::v53::int .i64 (r52.length:Int)::int .i64 x66::O 35::O 36::O 37::O 38::O 39::oT O 4 (oT O 5 (oT O 6 (O 70::[])))):List Value))∧St w0 [Cells b4 (([int .i8 a1.Qad,int .i8 a1.Qag,v2]:List Value)) 27,Row 86 (K.int .i16) v8 r7,MapAs b10 Qbu (int .i64) x65,Cells b50 (QaE (rdL r13 x48 Qap)) 82,Row 82 Qa5 v14 r13,Row 46 (K.int .u16) v53 r52] w) N ⟨x47,0,Ho,rfl,hs⟩ ?_ ?_
   ·
    rintro _ _ ⟨x65,x66,h,_⟩
    exact rounds_zero h
   intro n_ ih2_
   rintro t w ⟨x65,x66,Ho,hf,hs⟩
   obtain ⟨O,rfl⟩:=hf.open
   try dsimp only [oT]
   obtain ⟨x24_,H,Hx2_⟩:=rounds_succ Ho
   have H:QaJ.b2 N r52 r13 x48 a1 r7 x65 x66=some x24_:=H
   unfold QaJ.b2 at H
   refine Qaj (Qan [0] rfl ?_)
   refine QaI (B:=decide (x66< (r52.length:Int))) rfl rfl rfl ?_ ?_
   ·
    intro hb
    rw [if_pos (b_dec_t hb)] at H
    refine g_d rfl ?_
    try dsimp only [Qah,Qai]
    refine Qac (Qaj (Qaq rfl (QaK (Qaj ?_))))
    refine QaR (J:=(fun t w=>∃ x73:(List (Qak×Int)),QaJ.j4 N x66 x73=some x24_∧Fr t (fun O=>(O 0::pointer (some ⟨b4,0,none⟩)::O 2::O 3::v8::Value.map (some b10)::O 6::pointer (some ⟨b50,0,none⟩)::O 8::O 9::oT O 1 (O 20::O 21::O 22::v14::int .i64 (r13.length:Int)::int .i64 x48::O 26::O 27::O 28::O 29::O 30::O 31::v53::int .i64 (r52.length:Int)::int .i64 x66::O 35::O 36::O 37::O 38::O 39::oT O 4 (oT O 5 (oT O 6 (O 70::[])))):List Value))∧St w0 [Cells b4 (([int .i8 a1.Qad,int .i8 a1.Qag,v2]:List Value)) 27,Row 86 (K.int .i16) v8 r7,MapAs b10 Qbu (int .i64) x73,Cells b50 (QaE (rdL r13 x48 Qap)) 82,Row 82 Qa5 v14 r13,Row 46 (K.int .u16) v53 r52] w)) ?_ ?_
    ·
     rintro t w ⟨x73,H,hf,hs⟩
     obtain ⟨O,rfl⟩:=hf.open
     try dsimp only [oT]
     unfold QaJ.j4 at H
     refine Qan [0,1] rfl ?_
     refine Qab (v:=int .i64 (i64w (x66+1))) rfl rfl rfl (g_d rfl ?_)
     refine Qab (v:=int .i64 (i64w (x66+1))) rfl rfl rfl (g_d rfl (Qac ?_))
     obtain rfl:=QsJ H
     have hs:=hs.pull 5 rfl
     have hs:=hs.pull 5 rfl
     have hs:=hs.pull 5 rfl
     have hs:=hs.pull 5 rfl
     have hs:=hs.pull 5 rfl
     have hs:=hs.pull 5 rfl
     have hs:St _ [_,_,_,_,_,_] _:=St.take (Γ':=[]) hs
     exact ih2_ _ _ ⟨x73,i64w (x66+1),Hx2_,rfl,hs⟩
    intro ha
    refine Qaj (Qan [0,1,2] rfl ?_)
    obtain ⟨g19,H⟩:=ite_get H
    refine QbQ (fkI .u16) 0 (hs.row 5 rfl) rfl (fun _=>rfl) g19.1 g19.2 rfl rfl rfl rfl rfl ?_
    intro p67 hp67 lp67 op67
    refine g_d rfl ?_
    refine Qaw rfl rfl (v:=int .u16 (rdL r52 x66 0)) rfl rfl (fun _=>rfl) hp67 (g_d rfl ?_)
    try dsimp only [Qah,Qai]
    refine Qab (v:=int .u16 (rdL r52 x66 0)) rfl rfl rfl (g_d rfl (Qac (Qaj (Qan [0,1,2,3,4,5] rfl ?_))))
    refine Qab (v:=pointer (some ⟨b50,0,none⟩)) rfl rfl rfl (g_d rfl ?_)
    refine QaF rfl rfl (es:=(Qaa ((rdL r13 x48 Qap).Qax))) rfl rfl (fun _=>rfl) (n:=2) (fun _=>rfl) (Qam.len _) (cells_load (hs.cells 3 rfl) 0 2 (by simp only [QaE];first|rfl|exact List.take_of_length_le (Nat.le_of_eq (Qam.len _))|simp [List.drop_append,List.take_append,encAI_len,encAB_len,encA_len,List.take_of_length_le])) ?_
    refine g_d rfl ?_
    try dsimp only [Qah,Qai]
    refine Qab (v:=int .u16 (rdL r52 x66 0)) rfl rfl rfl (g_d rfl ?_)
    obtain ⟨r68,Hr68,H⟩:=bind_get H
    refine Qaz (args:=[agg (Qaa ((rdL r13 x48 Qap).Qax)).toArray,int .u16 (rdL r52 x66 0)]) rfl rfl (QaA rfl (callFunc_enter Tryz.func46 rfl rfl) rfl) (Qbm.calls (a1:=(rdL r13 x48 Qap).Qax) (a2:=rdL r52 x66 0) Hr68) ?_
    rintro _ w ⟨rfl,hs2⟩
    have hs:St _ [_,_,_,_,_,_] _:=hs.call hs2
    refine g_d rfl ?_
    refine QbI hs rfl rfl (z:=(agg #[int .u16 0,bool false])) (cs:=(Qaa Qa9)) rfl (fun _=>rfl) rfl ?_
    intro b69 w hs
    refine g_d rfl ?_
    try dsimp only [Qah,Qai]
    refine QaY (n:=2) hs (Qam.len _) rfl rfl (vs:=(Qaa r68)) rfl rfl rfl (fun _=>rfl) (Qam.len _) (Qam.one _) ?_
    intro w hs
    refine g_n rfl (Qac (Qaj ?_))
    refine Qck (n:=11) rfl [0,1,2,3,4,5,6,7,8,9,10] [0,1,2,3,4,5,6,7,8,9,10] rfl rfl ?_
    intro rest w hh hbw hO
    have hs:=hs.samew hh hbw
    try dsimp only [Qah,Qai]
    obtain ⟨r71,Hr71,H⟩:=bind_get H
    obtain ⟨gd21,H⟩:=ite_get H
    obtain ⟨ad22_,ad22_N,ad22_C,had22_⟩:=sl_at (hs.row 2 rfl) gd21.1 gd21.2
    refine QaV ?_
    intro T hT
    refine Qbb (m0:=0) hO rfl 1023 [0,1,2,3,4,5,6,7,8,9] [0,0,0,6,15,31,63,0,128,384,1023] (by decide+kernel) (fun D t w=>∃ O:Nat→Value,t=(O 0::pointer (some ⟨b4,0,none⟩)::O 2::O 3::v8::Value.map (some b10)::O 6::pointer (some ⟨b50,0,none⟩)::O 8::int .u16 (rdL r52 x66 0)::pointer (some ⟨b69,0,none⟩)::O 11::O 12::O 13::O 14::O 15::O 16::O 17::O 18::O 19::O 20::O 21::O 22::v14::int .i64 (r13.length:Int)::int .i64 x48::O 26::O 27::O 28::O 29::O 30::O 31::v53::int .i64 (r52.length:Int)::int .i64 x66::bool true::pointer (some p67)::int .u16 (rdL r52 x66 0)::pointer (some ⟨b50,0,none⟩)::agg (Qaa ((rdL r13 x48 Qap).Qax)).toArray::int .u16 (rdL r52 x66 0)::agg (Qaa r68).toArray::cnd (D 0) v8 (O 42)::cnd (D 1) (agg (([int .i8 a1.Qad,int .i8 a1.Qag,v2]:List Value)).toArray) (O 43)::cnd (D 2) (agg (Qaa r68).toArray) (O 44)::cnd (D 3) (int .i64 r71) (O 45)::cnd (D 4) (pointer (some (ad22_.add (r71.toNat*1)))) (O 46)::cnd (D 5) (int .i16 (rdL r7 r71 0)) (O 47)::cnd (D 6) (int .i64 (i64w (rdL r7 r71 0))) (O 48)::cnd (D 7) (pointer (some ⟨b50,4,none⟩)) (O 49)::cnd (D 8) (int .i64 ((rdL r13 x48 Qap).QaQ)) (O 50)::cnd (D 9) (int .i64 (i64w (((rdL r13 x48 Qap).QaQ)+1))) (O 51)::O 52::O 53::O 54::O 55::O 56::O 57::O 58::O 59::oT O 6 (O 70::[]))∧St w0 [Cells b69 (Qaa r68) 48,Cells b4 (([int .i8 a1.Qad,int .i8 a1.Qag,v2]:List Value)) 27,Row 86 (K.int .i16) v8 r7,MapAs b10 Qbu (int .i64) x65,Cells b50 (QaE (rdL r13 x48 Qap)) 82,Row 82 Qa5 v14 r13,Row 46 (K.int .u16) v53 r52] w) ?_ ⟨?_,⟨?_,⟨?_,⟨?_,⟨?_,⟨?_,⟨?_,⟨?_,⟨?_,⟨?_,trivial⟩⟩⟩⟩⟩⟩⟩⟩⟩⟩ ?_
    ·exact ⟨fun i=>T.getD i undef,(by subst hT;rfl),hs⟩
    ·
     rintro D t w hD hp hcl ⟨O,ht,hs⟩ rest hk
     have hp:AllDone D []:=hp
     have q4_:=ny hcl 4 0 hD
     have q5_:=ny hcl 5 0 q4_
     have q6_:=ny hcl 6 0 q5_
     simp only [hD,q4_,q5_,q6_,cq,oT] at ht hs
     subst ht
     refine Qab (v:=v8) rfl rfl rfl (g_d rfl ?_)
     try dsimp only [Qah,Qai]
     refine hk _ _ ⟨O,?_,hs.cast ?_⟩<;>simp only [oT,lq,cq,Nat.reduceBEq,q4_,q5_,q6_]
    ·
     rintro D t w hD hp hcl ⟨O,ht,hs⟩ rest hk
     have hp:AllDone D []:=hp
     have q3_:=ny hcl 3 0 hD
     have q4_:=ny hcl 4 1 q3_
     have q5_:=ny hcl 5 0 q4_
     have q6_:=ny hcl 6 0 q5_
     simp only [hD,q3_,q4_,q5_,q6_,cq,oT] at ht hs
     subst ht
     refine QaF rfl rfl (es:=(([int .i8 a1.Qad,int .i8 a1.Qag,v2]:List Value))) rfl rfl (fun _=>rfl) (n:=3) (fun _=>rfl) rfl (cells_all (hs.cells 1 rfl)) (g_d rfl ?_)
     try dsimp only [Qah,Qai]
     refine hk _ _ ⟨O,?_,hs.cast ?_⟩<;>simp only [oT,lq,cq,Nat.reduceBEq,q3_,q4_,q5_,q6_]
    ·
     rintro D t w hD hp hcl ⟨O,ht,hs⟩ rest hk
     have hp:AllDone D []:=hp
     have q3_:=ny hcl 3 1 hD
     have q4_:=ny hcl 4 1 q3_
     have q5_:=ny hcl 5 0 q4_
     have q6_:=ny hcl 6 0 q5_
     simp only [hD,q3_,q4_,q5_,q6_,cq,oT] at ht hs
     subst ht
     refine QaF rfl rfl (es:=(Qaa r68)) rfl rfl (fun _=>rfl) (n:=2) (fun _=>rfl) (Qam.len _) (cells_all (hs.cells 0 rfl)) (g_d rfl ?_)
     try dsimp only [Qah,Qai]
     refine hk _ _ ⟨O,?_,hs.cast ?_⟩<;>simp only [oT,lq,cq,Nat.reduceBEq,q3_,q4_,q5_,q6_]
    ·
     rintro D t w hD hp hcl ⟨O,ht,hs⟩ rest hk
     have hp:AllDone D [1,2]:=hp
     obtain ⟨p1_,p2_,_⟩:=hp
     have q4_:=ny hcl 4 1 hD
     have q5_:=ny hcl 5 0 q4_
     have q6_:=ny hcl 6 0 q5_
     simp only [hD,p1_,p2_,q4_,q5_,q6_,cq,oT] at ht hs
     subst ht
     refine Qaz (args:=[agg (([int .i8 a1.Qad,int .i8 a1.Qag,v2]:List Value)).toArray,agg (Qaa r68).toArray]) rfl rfl (QaA rfl (callFunc_enter Tryz.func47 rfl rfl) rfl) (Qbg.calls (a1:=(⟨a1.Qad,a1.Qag,a1.Qal⟩:Qaf)) (a4:=r68) (hs.rd hr3) Hr71) ?_
     rintro _ w ⟨rfl,hs2⟩
     have hs:St _ [_,_,_,_,_,_,_] _:=hs.call hs2
     refine g_d rfl ?_
     try dsimp only [Qah,Qai]
     refine hk _ _ ⟨O,?_,hs.cast ?_⟩<;>simp only [oT,lq,cq,Nat.reduceBEq,p1_,p2_,q4_,q5_,q6_]
    ·
     rintro D t w hD hp hcl ⟨O,ht,hs⟩ rest hk
     have hp:AllDone D [0,3]:=hp
     obtain ⟨p0_,p3_,_⟩:=hp
     obtain ⟨p1_,p2_,_⟩:=(show D 3=true→AllDone D [1,2] from hcl 3 (by decide)) p3_
     have q5_:=ny hcl 5 0 hD
     have q6_:=ny hcl 6 0 q5_
     simp only [hD,p0_,p1_,p2_,p3_,q5_,q6_,cq,oT] at ht hs
     subst ht
     refine QbJ (κ:=(K.int .i16)) (m:=1) rfl (hs.row 2 rfl) rfl (fun _=>rfl) gd21.1 gd21.2 had22_ rfl rfl rfl rfl rfl (g_d rfl ?_)
     try dsimp only [Qah,Qai]
     refine hk _ _ ⟨O,?_,hs.cast ?_⟩<;>simp only [oT,lq,cq,Nat.reduceBEq,p0_,p1_,p2_,p3_,q5_,q6_]
    ·
     rintro D t w hD hp hcl ⟨O,ht,hs⟩ rest hk
     have hp:AllDone D [4]:=hp
     obtain ⟨p4_,_⟩:=hp
     obtain ⟨p0_,p3_,_⟩:=(show D 4=true→AllDone D [0,3] from hcl 4 (by decide)) p4_
     obtain ⟨p1_,p2_,_⟩:=(show D 3=true→AllDone D [1,2] from hcl 3 (by decide)) p3_
     have q6_:=ny hcl 6 0 hD
     simp only [hD,p0_,p1_,p2_,p3_,p4_,q6_,cq,oT] at ht hs
     subst ht
     refine Qaw rfl rfl (v:=int .i16 (rdL r7 r71 0)) rfl rfl (fun _=>rfl) (cellsAt_of (fkI .i16) 0 (hs.row 2 rfl) had22_ gd21.1 gd21.2) (g_d rfl ?_)
     try dsimp only [Qah,Qai]
     refine hk _ _ ⟨O,?_,hs.cast ?_⟩<;>simp only [oT,lq,cq,Nat.reduceBEq,p0_,p1_,p2_,p3_,p4_,q6_]
    ·
     rintro D t w hD hp hcl ⟨O,ht,hs⟩ rest hk
     have hp:AllDone D [5]:=hp
     obtain ⟨p5_,_⟩:=hp
     obtain ⟨p4_,_⟩:=(show D 5=true→AllDone D [4] from hcl 5 (by decide)) p5_
     obtain ⟨p0_,p3_,_⟩:=(show D 4=true→AllDone D [0,3] from hcl 4 (by decide)) p4_
     obtain ⟨p1_,p2_,_⟩:=(show D 3=true→AllDone D [1,2] from hcl 3 (by decide)) p3_
     simp only [hD,p0_,p1_,p2_,p3_,p4_,p5_,cq,oT] at ht hs
     subst ht
     refine Qab (v:=int .i64 (i64w (rdL r7 r71 0))) rfl rfl rfl (g_d rfl ?_)
     try dsimp only [Qah,Qai]
     refine hk _ _ ⟨O,?_,hs.cast ?_⟩<;>simp only [oT,lq,cq,Nat.reduceBEq,p0_,p1_,p2_,p3_,p4_,p5_]
    ·
     rintro D t w hD hp hcl ⟨O,ht,hs⟩ rest hk
     have hp:AllDone D []:=hp
     have q8_:=ny hcl 8 0 hD
     have q9_:=ny hcl 9 0 q8_
     simp only [hD,q8_,q9_,cq,oT] at ht hs
     subst ht
     refine Qab (v:=pointer (some ⟨b50,4,none⟩)) rfl rfl rfl (g_d rfl ?_)
     try dsimp only [Qah,Qai]
     refine hk _ _ ⟨O,?_,hs.cast ?_⟩<;>simp only [oT,lq,cq,Nat.reduceBEq,q8_,q9_]
    ·
     rintro D t w hD hp hcl ⟨O,ht,hs⟩ rest hk
     have hp:AllDone D [7]:=hp
     obtain ⟨p7_,_⟩:=hp
     have q9_:=ny hcl 9 0 hD
     simp only [hD,p7_,q9_,cq,oT] at ht hs
     subst ht
     refine Qaw rfl rfl (v:=int .i64 ((rdL r13 x48 Qap).QaQ)) rfl rfl (fun _=>rfl) (cells_load (hs.cells 4 rfl) 4 1 (by first|rfl|(simp only [QaE];simp [List.drop_append,List.take_append,encAI_len,encAB_len,List.take_of_length_le]))) (g_d rfl ?_)
     try dsimp only [Qah,Qai]
     refine hk _ _ ⟨O,?_,hs.cast ?_⟩<;>simp only [oT,lq,cq,Nat.reduceBEq,p7_,q9_]
    ·
     rintro D t w hD hp hcl ⟨O,ht,hs⟩ rest hk
     have hp:AllDone D [8]:=hp
     obtain ⟨p8_,_⟩:=hp
     obtain ⟨p7_,_⟩:=(show D 8=true→AllDone D [7] from hcl 8 (by decide)) p8_
     simp only [hD,p7_,p8_,cq,oT] at ht hs
     subst ht
     refine Qab (v:=int .i64 (i64w (((rdL r13 x48 Qap).QaQ)+1))) rfl rfl rfl (g_d rfl ?_)
     try dsimp only [Qah,Qai]
     refine hk _ _ ⟨O,?_,hs.cast ?_⟩<;>simp only [oT,lq,cq,Nat.reduceBEq,p7_,p8_]
    intro D t w rest hall hO20_ hI
    obtain ⟨O,ht,hs⟩:=hI
    have p0_:=hall 0 (by decide) rfl
    have p1_:=hall 1 (by decide) rfl
    have p2_:=hall 2 (by decide) rfl
    have p3_:=hall 3 (by decide) rfl
    have p4_:=hall 4 (by decide) rfl
    have p5_:=hall 5 (by decide) rfl
    have p6_:=hall 6 (by decide) rfl
    have p7_:=hall 7 (by decide) rfl
    have p8_:=hall 8 (by decide) rfl
    have p9_:=hall 9 (by decide) rfl
    simp only [p0_,p1_,p2_,p3_,p4_,p5_,p6_,p7_,p8_,p9_,cq,oT] at ht hs
    subst ht
    obtain ⟨rest,rfl,hO23_⟩:=ord_one (m:=1023) hO20_ rfl 10 (m':=2047) (by decide+kernel) rfl
    clear hO20_
    refine QaI (B:=(i64w (rdL r7 r71 0))==(i64w (((rdL r13 x48 Qap).QaQ)+1))) rfl rfl rfl ?_ ?_
    ·
     intro hb
     rw [if_pos (b_beq_t hb)] at H
     refine g_d rfl ?_
     try dsimp only [Qah,Qai]
     obtain rfl:=ord_end hO23_ rfl (by decide+kernel)
     refine Qac (Qaq rfl ?_)
     refine QaV ?_
     intro T hT
     refine QbZ (n:=11) rfl [0,1,2,3,4,5,6,7,8,9,10] [0,1,2,3,4,5,6,7,8,9,10] rfl rfl (Inv:=fun D t w=>∃ O:Nat→Value,t=(O 0::pointer (some ⟨b4,0,none⟩)::O 2::O 3::v8::Value.map (some b10)::O 6::pointer (some ⟨b50,0,none⟩)::O 8::int .u16 (rdL r52 x66 0)::pointer (some ⟨b69,0,none⟩)::O 11::O 12::O 13::O 14::O 15::O 16::O 17::O 18::O 19::O 20::O 21::O 22::v14::int .i64 (r13.length:Int)::int .i64 x48::O 26::O 27::O 28::O 29::O 30::O 31::v53::int .i64 (r52.length:Int)::int .i64 x66::bool true::pointer (some p67)::int .u16 (rdL r52 x66 0)::pointer (some ⟨b50,0,none⟩)::agg (Qaa ((rdL r13 x48 Qap).Qax)).toArray::int .u16 (rdL r52 x66 0)::agg (Qaa r68).toArray::v8::agg (([int .i8 a1.Qad,int .i8 a1.Qag,v2]:List Value)).toArray::agg (Qaa r68).toArray::int .i64 r71::pointer (some (ad22_.add (r71.toNat*1)))::int .i16 (rdL r7 r71 0)::int .i64 (i64w (rdL r7 r71 0))::pointer (some ⟨b50,4,none⟩)::int .i64 ((rdL r13 x48 Qap).QaQ)::int .i64 (i64w (((rdL r13 x48 Qap).QaQ)+1))::bool true::cnd (D 0) (Value.map (some b10)) (O 53)::cnd (D 1) (agg (Qaa r68).toArray) (O 54)::cnd (D 2) (int .i64 (mGet x65 r68 0)) (O 55)::cnd (D 3) (Value.map (some b10)) (O 56)::cnd (D 4) (pointer (some ⟨b50,0,none⟩)) (O 57)::cnd (D 5) (agg (Qaa ((rdL r13 x48 Qap).Qax)).toArray) (O 58)::cnd (D 6) (int .i64 (mGet x65 ((rdL r13 x48 Qap).Qax) 0)) (O 59)::cnd (D 7) (int .i64 (i64w ((mGet x65 r68 0)+(mGet x65 ((rdL r13 x48 Qap).Qax) 0)))) (O 60)::cnd (D 8) (tuple #[int .i64 (mGet x65 r68 0),int .i64 (mPos x65 r68)]) (O 61)::cnd (D 9) (int .i64 (mPos x65 r68)) (O 62)::O 63::O 64::O 65::O 66::O 67::O 68::O 69::O 70::[])∧St w0 [Cells b69 (Qaa r68) 48,Cells b4 (([int .i8 a1.Qad,int .i8 a1.Qag,v2]:List Value)) 27,Row 86 (K.int .i16) v8 r7,MapAs b10 Qbu (int .i64) (cnd (D 10) (mSet x65 r68 (i64w ((mGet x65 r68 0)+(mGet x65 ((rdL r13 x48 Qap).Qax) 0)))) (cnd (D 8) (mEnt x65 r68 0) x65)),Cells b50 (QaE (rdL r13 x48 Qap)) 82,Row 82 Qa5 v14 r13,Row 46 (K.int .u16) v53 r52] w) ?_ ⟨⟨⟨⟨⟨⟨⟨⟨⟨⟨⟨trivial,?_⟩,?_⟩,?_⟩,?_⟩,?_⟩,?_⟩,?_⟩,?_⟩,?_⟩,?_⟩,?_⟩ ?_
     ·
      intro w hh hbw
      have hs:=hs.samew hh hbw
      exact ⟨fun i=>T.getD i undef,(by subst hT;rfl),hs⟩
     ·
      rintro D t w hD hp hcl ⟨O,ht,hs⟩ rest hk
      have q2_:=nz hcl 2 0 hD
      have q7_:=nz hcl 7 0 q2_
      have q8_:=nz hcl 8 0 hD
      have q9_:=nz hcl 9 0 q8_
      have q10_:=nz hcl 10 0 hD
      simp only [hD,q2_,q7_,q8_,q9_,q10_,cq,oT] at ht hs
      subst ht
      refine Qab (v:=Value.map (some b10)) rfl rfl rfl (g_d rfl ?_)
      try dsimp only [Qah,Qai]
      refine hk _ _ ⟨O,?_,hs.cast ?_⟩<;>simp only [oT,lq,cq,Nat.reduceBEq,q2_,q7_,q8_,q9_,q10_]
     ·
      rintro D t w hD hp hcl ⟨O,ht,hs⟩ rest hk
      have q2_:=nz hcl 2 1 hD
      have q7_:=nz hcl 7 0 q2_
      have q8_:=nz hcl 8 1 hD
      have q9_:=nz hcl 9 0 q8_
      have q10_:=nz hcl 10 1 q9_
      simp only [hD,q2_,q7_,q8_,q9_,q10_,cq,oT] at ht hs
      subst ht
      refine QaF rfl rfl (es:=(Qaa r68)) rfl rfl (fun _=>rfl) (n:=2) (fun _=>rfl) (Qam.len _) (cells_all (hs.cells 0 rfl)) (g_d rfl ?_)
      try dsimp only [Qah,Qai]
      refine hk _ _ ⟨O,?_,hs.cast ?_⟩<;>simp only [oT,lq,cq,Nat.reduceBEq,q2_,q7_,q8_,q9_,q10_]
     ·
      rintro D t w hD hp hcl ⟨O,ht,hs⟩ rest hk
      obtain ⟨p0_,p1_,_⟩:=hp
      have q7_:=nz hcl 7 0 hD
      have q10_:=nz hcl 10 2 q7_
      simp only [hD,p0_,p1_,q7_,q10_,cq,oT] at ht hs
      subst ht
      refine Qab (v:=int .i64 (mGet x65 r68 0)) rfl rfl (Qc5 QbR (a:=r68) (z:=0) (hs.mp 3 rfl) rfl Tryz.underlying88 rfl rfl (fun _=>rfl)) (g_d rfl ?_)
      try dsimp only [Qah,Qai]
      refine hk _ _ ⟨O,?_,hs.cast ?_⟩<;>simp only [oT,lq,cq,Nat.reduceBEq,p0_,p1_,q7_,q10_]
     ·
      rintro D t w hD hp hcl ⟨O,ht,hs⟩ rest hk
      have q6_:=nz hcl 6 0 hD
      have q7_:=nz hcl 7 1 q6_
      have q8_:=nz hcl 8 4 hD
      have q9_:=nz hcl 9 0 q8_
      have q10_:=nz hcl 10 1 q9_
      simp only [hD,q6_,q7_,q8_,q9_,q10_,cq,oT] at ht hs
      subst ht
      refine Qab (v:=Value.map (some b10)) rfl rfl rfl (g_d rfl ?_)
      try dsimp only [Qah,Qai]
      refine hk _ _ ⟨O,?_,hs.cast ?_⟩<;>simp only [oT,lq,cq,Nat.reduceBEq,q6_,q7_,q8_,q9_,q10_]
     ·
      rintro D t w hD hp hcl ⟨O,ht,hs⟩ rest hk
      have q5_:=nz hcl 5 0 hD
      have q6_:=nz hcl 6 1 q5_
      have q7_:=nz hcl 7 1 q6_
      have q8_:=nz hcl 8 5 hD
      have q9_:=nz hcl 9 0 q8_
      have q10_:=nz hcl 10 1 q9_
      simp only [hD,q5_,q6_,q7_,q8_,q9_,q10_,cq,oT] at ht hs
      subst ht
      refine Qab (v:=pointer (some ⟨b50,0,none⟩)) rfl rfl rfl (g_d rfl ?_)
      try dsimp only [Qah,Qai]
      refine hk _ _ ⟨O,?_,hs.cast ?_⟩<;>simp only [oT,lq,cq,Nat.reduceBEq,q5_,q6_,q7_,q8_,q9_,q10_]
     ·
      rintro D t w hD hp hcl ⟨O,ht,hs⟩ rest hk
      obtain ⟨p4_,_⟩:=hp
      have q6_:=nz hcl 6 1 hD
      have q7_:=nz hcl 7 1 q6_
      have q8_:=nz hcl 8 6 hD
      have q9_:=nz hcl 9 0 q8_
      have q10_:=nz hcl 10 1 q9_
      simp only [hD,p4_,q6_,q7_,q8_,q9_,q10_,cq,oT] at ht hs
      subst ht
      refine QaF rfl rfl (es:=(Qaa ((rdL r13 x48 Qap).Qax))) rfl rfl (fun _=>rfl) (n:=2) (fun _=>rfl) (Qam.len _) (cells_load (hs.cells 4 rfl) 0 2 (by simp only [QaE];first|rfl|exact List.take_of_length_le (Nat.le_of_eq (Qam.len _))|simp [List.drop_append,List.take_append,encAI_len,encAB_len,encA_len,List.take_of_length_le])) ?_
      refine g_d rfl ?_
      try dsimp only [Qah,Qai]
      refine hk _ _ ⟨O,?_,hs.cast ?_⟩<;>simp only [oT,lq,cq,Nat.reduceBEq,p4_,q6_,q7_,q8_,q9_,q10_]
     ·
      rintro D t w hD hp hcl ⟨O,ht,hs⟩ rest hk
      obtain ⟨p3_,p5_,_⟩:=hp
      obtain ⟨p4_,_⟩:=(hcl.get 5 (by decide)) p5_
      have q7_:=nz hcl 7 1 hD
      have q8_:=nz hcl 8 7 hD
      have q9_:=nz hcl 9 0 q8_
      have q10_:=nz hcl 10 1 q9_
      simp only [hD,p3_,p4_,p5_,q7_,q8_,q9_,q10_,cq,oT] at ht hs
      subst ht
      refine Qab (v:=int .i64 (mGet x65 ((rdL r13 x48 Qap).Qax) 0)) rfl rfl (QcF QbR (a:=(rdL r13 x48 Qap).Qax) (z:=0) (hs.mp 3 rfl) rfl Tryz.underlying88 rfl rfl (fun _=>rfl)) (g_d rfl ?_)
      try dsimp only [Qah,Qai]
      refine hk _ _ ⟨O,?_,hs.cast ?_⟩<;>simp only [oT,lq,cq,Nat.reduceBEq,p3_,p4_,p5_,q7_,q8_,q9_,q10_]
     ·
      rintro D t w hD hp hcl ⟨O,ht,hs⟩ rest hk
      obtain ⟨p2_,p6_,_⟩:=hp
      obtain ⟨p3_,p5_,_⟩:=(hcl.get 6 (by decide)) p6_
      obtain ⟨p4_,_⟩:=(hcl.get 5 (by decide)) p5_
      obtain ⟨p0_,p1_,_⟩:=(hcl.get 2 (by decide)) p2_
      have q10_:=nz hcl 10 2 hD
      simp only [hD,p0_,p1_,p2_,p3_,p4_,p5_,p6_,q10_,cq,oT] at ht hs
      subst ht
      refine Qab (v:=int .i64 (i64w ((mGet x65 r68 0)+(mGet x65 ((rdL r13 x48 Qap).Qax) 0)))) rfl rfl rfl (g_d rfl ?_)
      try dsimp only [Qah,Qai]
      refine hk _ _ ⟨O,?_,hs.cast ?_⟩<;>simp only [oT,lq,cq,Nat.reduceBEq,p0_,p1_,p2_,p3_,p4_,p5_,p6_,q10_]
     ·
      rintro D t w hD hp hcl ⟨O,ht,hs⟩ rest hk
      obtain ⟨p0_,p1_,_,_,p3_,p4_,p5_,p6_,_⟩:=hp
      have q9_:=nz hcl 9 0 hD
      have q10_:=nz hcl 10 1 q9_
      simp only [hD,p0_,p1_,p3_,p4_,p5_,p6_,q9_,q10_,cq,oT] at ht hs
      subst ht
      have hs:St _ [_,_,_,_,_,_,_] _:=hs.pull 3 rfl
      refine Qc1 QbR (a:=r68) (z:=0) hs rfl rfl rfl Tryz.underlying88 rfl rfl (fun _=>rfl) ?_
      intro w hs
      refine g_d rfl ?_
      try dsimp only [Qah,Qai]
      have hs:=hs.push 3 (by simp)
      refine hk _ _ ⟨O,?_,hs.cast ?_⟩<;>simp only [oT,lq,cq,Nat.reduceBEq,p0_,p1_,p3_,p4_,p5_,p6_,q9_,q10_]
     ·
      rintro D t w hD hp hcl ⟨O,ht,hs⟩ rest hk
      obtain ⟨p8_,_⟩:=hp
      obtain ⟨p0_,p1_,_,_,p3_,p4_,p5_,p6_,_⟩:=(hcl.get 8 (by decide)) p8_
      have q10_:=nz hcl 10 1 hD
      simp only [hD,p0_,p1_,p3_,p4_,p5_,p6_,p8_,q10_,cq,oT] at ht hs
      subst ht
      refine Qab (v:=int .i64 (mPos x65 r68)) rfl rfl rfl (g_d rfl ?_)
      try dsimp only [Qah,Qai]
      refine hk _ _ ⟨O,?_,hs.cast ?_⟩<;>simp only [oT,lq,cq,Nat.reduceBEq,p0_,p1_,p3_,p4_,p5_,p6_,p8_,q10_]
     ·
      rintro D t w hD hp hcl ⟨O,ht,hs⟩ rest hk
      obtain ⟨p0_,p9_,p7_,p8_,_,p1_,p2_,p3_,p4_,p5_,p6_,_,_,_,_⟩:=hp
      simp only [hD,p0_,p1_,p2_,p3_,p4_,p5_,p6_,p7_,p8_,p9_,cq,oT] at ht hs
      subst ht
      have hs:St _ [_,_,_,_,_,_,_] _:=hs.pull 3 rfl
      refine QcV (a:=r68) (z:=0) (v:=i64w ((mGet x65 r68 0)+(mGet x65 ((rdL r13 x48 Qap).Qax) 0))) hs rfl rfl rfl rfl rfl rfl ?_
      intro w hs
      refine g_n rfl ?_
      try dsimp only [Qah,Qai]
      have hs:=hs.push 3 (by simp)
      refine hk _ _ ⟨O,?_,hs.cast ?_⟩<;>simp only [oT,lq,cq,Nat.reduceBEq,p0_,p1_,p2_,p3_,p4_,p5_,p6_,p7_,p8_,p9_]
     intro D t w hall hI
     obtain ⟨O,ht,hs⟩:=hI
     have p0_:=hall 0 (by decide)
     have p1_:=hall 1 (by decide)
     have p2_:=hall 2 (by decide)
     have p3_:=hall 3 (by decide)
     have p4_:=hall 4 (by decide)
     have p5_:=hall 5 (by decide)
     have p6_:=hall 6 (by decide)
     have p7_:=hall 7 (by decide)
     have p8_:=hall 8 (by decide)
     have p9_:=hall 9 (by decide)
     have p10_:=hall 10 (by decide)
     simp only [p0_,p1_,p2_,p3_,p4_,p5_,p6_,p7_,p8_,p9_,p10_,cq,oT] at ht hs
     subst ht
     refine Qa0 ?_
     have hs:=hs.pull 6 rfl
     have hs:=hs.pull 6 rfl
     have hs:=hs.pull 6 rfl
     have hs:=hs.pull 6 rfl
     have hs:=hs.pull 6 rfl
     have hs:=hs.pull 6 rfl
     have hs:St _ [_,_,_,_,_,_] _:=St.take (Γ':=[_]) hs
     exact ha _ _ ⟨mSet x65 r68 (i64w ((mGet x65 r68 0)+(mGet x65 ((rdL r13 x48 Qap).Qax) 0))),H,rfl,hs⟩
    intro hb
    rw [if_neg (b_beq_f hb)] at H
    refine g_d rfl ?_
    obtain rfl:=ord_end hO23_ rfl (by decide+kernel)
    refine Qac (Qas rfl (QaK ?_))
    refine Qa0 ?_
    have hs:=hs.pull 6 rfl
    have hs:=hs.pull 6 rfl
    have hs:=hs.pull 6 rfl
    have hs:=hs.pull 6 rfl
    have hs:=hs.pull 6 rfl
    have hs:=hs.pull 6 rfl
    have hs:St _ [_,_,_,_,_,_] _:=St.take (Γ':=[_]) hs
    exact ha _ _ ⟨x65,H,rfl,hs⟩
   intro hb
   rw [if_neg (b_dec_f hb)] at H
   refine g_d rfl (Qac (Qaj (Qas rfl ?_)))
   obtain rfl:=QsJ H
   subst Hx2_
   have hs:=hs.pull 4 rfl
   have hs:=hs.pull 3 rfl
   have hs:=hs.pull 3 rfl
   have hs:=hs.pull 3 rfl
   have hs:St _ [_,_,_,_] _:=St.take (Γ':=[_,_]) hs
   refine QbE rfl ?_
   exact ha2_ _ _ ⟨x65,Hr2_,rfl,hs⟩
  intro hb
  rw [if_neg (b_dec_f hb)] at H
  refine g_d rfl ?_
  try dsimp only [Qah,Qai]
  refine Qac (Qaj (Qas rfl ?_))
  obtain rfl:=QsJ H
  subst Hx1_
  have hs:=hs.pull 2 rfl
  have hs:St _ [_] _:=St.take (Γ':=[_,_,_]) hs
  refine QbE rfl ?_
  exact ha1_ _ _ ⟨x47,Hr1_,rfl,hs⟩
 |false=>
  rw [if_neg Bool.false_ne_true] at H
  refine g_d rfl ?_
  refine Qab (v:=bool true) rfl rfl rfl (g_d rfl ?_)
  try dsimp only [Qah,Qai]
  refine Qac (Qaq rfl (Qaj (Qan [0,1] rfl ?_)))
  refine Qab (v:=int .i64 0) rfl rfl rfl (g_d rfl ?_)
  refine Qab (v:=int .i64 1) rfl rfl rfl (g_d rfl ?_)
  try dsimp only [Qah,Qai]
  refine Qac ?_
  obtain rfl:=QsJ H
  refine QaB Tryz.func13 (v:=tuple #[int .i64 0,int .i64 1]) (resN (l:=Tryz.f13.results.toList) (vs:=[int .i64 0,int .i64 1]) rfl ⟨rfl,rfl,trivial⟩ (by simp)) ?_
  have hs:St _ [] _:=St.take (Γ':=[_]) hs
  exact ⟨_,rfl,rfl,hs⟩
def QbB.post (w0:World) (r:(Int×Int)) (v:Value) (w:World):Prop:=v=tuple #[int .i64 r.1,int .i64 r.2]∧St w0 [] w
theorem QbB.calls {N:Nat} {a1:Qaf} {a4:(List Int)} {v2:Value} {v5:Value} {w0:World} {r:(Int×Int)} (hr3:RdRow (K.int .u16) w0 v2 a1.Qal) (hr1:RdRow (K.int .i16) w0 v5 a4) (H:QbB.f N a1 a4=some r):
 Calls Tryz.prog 14 #[agg (([int .i8 a1.Qad,int .i8 a1.Qag,v2]:List Value)).toArray,v5] w0 fun e w=>∃ v,e= .returned v∧QbB.post w0 r v w:=by
 unfold QbB.f at H
 have hs:St w0 [] w0:=St.refl w0
 refine calls_of_g (n:=30) Tryz.func14 rfl rfl ?_
 show G _ _ _ _ [_,_,_,_,_,_,_,_,_,_,_,_,_,_,_,_,_,_,_,_,_,_,_,_,_,_,_,_,_,_,_,_] _
 refine Qaj (Qan [0,1,2] rfl ?_)
 refine Qbw hs rfl rfl (cs:=(([int .i8 a1.Qad,int .i8 a1.Qag,v2]:List Value))) rfl rfl ?_
 intro b6 w hs
 refine Qab (v:=int .i64 0) rfl rfl rfl ?_
 show G _ _ _ _ [_,_,_,_,_,_,_,_,_,_,_,_,_,_,_,_,_,_,_,_,_,_,_,_,_,_,_,_,_,_,_,_] _
 refine Qab (v:=int .i64 0) rfl rfl rfl (Qac (Qaj (Qan [0,1,2,3,4,5,6,7] rfl ?_)))
 refine QaF rfl rfl (es:=(([int .i8 a1.Qad,int .i8 a1.Qag,v2]:List Value))) rfl rfl (fun _=>rfl) (n:=3) (fun _=>rfl) rfl (cells_all (hs.cells 0 rfl)) ?_
 refine Qab (v:=v5) rfl rfl rfl ?_
 obtain ⟨r8,Hr8,H⟩:=bind_get H
 refine Qaz (args:=[agg (([int .i8 a1.Qad,int .i8 a1.Qag,v2]:List Value)).toArray,v5]) rfl rfl (QaA rfl (callFunc_enter Tryz.func10 rfl rfl) rfl) (QbA.calls (a1:=(⟨a1.Qad,a1.Qag,a1.Qal⟩:Qaf)) (a4:=a4) (hs.rd hr3) (hs.rd hr1) Hr8) ?_
 rintro _ w ⟨rfl,hs2⟩
 have hs:St _ [_] _:=hs.call hs2
 show G _ _ _ _ [_,_,_,_,_,_,_,_,_,_,_,_,_,_,_,_,_,_,_,_,_,_,_,_,_,_,_,_,_,_,_,_] _
 refine Qab (v:=tuple #[bool r8.1,int .i64 r8.2]) rfl rfl rfl ?_
 refine Qab (v:=bool r8.1) rfl rfl rfl ?_
 refine Qab (v:=int .i64 r8.2) rfl rfl rfl ?_
 refine Qab (v:=bool r8.1) rfl rfl rfl ?_
 refine Qab (v:=int .i64 r8.2) rfl rfl rfl (Qac (Qaj ?_))
 refine QbG (Qaj (Qan [0,1,2] rfl ?_))
 refine Qab (v:=int .i64 r8.2) rfl rfl rfl ?_
 refine QaI (B:=r8.2 !=0) rfl rfl rfl ?_ ?_
 ·
  intro hb
  rw [if_neg (b_bne_t hb)] at H
  show G _ _ _ _ [_,_,_,_,_,_,_,_,_,_,_,_,_,_,_,_,_,_,_,_,_,_,_,_,_,_,_,_,_,_,_,_] _
  refine Qab (v:=bool true) rfl rfl rfl (Qac (Qaq rfl (Qaj (Qan [0,1,2] rfl ?_))))
  refine Qab (v:=int .i64 r8.2) rfl rfl rfl ?_
  refine Qab (v:=int .i64 0) rfl rfl rfl ?_
  refine Qab (v:=int .i64 r8.2) rfl rfl rfl ?_
  show G _ _ _ _ [_,_,_,_,_,_,_,_,_,_,_,_,_,_,_,_,_,_,_,_,_,_,_,_,_,_,_,_,_,_,_,_] _
  refine Qac ?_
  obtain rfl:=QsJ H
  refine QaB Tryz.func14 (v:=tuple #[int .i64 0,int .i64 r8.2]) (resN (l:=Tryz.f14.results.toList) (vs:=[int .i64 0,int .i64 r8.2]) rfl ⟨rfl,rfl,trivial⟩ (by simp)) ?_
  have hs:St _ [] _:=St.take (Γ':=[_]) hs
  exact ⟨_,rfl,rfl,hs⟩
 intro hb
 rw [if_pos (b_bne_f hb)] at H
 show G _ _ _ _ [_,_,_,_,_,_,_,_,_,_,_,_,_,_,_,_,_,_,_,_,_,_,_,_,_,_,_,_,_,_,_,_] _
 refine Qab (v:=bool false) rfl rfl rfl (Qac (Qas rfl (Qaj (Qan [0,1,2] rfl ?_))))
 refine QaI (B:=r8.1) rfl rfl rfl ?_ ?_
 ·
  intro hb
  rw [if_pos (b_var_t hb)] at H
  refine Qab (v:=bool false) rfl rfl rfl ?_
  refine Qab (v:=bool false) rfl rfl rfl ?_
  show G _ _ _ _ [_,_,_,_,_,_,_,_,_,_,_,_,_,_,_,_,_,_,_,_,_,_,_,_,_,_,_,_,_,_,_,_] _
  refine Qac (Qas rfl (QaK ?_))
  refine Qa0 (Qaj (Qan [0,1,2,3,4,5,6,7] rfl ?_))
  refine Qab (v:=v5) rfl rfl rfl ?_
  refine QaF rfl rfl (es:=(([int .i8 a1.Qad,int .i8 a1.Qag,v2]:List Value))) rfl rfl (fun _=>rfl) (n:=3) (fun _=>rfl) rfl (cells_all (hs.cells 0 rfl)) ?_
  show G _ _ _ _ [_,_,_,_,_,_,_,_,_,_,_,_,_,_,_,_,_,_,_,_,_,_,_,_,_,_,_,_,_,_,_,_] _
  refine Qab (v:=agg (Qaa (⟨0,true⟩:Qak)).toArray) rfl rfl (Qbt (cs:=(Qaa (⟨0,true⟩:Qak))) (segs:=[[int .u16 0],[bool false]]) rfl rfl (fun _=>rfl) ⟨rfl,(fun _=>rfl),rfl,(fun _=>rfl),trivial⟩ (by simp only [List.map_cons,List.map_nil,List.forall_mem_cons,List.not_mem_nil,false_implies,implies_true,and_true];exact ⟨_,rfl,rfl⟩) (by first|rfl|(simp [ev,Qaa];done)|(simp [ev,Qaa];rfl))) ?_
  obtain ⟨r9,Hr9,H⟩:=bind_get H
  refine Qaz (args:=[agg (([int .i8 a1.Qad,int .i8 a1.Qag,v2]:List Value)).toArray,agg (Qaa (⟨0,true⟩:Qak)).toArray]) rfl rfl (QaA rfl (callFunc_enter Tryz.func47 rfl rfl) rfl) (Qbg.calls (a1:=(⟨a1.Qad,a1.Qag,a1.Qal⟩:Qaf)) (a4:=(⟨0,true⟩:Qak)) (hs.rd hr3) Hr9) ?_
  rintro _ w ⟨rfl,hs2⟩
  have hs:St _ [_] _:=hs.call hs2
  show G _ _ _ _ [_,_,_,_,_,_,_,_,_,_,_,_,_,_,_,_,_,_,_,_,_,_,_,_,_,_,_,_,_,_,_,_] _
  obtain ⟨g1,H⟩:=ite_get H
  refine QbQ (fkI .i16) 0 (hs.rd hr1) rfl (fun _=>rfl) g1.1 g1.2 rfl rfl rfl rfl rfl ?_
  intro p10 hp10 lp10 op10
  refine Qaw rfl rfl (v:=int .i16 (rdL a4 r9 0)) rfl rfl (fun _=>rfl) hp10 ?_
  refine Qab (v:=int .i64 (i64w (rdL a4 r9 0))) rfl rfl rfl ?_
  refine Qab (v:=int .i64 (i64w (rdL a4 r9 0))) rfl rfl rfl ?_
  show G _ _ _ _ [_,_,_,_,_,_,_,_,_,_,_,_,_,_,_,_,_,_,_,_,_,_,_,_,_,_,_,_,_,_,_,_] _
  refine Qac (Qaj (Qaj (Qan [0,1] rfl ?_)))
  refine Qab (v:=int .i64 (i64w (rdL a4 r9 0))) rfl rfl rfl ?_
  refine QaI (B:=(i64w (rdL a4 r9 0))==(-1)) rfl rfl rfl ?_ ?_
  ·
   intro hb
   rw [if_pos (b_beq_t hb)] at H
   show G _ _ _ _ [_,_,_,_,_,_,_,_,_,_,_,_,_,_,_,_,_,_,_,_,_,_,_,_,_,_,_,_,_,_,_,_] _
   refine Qac (Qaq rfl (Qaj (Qan [0,1] rfl ?_)))
   refine Qab (v:=int .i64 0) rfl rfl rfl ?_
   refine Qab (v:=int .i64 6) rfl rfl rfl (Qac ?_)
   obtain rfl:=QsJ H
   refine QaB Tryz.func14 (v:=tuple #[int .i64 0,int .i64 6]) (resN (l:=Tryz.f14.results.toList) (vs:=[int .i64 0,int .i64 6]) rfl ⟨rfl,rfl,trivial⟩ (by simp)) ?_
   have hs:St _ [] _:=St.take (Γ':=[_]) hs
   exact ⟨_,rfl,rfl,hs⟩
  intro hb
  rw [if_neg (b_beq_f hb)] at H
  refine Qac (Qas rfl (QaK (Qaj (Qan [0,1,2] rfl ?_))))
  refine Qab (v:=int .i64 (i64w (rdL a4 r9 0))) rfl rfl rfl ?_
  refine Qab (v:=int .i64 (i64w (rdL a4 r9 0))) rfl rfl rfl ?_
  refine Qab (v:=int .i64 0) rfl rfl rfl ?_
  show G _ _ _ _ [_,_,_,_,_,_,_,_,_,_,_,_,_,_,_,_,_,_,_,_,_,_,_,_,_,_,_,_,_,_,_,_] _
  refine Qac ?_
  obtain rfl:=QsJ H
  refine QaB Tryz.func14 (v:=tuple #[int .i64 (i64w (rdL a4 r9 0)),int .i64 0]) (resN (l:=Tryz.f14.results.toList) (vs:=[int .i64 (i64w (rdL a4 r9 0)),int .i64 0]) rfl ⟨rfl,rfl,trivial⟩ (by simp)) ?_
  have hs:St _ [] _:=St.take (Γ':=[_]) hs
  exact ⟨_,rfl,rfl,hs⟩
 intro hb
 rw [if_neg (b_var_f hb)] at H
 refine Qab (v:=bool true) rfl rfl rfl ?_
 refine Qab (v:=bool true) rfl rfl rfl ?_
 show G _ _ _ _ [_,_,_,_,_,_,_,_,_,_,_,_,_,_,_,_,_,_,_,_,_,_,_,_,_,_,_,_,_,_,_,_] _
 refine Qac (Qaq rfl (Qaj (Qan [0,1] rfl ?_)))
 refine Qab (v:=int .i64 0) rfl rfl rfl ?_
 refine Qab (v:=int .i64 8) rfl rfl rfl (Qac ?_)
 obtain rfl:=QsJ H
 refine QaB Tryz.func14 (v:=tuple #[int .i64 0,int .i64 8]) (resN (l:=Tryz.f14.results.toList) (vs:=[int .i64 0,int .i64 8]) rfl ⟨rfl,rfl,trivial⟩ (by simp)) ?_
 have hs:St _ [] _:=St.take (Γ':=[_]) hs
 exact ⟨_,rfl,rfl,hs⟩
def QaP.post (w0:World) (r:Bool) (v:Value) (w:World):Prop:=v=bool r∧St w0 [] w
theorem QaP.calls {N:Nat} {a1:(List Int)} {a3:(List Int)} {v2:Value} {v4:Value} {w0:World} {r:Bool} (hr0:RdRow (K.int .u16) w0 v2 a1) (hr1:RdRow (K.int .u16) w0 v4 a3) (H:QaP.f N a1 a3=some r):
 Calls Tryz.prog 48 #[v2,v4] w0 fun e w=>∃ v,e= .returned v∧QaP.post w0 r v w:=by
 unfold QaP.f at H
 have hs:St w0 [] w0:=St.refl w0
 refine calls_of_g (n:=24) Tryz.func48 rfl rfl ?_
 show G _ _ _ _ [_,_,_,_,_,_,_,_,_,_,_,_,_,_,_,_,_,_,_,_,_,_,_,_,_,_] _
 refine Qaj (Qan [0] rfl ?_)
 refine Qab (v:=bool false) rfl rfl rfl ?_
 show G _ _ _ _ [_,_,_,_,_,_,_,_,_,_,_,_,_,_,_,_,_,_,_,_,_,_,_,_,_,_] _
 refine Qac (Qaj (Qaj (Qan [0,1,2,3,4] rfl ?_)))
 refine Qab (v:=v2) rfl rfl rfl ?_
 refine QbC (hs.rd hr0) rfl rfl rfl rfl rfl ?_
 refine Qab (v:=v4) rfl rfl rfl ?_
 refine QbC (hs.rd hr1) rfl rfl rfl rfl rfl ?_
 refine QaI (B:=(a1.length:Int) !=(a3.length:Int)) rfl rfl rfl ?_ ?_
 ·
  intro hb
  rw [if_neg (b_bne_t hb)] at H
  show G _ _ _ _ [_,_,_,_,_,_,_,_,_,_,_,_,_,_,_,_,_,_,_,_,_,_,_,_,_,_] _
  refine Qac (Qaq rfl (Qaj (Qan [0] rfl ?_)))
  refine Qab (v:=bool false) rfl rfl rfl (Qac ?_)
  obtain rfl:=QsJ H
  refine QaB Tryz.func48 (v:=bool false) (res1 rfl rfl) ?_
  have hs:St _ [] _:=St.take (Γ':=[]) hs
  exact ⟨_,rfl,rfl,hs⟩
 intro hb
 rw [if_pos (b_bne_f hb)] at H
 show G _ _ _ _ [_,_,_,_,_,_,_,_,_,_,_,_,_,_,_,_,_,_,_,_,_,_,_,_,_,_] _
 refine Qac (Qas rfl (QaK (Qaj (Qaj (Qan [0,1,2] rfl ?_)))))
 refine Qab (v:=v2) rfl rfl rfl ?_
 refine QbC (hs.rd hr0) rfl rfl rfl rfl rfl ?_
 refine Qab (v:=int .i64 0) rfl rfl rfl (Qac ?_)
 obtain ⟨o1_,Ho,Hr1_⟩:=bind_get H
 refine QaR (J:=fun t w=>QaP.a0 N=some r∧Fr t (fun O=>([O 0,O 1,O 2,O 3,O 4,O 5,O 6,O 7,O 8,O 9,O 10,O 11,O 12,O 13,O 14,O 15,O 16,O 17,O 18,O 19,O 20,O 21,O 22,O 23,O 24,O 25]:List Value))∧St w0 [] w) ?_ ?_
 ·
  rintro t w ⟨H,hf,hs⟩
  obtain ⟨O,rfl⟩:=hf.open
  show G _ _ _ _ [_,_,_,_,_,_,_,_,_,_,_,_,_,_,_,_,_,_,_,_,_,_,_,_,_,_] _
  unfold QaP.a0 at H
  refine Qaj (Qan [0] rfl ?_)
  refine Qab (v:=bool true) rfl rfl rfl ?_
  show G _ _ _ _ [_,_,_,_,_,_,_,_,_,_,_,_,_,_,_,_,_,_,_,_,_,_,_,_,_,_] _
  refine Qac ?_
  obtain rfl:=QsJ H
  refine QaB Tryz.func48 (v:=bool true) (res1 rfl rfl) ?_
  have hs:St _ [] _:=St.take (Γ':=[]) hs
  exact ⟨_,rfl,rfl,hs⟩
 intro ha1_
 have hs:St _ [] _:=St.take (Γ':=[]) hs
 refine Qba (I:=fun n_ t w=>∃ x5:Int,rounds (fun s=>QaP.b0 N a1 a3 s) n_ x5=some o1_∧Fr t (fun O=>([v2,v4,O 2,O 3,O 4,O 5,O 6,O 7,O 8,O 9,O 10,O 11,int .i64 (a1.length:Int),int .i64 x5,O 14,O 15,O 16,O 17,O 18,O 19,O 20,O 21,O 22,O 23,O 24,O 25]:List Value))∧St w0 [] w) N ⟨0,Ho,rfl,hs⟩ ?_ ?_
 ·
  rintro _ _ ⟨x5,h,_⟩
  exact rounds_zero h
 intro n_ ih1_
 rintro t w ⟨x5,Ho,hf,hs⟩
 obtain ⟨O,rfl⟩:=hf.open
 show G _ _ _ _ [_,_,_,_,_,_,_,_,_,_,_,_,_,_,_,_,_,_,_,_,_,_,_,_,_,_] _
 obtain ⟨x7_,H,Hx1_⟩:=rounds_succ Ho
 have H:QaP.b0 N a1 a3 x5=some x7_:=H
 unfold QaP.b0 at H
 refine Qaj (Qan [0] rfl ?_)
 refine QaI (B:=decide (x5< (a1.length:Int))) rfl rfl rfl ?_ ?_
 ·
  intro hb
  rw [if_pos (b_dec_t hb)] at H
  show G _ _ _ _ [_,_,_,_,_,_,_,_,_,_,_,_,_,_,_,_,_,_,_,_,_,_,_,_,_,_] _
  refine Qac (Qaj (Qaq rfl (QaK (Qaj ?_))))
  refine QbG (Qaj (Qan [0,1] rfl ?_))
  refine Qab (v:=int .i64 x5) rfl rfl rfl ?_
  refine Qab (v:=int .i64 x5) rfl rfl rfl (Qac (Qaj ?_))
  refine Qck (n:=9) rfl [0,1,2,3,4,5,6,7,8] [0,1,2,3,4,5,6,7,8] rfl rfl ?_
  intro rest w hh hbw hO
  have hs:=hs.samew hh hbw
  show G _ _ _ _ [_,_,_,_,_,_,_,_,_,_,_,_,_,_,_,_,_,_,_,_,_,_,_,_,_,_] _
  obtain ⟨gd2,H⟩:=ite_get H
  obtain ⟨ad3_,ad3_N,ad3_C,had3_⟩:=sl_at (hs.rd hr0) gd2.1 gd2.2
  obtain ⟨gd4,H⟩:=ite_get H
  obtain ⟨ad5_,ad5_N,ad5_C,had5_⟩:=sl_at (hs.rd hr1) gd4.1 gd4.2
  refine QaV ?_
  intro T hT
  refine Qbb (m0:=0) hO rfl 255 [0,1,2,3,4,5,6,7] [0,0,3,7,0,0,48,112,255] (by decide+kernel) (fun D t w=>∃ O:Nat→Value,t=[v2,v4,O 2,O 3,O 4,int .i64 x5,O 6,O 7,O 8,O 9,O 10,O 11,int .i64 (a1.length:Int),int .i64 x5,bool true,int .i64 x5,cnd (D 0) v2 (O 16),cnd (D 1) (int .i64 x5) (O 17),cnd (D 2) (pointer (some (ad3_.add (x5.toNat*1)))) (O 18),cnd (D 3) (int .u16 (rdL a1 x5 0)) (O 19),cnd (D 4) v4 (O 20),cnd (D 5) (int .i64 x5) (O 21),cnd (D 6) (pointer (some (ad5_.add (x5.toNat*1)))) (O 22),cnd (D 7) (int .u16 (rdL a3 x5 0)) (O 23),O 24,O 25]∧St w0 [] w) ?_ ⟨?_,⟨?_,⟨?_,⟨?_,⟨?_,⟨?_,⟨?_,⟨?_,trivial⟩⟩⟩⟩⟩⟩⟩⟩ ?_
  ·exact ⟨fun i=>T.getD i undef,(by subst hT;rfl),hs⟩
  ·
   rintro D t w hD hp hcl ⟨O,ht,hs⟩ rest hk
   have hp:AllDone D []:=hp
   have q2_:=ny hcl 2 0 hD
   have q3_:=ny hcl 3 0 q2_
   simp only [hD,q2_,q3_,cq,oT] at ht hs
   subst ht
   refine Qab (v:=v2) rfl rfl rfl ?_
   show G _ _ _ _ [_,_,_,_,_,_,_,_,_,_,_,_,_,_,_,_,_,_,_,_,_,_,_,_,_,_] _
   refine hk _ _ ⟨O,?_,hs.cast ?_⟩<;>simp only [oT,lq,cq,Nat.reduceBEq,q2_,q3_]
  ·
   rintro D t w hD hp hcl ⟨O,ht,hs⟩ rest hk
   have hp:AllDone D []:=hp
   have q2_:=ny hcl 2 1 hD
   have q3_:=ny hcl 3 0 q2_
   simp only [hD,q2_,q3_,cq,oT] at ht hs
   subst ht
   refine Qab (v:=int .i64 x5) rfl rfl rfl ?_
   show G _ _ _ _ [_,_,_,_,_,_,_,_,_,_,_,_,_,_,_,_,_,_,_,_,_,_,_,_,_,_] _
   refine hk _ _ ⟨O,?_,hs.cast ?_⟩<;>simp only [oT,lq,cq,Nat.reduceBEq,q2_,q3_]
  ·
   rintro D t w hD hp hcl ⟨O,ht,hs⟩ rest hk
   have hp:AllDone D [0,1]:=hp
   obtain ⟨p0_,p1_,_⟩:=hp
   have q3_:=ny hcl 3 0 hD
   simp only [hD,p0_,p1_,q3_,cq,oT] at ht hs
   subst ht
   refine QbJ (κ:=(K.int .u16)) (m:=1) rfl (hs.rd hr0) rfl (fun _=>rfl) gd2.1 gd2.2 had3_ rfl rfl rfl rfl rfl ?_
   show G _ _ _ _ [_,_,_,_,_,_,_,_,_,_,_,_,_,_,_,_,_,_,_,_,_,_,_,_,_,_] _
   refine hk _ _ ⟨O,?_,hs.cast ?_⟩<;>simp only [oT,lq,cq,Nat.reduceBEq,p0_,p1_,q3_]
  ·
   rintro D t w hD hp hcl ⟨O,ht,hs⟩ rest hk
   have hp:AllDone D [2]:=hp
   obtain ⟨p2_,_⟩:=hp
   obtain ⟨p0_,p1_,_⟩:=(show D 2=true→AllDone D [0,1] from hcl 2 (by decide)) p2_
   simp only [hD,p0_,p1_,p2_,cq,oT] at ht hs
   subst ht
   refine Qaw rfl rfl (v:=int .u16 (rdL a1 x5 0)) rfl rfl (fun _=>rfl) (cellsAt_of (fkI .u16) 0 (hs.rd hr0) had3_ gd2.1 gd2.2) ?_
   show G _ _ _ _ [_,_,_,_,_,_,_,_,_,_,_,_,_,_,_,_,_,_,_,_,_,_,_,_,_,_] _
   refine hk _ _ ⟨O,?_,hs.cast ?_⟩<;>simp only [oT,lq,cq,Nat.reduceBEq,p0_,p1_,p2_]
  ·
   rintro D t w hD hp hcl ⟨O,ht,hs⟩ rest hk
   have hp:AllDone D []:=hp
   have q6_:=ny hcl 6 0 hD
   have q7_:=ny hcl 7 0 q6_
   simp only [hD,q6_,q7_,cq,oT] at ht hs
   subst ht
   refine Qab (v:=v4) rfl rfl rfl ?_
   show G _ _ _ _ [_,_,_,_,_,_,_,_,_,_,_,_,_,_,_,_,_,_,_,_,_,_,_,_,_,_] _
   refine hk _ _ ⟨O,?_,hs.cast ?_⟩<;>simp only [oT,lq,cq,Nat.reduceBEq,q6_,q7_]
  ·
   rintro D t w hD hp hcl ⟨O,ht,hs⟩ rest hk
   have hp:AllDone D []:=hp
   have q6_:=ny hcl 6 1 hD
   have q7_:=ny hcl 7 0 q6_
   simp only [hD,q6_,q7_,cq,oT] at ht hs
   subst ht
   refine Qab (v:=int .i64 x5) rfl rfl rfl ?_
   show G _ _ _ _ [_,_,_,_,_,_,_,_,_,_,_,_,_,_,_,_,_,_,_,_,_,_,_,_,_,_] _
   refine hk _ _ ⟨O,?_,hs.cast ?_⟩<;>simp only [oT,lq,cq,Nat.reduceBEq,q6_,q7_]
  ·
   rintro D t w hD hp hcl ⟨O,ht,hs⟩ rest hk
   have hp:AllDone D [4,5]:=hp
   obtain ⟨p4_,p5_,_⟩:=hp
   have q7_:=ny hcl 7 0 hD
   simp only [hD,p4_,p5_,q7_,cq,oT] at ht hs
   subst ht
   refine QbJ (κ:=(K.int .u16)) (m:=1) rfl (hs.rd hr1) rfl (fun _=>rfl) gd4.1 gd4.2 had5_ rfl rfl rfl rfl rfl ?_
   show G _ _ _ _ [_,_,_,_,_,_,_,_,_,_,_,_,_,_,_,_,_,_,_,_,_,_,_,_,_,_] _
   refine hk _ _ ⟨O,?_,hs.cast ?_⟩<;>simp only [oT,lq,cq,Nat.reduceBEq,p4_,p5_,q7_]
  ·
   rintro D t w hD hp hcl ⟨O,ht,hs⟩ rest hk
   have hp:AllDone D [6]:=hp
   obtain ⟨p6_,_⟩:=hp
   obtain ⟨p4_,p5_,_⟩:=(show D 6=true→AllDone D [4,5] from hcl 6 (by decide)) p6_
   simp only [hD,p4_,p5_,p6_,cq,oT] at ht hs
   subst ht
   refine Qaw rfl rfl (v:=int .u16 (rdL a3 x5 0)) rfl rfl (fun _=>rfl) (cellsAt_of (fkI .u16) 0 (hs.rd hr1) had5_ gd4.1 gd4.2) ?_
   show G _ _ _ _ [_,_,_,_,_,_,_,_,_,_,_,_,_,_,_,_,_,_,_,_,_,_,_,_,_,_] _
   refine hk _ _ ⟨O,?_,hs.cast ?_⟩<;>simp only [oT,lq,cq,Nat.reduceBEq,p4_,p5_,p6_]
  intro D t w rest hall hO1_ hI
  obtain ⟨O,ht,hs⟩:=hI
  have p0_:=hall 0 (by decide) rfl
  have p1_:=hall 1 (by decide) rfl
  have p2_:=hall 2 (by decide) rfl
  have p3_:=hall 3 (by decide) rfl
  have p4_:=hall 4 (by decide) rfl
  have p5_:=hall 5 (by decide) rfl
  have p6_:=hall 6 (by decide) rfl
  have p7_:=hall 7 (by decide) rfl
  simp only [p0_,p1_,p2_,p3_,p4_,p5_,p6_,p7_,cq,oT] at ht hs
  subst ht
  obtain ⟨rest,rfl,hO6_⟩:=ord_one (m:=255) hO1_ rfl 8 (m':=511) (by decide+kernel) rfl
  clear hO1_
  refine QaI (B:=(rdL a1 x5 0) !=(rdL a3 x5 0)) rfl rfl rfl ?_ ?_
  ·
   intro hb
   rw [if_neg (b_bne_t hb)] at H
   obtain rfl:=ord_end hO6_ rfl (by decide+kernel)
   refine Qac (Qaq rfl (Qaj (Qan [0] rfl ?_)))
   refine Qab (v:=bool false) rfl rfl rfl (Qac ?_)
   obtain rfl:=QsJ H
   subst Hx1_
   have H:=QsJ Hr1_
   subst H
   refine QaB Tryz.func48 (v:=bool false) (res1 rfl rfl) ?_
   have hs:St _ [] _:=St.take (Γ':=[]) hs
   exact ⟨_,rfl,rfl,hs⟩
  intro hb
  rw [if_pos (b_bne_f hb)] at H
  obtain rfl:=ord_end hO6_ rfl (by decide+kernel)
  refine Qac (Qas rfl (QaK ?_))
  refine Qa0 (Qan [0,1] rfl ?_)
  refine Qab (v:=int .i64 (i64w (x5+1))) rfl rfl rfl ?_
  show G _ _ _ _ [_,_,_,_,_,_,_,_,_,_,_,_,_,_,_,_,_,_,_,_,_,_,_,_,_,_] _
  refine Qab (v:=int .i64 (i64w (x5+1))) rfl rfl rfl (Qac ?_)
  obtain rfl:=QsJ H
  have hs:St _ [] _:=St.take (Γ':=[]) hs
  exact ih1_ _ _ ⟨i64w (x5+1),Hx1_,rfl,hs⟩
 intro hb
 rw [if_neg (b_dec_f hb)] at H
 refine Qac (Qaj (Qas rfl ?_))
 obtain rfl:=QsJ H
 subst Hx1_
 have hs:St _ [] _:=St.take (Γ':=[]) hs
 refine QbE rfl ?_
 exact ha1_ _ _ ⟨Hr1_,rfl,hs⟩
def Qb2.post (w0:World) (r:Bool) (v:Value) (w:World):Prop:=v=bool r∧St w0 [] w
theorem Qb2.calls {N:Nat} {a1:Qaf} {a4:Qaf} {v2:Value} {v5:Value} {w0:World} {r:Bool} (hr3:RdRow (K.int .u16) w0 v2 a1.Qal) (hr6:RdRow (K.int .u16) w0 v5 a4.Qal) (H:Qb2.f N a1 a4=some r):
 Calls Tryz.prog 15 #[agg (([int .i8 a1.Qad,int .i8 a1.Qag,v2]:List Value)).toArray,agg (([int .i8 a4.Qad,int .i8 a4.Qag,v5]:List Value)).toArray] w0 fun e w=>∃ v,e= .returned v∧Qb2.post w0 r v w:=by
 unfold Qb2.f at H
 have hs:St w0 [] w0:=St.refl w0
 refine calls_of_g (n:=22) Tryz.func15 rfl rfl ?_
 show G _ _ _ _ [_,_,_,_,_,_,_,_,_,_,_,_,_,_,_,_,_,_,_,_,_,_,_,_] _
 refine Qaj (Qan [0,1,2] rfl ?_)
 refine Qbw hs rfl rfl (cs:=(([int .i8 a1.Qad,int .i8 a1.Qag,v2]:List Value))) rfl rfl ?_
 intro b7 w hs
 show G _ _ _ _ [_,_,_,_,_,_,_,_,_,_,_,_,_,_,_,_,_,_,_,_,_,_,_,_] _
 refine Qbw hs rfl rfl (cs:=(([int .i8 a4.Qad,int .i8 a4.Qag,v5]:List Value))) rfl rfl ?_
 intro b9 w hs
 refine Qab (v:=bool false) rfl rfl rfl (Qac (Qaj (Qan [0,1,2,3,4,5,6,7,8,9,10,11,12,13,14,15,16,17,18,19] rfl ?_)))
 refine Qab (v:=pointer (some ⟨b7,0,none⟩)) rfl rfl rfl ?_
 show G _ _ _ _ [_,_,_,_,_,_,_,_,_,_,_,_,_,_,_,_,_,_,_,_,_,_,_,_] _
 refine Qaw rfl rfl (v:=int .i8 a1.Qad) rfl rfl (fun _=>rfl) (cells_load (hs.cells 1 rfl) 0 1 rfl) ?_
 refine Qab (v:=pointer (some ⟨b9,0,none⟩)) rfl rfl rfl ?_
 refine Qaw rfl rfl (v:=int .i8 a4.Qad) rfl rfl (fun _=>rfl) (cells_load (hs.cells 0 rfl) 0 1 rfl) ?_
 show G _ _ _ _ [_,_,_,_,_,_,_,_,_,_,_,_,_,_,_,_,_,_,_,_,_,_,_,_] _
 refine QaI (B:=a1.Qad==a4.Qad) rfl rfl rfl ?_ ?_
 ·
  intro hb
  rw [if_pos (b_beq_t hb)] at H
  refine Qab (v:=bool true) rfl rfl rfl ?_
  show G _ _ _ _ [_,_,_,_,_,_,_,_,_,_,_,_,_,_,_,_,_,_,_,_,_,_,_,_] _
  refine Qab (v:=pointer (some ⟨b7,1,none⟩)) rfl rfl rfl ?_
  refine Qaw rfl rfl (v:=int .i8 a1.Qag) rfl rfl (fun _=>rfl) (cells_load (hs.cells 1 rfl) 1 1 rfl) ?_
  refine Qab (v:=pointer (some ⟨b9,1,none⟩)) rfl rfl rfl ?_
  show G _ _ _ _ [_,_,_,_,_,_,_,_,_,_,_,_,_,_,_,_,_,_,_,_,_,_,_,_] _
  refine Qaw rfl rfl (v:=int .i8 a4.Qag) rfl rfl (fun _=>rfl) (cells_load (hs.cells 0 rfl) 1 1 rfl) ?_
  refine Qab (v:=bool (a1.Qag==a4.Qag)) rfl rfl rfl ?_
  refine QaI (B:=a1.Qag==a4.Qag) rfl rfl rfl ?_ ?_
  ·
   intro hb
   rw [if_pos (b_beq_t hb)] at H
   show G _ _ _ _ [_,_,_,_,_,_,_,_,_,_,_,_,_,_,_,_,_,_,_,_,_,_,_,_] _
   refine Qab (v:=bool true) rfl rfl rfl ?_
   refine Qab (v:=pointer (some ⟨b7,2,none⟩)) rfl rfl rfl ?_
   refine Qaw rfl rfl (v:=v2) rfl rfl (fun _=>rfl) (cells_load (hs.cells 1 rfl) 2 1 rfl) ?_
   show G _ _ _ _ [_,_,_,_,_,_,_,_,_,_,_,_,_,_,_,_,_,_,_,_,_,_,_,_] _
   refine Qab (v:=pointer (some ⟨b9,2,none⟩)) rfl rfl rfl ?_
   refine Qaw rfl rfl (v:=v5) rfl rfl (fun _=>rfl) (cells_load (hs.cells 0 rfl) 2 1 rfl) ?_
   obtain ⟨r11,Hr11,H⟩:=bind_get H
   refine Qaz (args:=[v2,v5]) rfl rfl (QaA rfl (callFunc_enter Tryz.func48 rfl rfl) rfl) (QaP.calls (a1:=a1.Qal) (a3:=a4.Qal) (hs.rd hr3) (hs.rd hr6) Hr11) ?_
   rintro _ w ⟨rfl,hs2⟩
   have hs:St _ [_,_] _:=hs.call hs2
   show G _ _ _ _ [_,_,_,_,_,_,_,_,_,_,_,_,_,_,_,_,_,_,_,_,_,_,_,_] _
   refine Qab (v:=bool r11) rfl rfl rfl ?_
   refine Qab (v:=bool r11) rfl rfl rfl (Qac ?_)
   obtain rfl:=QsJ H
   refine QaB Tryz.func15 (v:=bool r11) (res1 rfl rfl) ?_
   have hs:St _ [] _:=St.take (Γ':=[_,_]) hs
   exact ⟨_,rfl,rfl,hs⟩
  intro hb
  rw [if_neg (b_beq_f hb)] at H
  show G _ _ _ _ [_,_,_,_,_,_,_,_,_,_,_,_,_,_,_,_,_,_,_,_,_,_,_,_] _
  refine Qab (v:=bool false) rfl rfl rfl (Qae rfl rfl (Qae rfl rfl ?_))
  show G _ _ _ _ [_,_,_,_,_,_,_,_,_,_,_,_,_,_,_,_,_,_,_,_,_,_,_,_] _
  refine Qae rfl rfl (Qae rfl rfl (Qae rfl rfl ?_))
  show G _ _ _ _ [_,_,_,_,_,_,_,_,_,_,_,_,_,_,_,_,_,_,_,_,_,_,_,_] _
  refine Qab (v:=bool false) rfl rfl rfl ?_
  refine Qab (v:=bool false) rfl rfl rfl (Qac ?_)
  obtain rfl:=QsJ H
  refine QaB Tryz.func15 (v:=bool false) (res1 rfl rfl) ?_
  have hs:St _ [] _:=St.take (Γ':=[_,_]) hs
  exact ⟨_,rfl,rfl,hs⟩
 intro hb
 rw [if_neg (b_beq_f hb)] at H
 refine Qab (v:=bool false) rfl rfl rfl (Qae rfl rfl ?_)
 show G _ _ _ _ [_,_,_,_,_,_,_,_,_,_,_,_,_,_,_,_,_,_,_,_,_,_,_,_] _
 refine Qae rfl rfl (Qae rfl rfl (Qae rfl rfl ?_))
 show G _ _ _ _ [_,_,_,_,_,_,_,_,_,_,_,_,_,_,_,_,_,_,_,_,_,_,_,_] _
 refine Qae rfl rfl ?_
 refine Qab (v:=bool false) rfl rfl rfl ?_
 refine Qab (v:=bool false) rfl rfl rfl ?_
 show G _ _ _ _ [_,_,_,_,_,_,_,_,_,_,_,_,_,_,_,_,_,_,_,_,_,_,_,_] _
 refine Qae rfl rfl (Qae rfl rfl (Qae rfl rfl ?_))
 show G _ _ _ _ [_,_,_,_,_,_,_,_,_,_,_,_,_,_,_,_,_,_,_,_,_,_,_,_] _
 refine Qae rfl rfl (Qae rfl rfl ?_)
 refine Qab (v:=bool false) rfl rfl rfl ?_
 show G _ _ _ _ [_,_,_,_,_,_,_,_,_,_,_,_,_,_,_,_,_,_,_,_,_,_,_,_] _
 refine Qab (v:=bool false) rfl rfl rfl (Qac ?_)
 obtain rfl:=QsJ H
 refine QaB Tryz.func15 (v:=bool false) (res1 rfl rfl) ?_
 have hs:St _ [] _:=St.take (Γ':=[_,_]) hs
 exact ⟨_,rfl,rfl,hs⟩
end Go.Proofs.YtblbfnngmeoipaaGreatDoorX
