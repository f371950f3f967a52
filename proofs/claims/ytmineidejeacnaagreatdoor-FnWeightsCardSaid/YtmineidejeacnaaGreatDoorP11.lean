import Derived.Test.YtmineidejeacnaaGreatDoorP10
namespace Go.Proofs.YtmineidejeacnaaGreatDoorX
open Go Go.RowKit Go.Proofs
open Go.Value (int pointer bool agg slice string tuple)
set_option maxHeartbeats 8000000
set_option maxRecDepth 100000
set_option linter.unusedVariables false
set_option linter.unusedSimpArgs false
def Qau.post (w0:World) (r:((List Int)×Int)) (v:Value) (w:World):Prop:=∃ u1:Value,v=tuple #[u1,int .i64 r.2]∧St w0 [Row 49 (K.int .i8) u1 r.1] w
theorem Qau.calls {N:Nat} {a1:(List Int)} {a3:Int} {a4:Bool} {v2:Value} {w0:World} {r:((List Int)×Int)} (hr0:RdRow (K.int .i16) w0 v2 a1) (H:Qau.f N a1 a3 a4=some r):
 Calls Tryz.prog 9 #[v2,int .i64 a3,bool a4] w0 fun e w=>∃ v,e= .returned v∧Qau.post w0 r v w:=by
 unfold Qau.f at H
 have hs:St w0 [] w0:=St.refl w0
 refine calls_of_g (n:=96) Tryz.func9 rfl rfl ?_
 show G _ _ _ _ (_::_::_::_::_::_::_::_::_::_::_::_::_::_::_::_::_::_::_::_::_::_::_::_::_::_::_::_::_::_::_::_::_::_::_::_::_::_::_::_::_::_::_::_::_::_::_::_::_::_::_::_::_::_::_::_::_::_::_::_::_::_::_::_::_::_::_::_::_::_::_::_::_::_::_::_::_::_::_::_::_::_::_::_::_::_::_::_::_::_::_::_::_::_::_::_::_::_::_::[]) _
 refine Qad (Qag [0,1] rfl ?_)
 refine Qaa (v:=slice none 0 0) rfl rfl rfl (g_d rfl ?_)
 refine Qaa (v:=int .i64 0) rfl rfl rfl (g_d rfl ?_)
 try dsimp only [Qae,Qaf]
 refine Qac (Qad (Qad (Qag [0,1,2,3] rfl ?_)))
 refine Qaa (v:=v2) rfl rfl rfl (g_d rfl ?_)
 refine Qaa (v:=int .i64 a3) rfl rfl rfl (g_d rfl ?_)
 obtain ⟨r5,Hr5,H⟩:=bind_get H
 refine Qaw (args:=[v2,int .i64 a3]) rfl rfl (Qax rfl (callFunc_enter Tryz.func35 rfl rfl) rfl) (Qbr.calls (a1:=a1) (a3:=a3) (hs.rd hr0) Hr5) ?_
 rintro _ w ⟨rfl,hs2⟩
 have hs:St _ [] _:=hs.call hs2
 refine g_d rfl ?_
 refine Qaa (v:=int .i64 r5) rfl rfl rfl (g_d rfl ?_)
 try dsimp only [Qae,Qaf]
 refine Qac (Qad (Qag [0,1] rfl ?_))
 refine Qaa (v:=int .i64 r5) rfl rfl rfl (g_d rfl ?_)
 refine Qas (B:=r5 !=0) rfl rfl rfl ?_ ?_
 ·
  intro hb
  rw [if_neg (b_bne_t hb)] at H
  refine g_d rfl ?_
  try dsimp only [Qae,Qaf]
  refine Qac (Qai rfl (Qad (Qag [0,1,2,3] rfl ?_)))
  refine QbJ (κ:=(K.int .i8)) hs rfl rfl rfl rfl (fun _=>rfl) ?_
  intro v6 w hs
  refine g_d rfl ?_
  refine Qaa (v:=int .i64 r5) rfl rfl rfl (g_d rfl ?_)
  refine Qaa (v:=v6) rfl rfl rfl (g_d rfl ?_)
  try dsimp only [Qae,Qaf]
  refine Qaa (v:=int .i64 r5) rfl rfl rfl (g_d rfl (Qac ?_))
  obtain rfl:=QsJ H
  refine Qaq Tryz.func9 (v:=tuple #[v6,int .i64 r5]) (resN (l:=Tryz.f9.results.toList) (vs:=[v6,int .i64 r5]) rfl ⟨rfl,rfl,trivial⟩ (by simp)) ?_
  have hs:=hs.pull 0 rfl
  have hs:St _ [_] _:=St.take (Γ':=[]) hs
  exact ⟨_,rfl,v6,rfl,hs⟩
 intro hb
 rw [if_pos (b_bne_f hb)] at H
 refine g_d rfl (Qac (Qal rfl (Qay (Qad (Qag [0,1,2,3] rfl ?_)))))
 refine Qaa (v:=v2) rfl rfl rfl (g_d rfl ?_)
 refine Qaa (v:=bool a4) rfl rfl rfl (g_d rfl ?_)
 obtain ⟨r8,Hr8,H⟩:=bind_get H
 refine Qaw (args:=[v2,bool a4]) rfl rfl (Qax rfl (callFunc_enter Tryz.func36 rfl rfl) rfl) (Qaj.calls (a1:=a1) (a3:=a4) (hs.rd hr0) Hr8) ?_
 rintro v9 w ⟨_,ms10,rfl,hs2⟩
 have hs:St _ [_] _:=hs.call hs2
 refine g_d rfl ?_
 try dsimp only [Qae,Qaf]
 refine Qaa (v:=v9) rfl rfl rfl (g_d rfl (Qac (Qad (Qag [0,1,2] rfl ?_))))
 refine Qaa (v:=int .i64 a3) rfl rfl rfl (g_d rfl ?_)
 refine Qaa (v:=int .i64 (i64w (2000+a3))) rfl rfl rfl (g_d rfl ?_)
 try dsimp only [Qae,Qaf]
 refine Qaa (v:=int .i64 (i64w (2000+a3))) rfl rfl rfl (g_d rfl (Qac (Qad (Qad (Qag [0,1,2,3,4,5,6] rfl ?_)))))
 refine Qaa (v:=v9) rfl rfl rfl (g_d rfl ?_)
 obtain ⟨g1,H⟩:=ite_get H
 refine Qa6 fkHS zHS (hs.r2row 0 rfl) rfl (fun _=>rfl) g1.1 (hs.r2lt 0 rfl g1.2) rfl rfl rfl rfl rfl ?_
 intro p12 hp12 lp12 op12
 refine g_d rfl ?_
 try dsimp only [Qae,Qaf]
 refine QaA rfl rfl (v:=slice (rdL ms10 0 zHS).a (rdL ms10 0 zHS).n (rdL ms10 0 zHS).c) rfl rfl (fun _=>rfl) hp12 (g_d rfl ?_)
 refine Qaa (v:=int .i64 (i64w (2000+a3))) rfl rfl rfl (g_d rfl ?_)
 obtain ⟨g2,H⟩:=ite_get H
 refine Qa6 (fkI .i64) 0 (hs.r2rd 0 rfl g1.1 g1.2) rfl (fun _=>rfl) g2.1 g2.2 rfl rfl rfl rfl rfl ?_
 intro p13 hp13 lp13 op13
 refine g_d rfl ?_
 try dsimp only [Qae,Qaf]
 refine QaA rfl rfl (v:=int .i64 (rdL (rdL r8 0 []) (i64w (2000+a3)) 0)) rfl rfl (fun _=>rfl) hp13 (g_d rfl ?_)
 refine Qas (B:=decide ((rdL (rdL r8 0 []) (i64w (2000+a3)) 0)< 0)) rfl rfl rfl ?_ ?_
 ·
  intro hb
  rw [if_pos (b_dec_t hb)] at H
  refine g_d rfl ?_
  try dsimp only [Qae,Qaf]
  refine Qac (Qai rfl (Qad (Qag [0,1,2] rfl ?_)))
  refine QbJ (κ:=(K.int .i8)) hs rfl rfl rfl rfl (fun _=>rfl) ?_
  intro v14 w hs
  refine g_d rfl ?_
  refine Qaa (v:=v14) rfl rfl rfl (g_d rfl ?_)
  try dsimp only [Qae,Qaf]
  refine Qaa (v:=int .i64 6) rfl rfl rfl (g_d rfl (Qac ?_))
  obtain rfl:=QsJ H
  refine Qaq Tryz.func9 (v:=tuple #[v14,int .i64 6]) (resN (l:=Tryz.f9.results.toList) (vs:=[v14,int .i64 6]) rfl ⟨rfl,rfl,trivial⟩ (by simp)) ?_
  have hs:=hs.pull 0 rfl
  have hs:St _ [_] _:=St.take (Γ':=[_]) hs
  exact ⟨_,rfl,v14,rfl,hs⟩
 intro hb
 rw [if_neg (b_dec_f hb)] at H
 refine g_d rfl ?_
 try dsimp only [Qae,Qaf]
 refine Qac (Qal rfl (Qay (Qad (Qag [0,1] rfl ?_))))
 refine QbJ (κ:=(K.int .i8)) hs rfl rfl rfl rfl (fun _=>rfl) ?_
 intro v16 w hs
 refine g_d rfl ?_
 refine Qaa (v:=v16) rfl rfl rfl (g_d rfl ?_)
 try dsimp only [Qae,Qaf]
 refine Qac (Qad (Qad (Qag [0] rfl ?_)))
 refine Qaa (v:=int .i64 0) rfl rfl rfl (g_d rfl (Qac ?_))
 obtain ⟨o1_,Ho,Hr1_⟩:=bind_get H
 refine QaC (J:=fun t w=>∃ v41:Value,∃ x42:(List Int),Qau.a0 N x42=some r∧Fr t (fun O=>(oT O 0 (O 10::v41::O 12::O 13::O 14::O 15::O 16::O 17::O 18::O 19::oT O 2 (oT O 3 (oT O 4 (oT O 5 (oT O 6 (oT O 7 (oT O 8 (O 90::O 91::O 92::O 93::O 94::O 95::O 96::O 97::O 98::[])))))))):List Value))∧St w0 [Row 49 (K.int .i8) v41 x42] w) ?_ ?_
 ·
  rintro t w ⟨v41,x42,H,hf,hs⟩
  obtain ⟨O,rfl⟩:=hf.open
  try dsimp only [oT]
  unfold Qau.a0 at H
  refine Qad (Qag [0,1,2] rfl ?_)
  refine Qaa (v:=v41) rfl rfl rfl (g_d rfl ?_)
  refine Qaa (v:=v41) rfl rfl rfl (g_d rfl ?_)
  try dsimp only [Qae,Qaf]
  refine Qaa (v:=int .i64 0) rfl rfl rfl (g_d rfl (Qac ?_))
  obtain rfl:=QsJ H
  refine Qaq Tryz.func9 (v:=tuple #[v41,int .i64 0]) (resN (l:=Tryz.f9.results.toList) (vs:=[v41,int .i64 0]) rfl ⟨rfl,rfl,trivial⟩ (by simp)) ?_
  have hs:=hs.pull 0 rfl
  have hs:St _ [_] _:=St.take (Γ':=[]) hs
  exact ⟨_,rfl,v41,rfl,hs⟩
 intro ha1_
 have hs:=hs.pull 0 rfl
 have hs:=hs.pull 1 rfl
 have hs:St _ [_,_] _:=St.take (Γ':=[]) hs
 refine QaP (I:=fun n_ t w=>∃ x18:Int,∃ v20:Value,∃ x21:(List Int),∃ x22:Int,rounds (fun s=>Qau.b0 N a1 a4 r8 s.1 s.2.1 s.2.2) n_ (x18,x21,x22)=some o1_∧Fr t (fun O=>(v2::O 1::bool a4::O 3::O 4::O 5::O 6::O 7::O 8::v9::int .i64 x18::v20::int .i64 x22::O 13::O 14::O 15::O 16::O 17::O 18::O 19::oT O 2 (oT O 3 (oT O 4 (oT O 5 (oT O 6 (oT O 7 (oT O 8 (O 90::O 91::O 92::O 93::O 94::O 95::O 96::O 97::O 98::[]))))))):List Value))∧St w0 [Rows2 50 kHS (RowO 2 (K.int .i64)) v9 ms10 r8,Row 49 (K.int .i8) v20 x21] w) N ⟨i64w (2000+a3),v16,([]:List Int),0,Ho,rfl,hs⟩ ?_ ?_
 ·
  rintro _ _ ⟨x18,v20,x21,x22,h,_⟩
  exact rounds_zero h
 intro n_ ih1_
 rintro t w ⟨x18,v20,x21,x22,Ho,hf,hs⟩
 obtain ⟨O,rfl⟩:=hf.open
 try dsimp only [oT]
 obtain ⟨x43_,H,Hx1_⟩:=rounds_succ Ho
 have H:Qau.b0 N a1 a4 r8 x18 x21 x22=some x43_:=H
 unfold Qau.b0 at H
 refine Qad (Qad (Qag [0,1,2,3] rfl ?_))
 refine Qaa (v:=int .i64 x22) rfl rfl rfl (g_d rfl ?_)
 refine Qaa (v:=v2) rfl rfl rfl (g_d rfl ?_)
 refine Qba (hs.rd hr0) rfl rfl rfl rfl rfl (g_d rfl ?_)
 try dsimp only [Qae,Qaf]
 refine Qas (B:=decide (x22< (a1.length:Int))) rfl rfl rfl ?_ ?_
 ·
  intro hb
  rw [if_pos (b_dec_t hb)] at H
  refine g_d rfl ?_
  try dsimp only [Qae,Qaf]
  refine Qac (Qai rfl (Qay (Qad ?_)))
  refine Qbe (Qad (Qag [0,1,2] rfl ?_))
  refine Qaa (v:=bool a4) rfl rfl rfl (g_d rfl ?_)
  obtain ⟨r23,Hr23,H⟩:=bind_get H
  refine Qaw (args:=[bool a4]) rfl rfl (Qax rfl (callFunc_enter Tryz.func37 rfl rfl) rfl) (Qbs.calls (a1:=a4) Hr23) ?_
  rintro _ w ⟨rfl,hs2⟩
  have hs:St _ [_,_] _:=hs.call hs2
  refine g_d rfl ?_
  refine Qaa (v:=int .i64 r23) rfl rfl rfl (g_d rfl ?_)
  try dsimp only [Qae,Qaf]
  refine Qac ?_
  obtain ⟨o2_,Ho,Hr2_⟩:=bind_get H
  refine QaC (J:=fun t w=>∃ x37:Int,∃ v38:Value,∃ x39:(List Int),Qau.a2 N x22 x37 x39=some x43_∧Fr t (fun O=>(v2::O 1::bool a4::O 3::O 4::O 5::O 6::O 7::O 8::v9::int .i64 x37::v38::int .i64 x22::O 13::O 14::O 15::O 16::O 17::O 18::O 19::oT O 2 (oT O 3 (oT O 4 (oT O 5 (oT O 6 (oT O 7 (oT O 8 (O 90::O 91::O 92::O 93::O 94::O 95::O 96::O 97::O 98::[]))))))):List Value))∧St w0 [Rows2 50 kHS (RowO 2 (K.int .i64)) v9 ms10 r8,Row 49 (K.int .i8) v38 x39] w) ?_ ?_
  ·
   rintro t w ⟨x37,v38,x39,H,hf,hs⟩
   obtain ⟨O,rfl⟩:=hf.open
   try dsimp only [oT]
   unfold Qau.a2 at H
   refine QaH (Qag [0,1,2] rfl ?_)
   refine Qaa (v:=int .i64 x22) rfl rfl rfl (g_d rfl ?_)
   refine Qaa (v:=int .i64 (i64w (x22+1))) rfl rfl rfl (g_d rfl ?_)
   refine Qaa (v:=int .i64 (i64w (x22+1))) rfl rfl rfl (g_d rfl ?_)
   try dsimp only [Qae,Qaf]
   refine Qac ?_
   obtain rfl:=QsJ H
   have hs:=hs.pull 1 rfl
   have hs:=hs.pull 1 rfl
   have hs:St _ [_,_] _:=St.take (Γ':=[]) hs
   exact ih1_ _ _ ⟨x37,v38,x39,i64w (x22+1),Hx1_,rfl,hs⟩
  intro ha2_
  have hs:=hs.pull 1 rfl
  have hs:=hs.pull 1 rfl
  have hs:St _ [_,_] _:=St.take (Γ':=[]) hs
  refine QaP (I:=fun n_ t w=>∃ x24:Int,∃ v26:Value,∃ x27:(List Int),∃ x28:Int,rounds (fun s=>Qau.b2 N x22 a1 r8 s.1 s.2.1 s.2.2) n_ (x24,x27,x28)=some o2_∧Fr t (fun O=>(v2::O 1::bool a4::O 3::O 4::O 5::O 6::O 7::O 8::v9::int .i64 x24::v26::int .i64 x22::int .i64 x28::O 14::O 15::O 16::O 17::O 18::O 19::oT O 2 (oT O 3 (oT O 4 (oT O 5 (oT O 6 (oT O 7 (oT O 8 (O 90::O 91::O 92::O 93::O 94::O 95::O 96::O 97::O 98::[]))))))):List Value))∧St w0 [Rows2 50 kHS (RowO 2 (K.int .i64)) v9 ms10 r8,Row 49 (K.int .i8) v26 x27] w) N ⟨x18,v20,x21,r23,Ho,rfl,hs⟩ ?_ ?_
  ·
   rintro _ _ ⟨x24,v26,x27,x28,h,_⟩
   exact rounds_zero h
  intro n_ ih2_
  rintro t w ⟨x24,v26,x27,x28,Ho,hf,hs⟩
  obtain ⟨O,rfl⟩:=hf.open
  try dsimp only [oT]
  obtain ⟨x42_,H,Hx2_⟩:=rounds_succ Ho
  have H:Qau.b2 N x22 a1 r8 x24 x27 x28=some x42_:=H
  unfold Qau.b2 at H
  refine Qad (Qad (Qag [0,1] rfl ?_))
  refine Qaa (v:=int .i64 x28) rfl rfl rfl (g_d rfl ?_)
  refine Qas (B:=decide (x28≤1)) rfl rfl rfl ?_ ?_
  ·
   intro hb
   rw [if_pos (b_dec_t hb)] at H
   refine g_d rfl ?_
   try dsimp only [Qae,Qaf]
   refine Qac (Qai rfl (Qay (Qad ?_)))
   refine QaC (J:=(fun t w=>Qau.j4 N x24 x27 x28=some x42_∧Fr t (fun O=>(v2::O 1::bool a4::O 3::O 4::O 5::O 6::O 7::O 8::v9::int .i64 x24::v26::int .i64 x22::int .i64 x28::O 14::O 15::O 16::O 17::O 18::O 19::oT O 2 (oT O 3 (oT O 4 (oT O 5 (oT O 6 (oT O 7 (oT O 8 (O 90::O 91::O 92::O 93::O 94::O 95::O 96::O 97::O 98::[]))))))):List Value))∧St w0 [Rows2 50 kHS (RowO 2 (K.int .i64)) v9 ms10 r8,Row 49 (K.int .i8) v26 x27] w)) ?_ ?_
   ·
    rintro t w ⟨H,hf,hs⟩
    obtain ⟨O,rfl⟩:=hf.open
    try dsimp only [oT]
    unfold Qau.j4 at H
    refine Qag [0,1,2] rfl ?_
    refine Qaa (v:=int .i64 x28) rfl rfl rfl (g_d rfl ?_)
    refine Qaa (v:=int .i64 (i64w (x28+1))) rfl rfl rfl (g_d rfl ?_)
    try dsimp only [Qae,Qaf]
    refine Qaa (v:=int .i64 (i64w (x28+1))) rfl rfl rfl (g_d rfl (Qac ?_))
    obtain rfl:=QsJ H
    have hs:=hs.pull 1 rfl
    have hs:=hs.pull 1 rfl
    have hs:St _ [_,_] _:=St.take (Γ':=[]) hs
    exact ih2_ _ _ ⟨x24,v26,x27,i64w (x28+1),Hx2_,rfl,hs⟩
   intro ha
   refine Qad (Qag [0,1,2,3,4,5,6,7,8,9] rfl ?_)
   refine Qaa (v:=int .i64 x24) rfl rfl rfl (g_d rfl ?_)
   refine Qaa (v:=int .i64 x28) rfl rfl rfl (g_d rfl ?_)
   refine Qaa (v:=v2) rfl rfl rfl (g_d rfl ?_)
   refine Qaa (v:=int .i64 x22) rfl rfl rfl (g_d rfl ?_)
   obtain ⟨g3,H⟩:=ite_get H
   refine Qa6 (fkI .i16) 0 (hs.rd hr0) rfl (fun _=>rfl) g3.1 g3.2 rfl rfl rfl rfl rfl ?_
   intro p29 hp29 lp29 op29
   refine g_d rfl ?_
   refine QaA rfl rfl (v:=int .i16 (rdL a1 x22 0)) rfl rfl (fun _=>rfl) hp29 (g_d rfl ?_)
   try dsimp only [Qae,Qaf]
   refine Qaa (v:=int .i64 (i64w (rdL a1 x22 0))) rfl rfl rfl (g_d rfl ?_)
   refine Qaa (v:=int .i64 (i64w (x28*(i64w (rdL a1 x22 0))))) rfl rfl rfl (g_d rfl ?_)
   refine Qaa (v:=int .i64 (i64w (x24 - (i64w (x28*(i64w (rdL a1 x22 0))))))) rfl rfl rfl (g_d rfl ?_)
   try dsimp only [Qae,Qaf]
   refine Qaa (v:=int .i64 (i64w (x24 - (i64w (x28*(i64w (rdL a1 x22 0))))))) rfl rfl rfl (g_d rfl (Qac (Qad ?_)))
   refine QbP (n:=35) rfl [0,1,2,3,4,5,6,7,8,9,10,11,12,13,14,15,16,17,18,19,20,21,22,23,24,25,26,27,28,29,30,31,32,33,34] [0,1,2,3,4,5,6,7,8,9,10,11,12,13,14,15,16,17,18,19,20,21,22,23,24,25,26,27,28,29,30,31,32,33,34] rfl rfl ?_
   intro rest w hh hbw hO
   have hs:=hs.samew hh hbw
   try dsimp only [Qae,Qaf]
   obtain ⟨rest,rfl,hO4_⟩:=ord_one (m:=0) hO rfl 0 (m':=1) (by decide+kernel) rfl
   clear hO
   refine Qaa (v:=int .i64 (i64w (x24 - (i64w (x28*(i64w (rdL a1 x22 0))))))) rfl rfl rfl (g_d rfl ?_)
   obtain ⟨rest,rfl,hO5_⟩:=ord_one (m:=1) hO4_ rfl 1 (m':=3) (by decide+kernel) rfl
   clear hO4_
   obtain ⟨r30,Hr30,H⟩:=bind_get H
   refine Qaw (args:=[int .i64 (i64w (x24 - (i64w (x28*(i64w (rdL a1 x22 0)))))),int .i64 0,int .i64 4000]) rfl rfl (Qax rfl (callFunc_enter Tryz.func38 rfl rfl) rfl) (Qbg.calls (a1:=i64w (x24 - (i64w (x28*(i64w (rdL a1 x22 0)))))) (a2:=0) (a3:=4000) Hr30) ?_
   rintro _ w ⟨rfl,hs2⟩
   have hs:St _ [_,_] _:=hs.call hs2
   cases r30 with
   |true=>
    rw [if_pos rfl] at H
    refine g_d rfl ?_
    obtain ⟨rest,rfl,hO6_⟩:=ord_one (m:=3) hO5_ rfl 2 (m':=7) (by decide+kernel) rfl
    clear hO5_
    refine Qaa (v:=bool true) rfl rfl rfl (g_d rfl ?_)
    obtain ⟨gd8,H⟩:=ite_get H
    obtain ⟨ad9_,ad9_N,ad9_C,had9_⟩:=sl_at (hs.r2row 0 rfl) gd8.1 (hs.r2lt 0 rfl gd8.2)
    refine Qbz ?_
    intro T hT
    refine QbA (m0:=7) hO6_ rfl 511 [3,4,5,6,7,8] [0,1,3,7,7,23,63,127,7,511,1023,2047,4095,8191,16383,16383,49151,131071,262143,16383,1048575,2097151,16383,16383,12599295,33554431,16383,16383,201342975,469778431,16383,2080391167,4227874815,8589934591,17179869183] (by decide+kernel) (fun D t w=>∃ O:Nat→Value,t=(v2::O 1::bool a4::O 3::O 4::O 5::O 6::O 7::O 8::v9::int .i64 x24::v26::int .i64 x22::int .i64 x28::int .i64 (i64w (x24 - (i64w (x28*(i64w (rdL a1 x22 0))))))::O 15::O 16::O 17::O 18::O 19::oT O 2 (oT O 3 (O 40::O 41::O 42::O 43::int .i64 x28::bool true::O 46::O 47::int .i64 x24::int .i64 x28::v2::int .i64 x22::pointer (some p29)::int .i16 (rdL a1 x22 0)::int .i64 (i64w (rdL a1 x22 0))::int .i64 (i64w (x28*(i64w (rdL a1 x22 0))))::int .i64 (i64w (x24 - (i64w (x28*(i64w (rdL a1 x22 0))))))::int .i64 (i64w (x24 - (i64w (x28*(i64w (rdL a1 x22 0))))))::bool true::bool true::cnd (D 3) v9 (O 60)::cnd (D 4) (int .i64 x22) (O 61)::cnd (D 5) (int .i64 (i64w (x22+1))) (O 62)::cnd (D 6) (pointer (some (ad9_.add ((i64w (x22+1)).toNat*1)))) (O 63)::cnd (D 7) (slice (rdL ms10 (i64w (x22+1)) zHS).a (rdL ms10 (i64w (x22+1)) zHS).n (rdL ms10 (i64w (x22+1)) zHS).c) (O 64)::cnd (D 8) (int .i64 (i64w (x24 - (i64w (x28*(i64w (rdL a1 x22 0))))))) (O 65)::O 66::O 67::O 68::O 69::oT O 7 (oT O 8 (O 90::O 91::O 92::O 93::O 94::O 95::O 96::O 97::O 98::[])))))∧St w0 [Rows2 50 kHS (RowO 2 (K.int .i64)) v9 ms10 r8,Row 49 (K.int .i8) v26 x27] w) ?_ ⟨?_,⟨?_,⟨?_,⟨?_,⟨?_,⟨?_,trivial⟩⟩⟩⟩⟩⟩ ?_
    ·exact ⟨fun i=>T.getD i undef,(by subst hT;rfl),hs⟩
    ·
     rintro D t w hD hp hcl ⟨O,ht,hs⟩ rest hk
     have hp:AllDone D [2]:=hp
     obtain ⟨p2_,_⟩:=hp
     have q6_:=ny hcl 6 0 hD
     have q7_:=ny hcl 7 0 q6_
     simp only [hD,q6_,q7_,cq,oT] at ht hs
     subst ht
     refine Qaa (v:=v9) rfl rfl rfl (g_d rfl ?_)
     try dsimp only [Qae,Qaf]
     refine hk _ _ ⟨O,?_,hs.cast ?_⟩<;>simp only [oT,lq,cq,Nat.reduceBEq,q6_,q7_]
    ·
     rintro D t w hD hp hcl ⟨O,ht,hs⟩ rest hk
     have hp:AllDone D [2]:=hp
     obtain ⟨p2_,_⟩:=hp
     have q5_:=ny hcl 5 0 hD
     have q6_:=ny hcl 6 1 q5_
     have q7_:=ny hcl 7 0 q6_
     simp only [hD,q5_,q6_,q7_,cq,oT] at ht hs
     subst ht
     refine Qaa (v:=int .i64 x22) rfl rfl rfl (g_d rfl ?_)
     try dsimp only [Qae,Qaf]
     refine hk _ _ ⟨O,?_,hs.cast ?_⟩<;>simp only [oT,lq,cq,Nat.reduceBEq,q5_,q6_,q7_]
    ·
     rintro D t w hD hp hcl ⟨O,ht,hs⟩ rest hk
     have hp:AllDone D [4,2]:=hp
     obtain ⟨p4_,p2_,_⟩:=hp
     have q6_:=ny hcl 6 1 hD
     have q7_:=ny hcl 7 0 q6_
     simp only [hD,p4_,q6_,q7_,cq,oT] at ht hs
     subst ht
     refine Qaa (v:=int .i64 (i64w (x22+1))) rfl rfl rfl (g_d rfl ?_)
     try dsimp only [Qae,Qaf]
     refine hk _ _ ⟨O,?_,hs.cast ?_⟩<;>simp only [oT,lq,cq,Nat.reduceBEq,p4_,q6_,q7_]
    ·
     rintro D t w hD hp hcl ⟨O,ht,hs⟩ rest hk
     have hp:AllDone D [3,5,2]:=hp
     obtain ⟨p3_,p5_,p2_,_⟩:=hp
     obtain ⟨p4_,_,_⟩:=(show D 5=true→AllDone D [4,2] from hcl 5 (by decide)) p5_
     have q7_:=ny hcl 7 0 hD
     simp only [hD,p3_,p4_,p5_,q7_,cq,oT] at ht hs
     subst ht
     refine QbG (κ:=kHS) (m:=1) rfl (hs.r2row 0 rfl) rfl (fun _=>rfl) gd8.1 (hs.r2lt 0 rfl gd8.2) had9_ rfl rfl rfl rfl rfl (g_d rfl ?_)
     try dsimp only [Qae,Qaf]
     refine hk _ _ ⟨O,?_,hs.cast ?_⟩<;>simp only [oT,lq,cq,Nat.reduceBEq,p3_,p4_,p5_,q7_]
    ·
     rintro D t w hD hp hcl ⟨O,ht,hs⟩ rest hk
     have hp:AllDone D [6,2]:=hp
     obtain ⟨p6_,p2_,_⟩:=hp
     obtain ⟨p3_,p5_,_,_⟩:=(show D 6=true→AllDone D [3,5,2] from hcl 6 (by decide)) p6_
     obtain ⟨p4_,_,_⟩:=(show D 5=true→AllDone D [4,2] from hcl 5 (by decide)) p5_
     simp only [hD,p3_,p4_,p5_,p6_,cq,oT] at ht hs
     subst ht
     refine QaA rfl rfl (v:=slice (rdL ms10 (i64w (x22+1)) zHS).a (rdL ms10 (i64w (x22+1)) zHS).n (rdL ms10 (i64w (x22+1)) zHS).c) rfl rfl (fun _=>rfl) (cellsAt_of fkHS zHS (hs.r2row 0 rfl) had9_ gd8.1 (hs.r2lt 0 rfl gd8.2)) (g_d rfl ?_)
     try dsimp only [Qae,Qaf]
     refine hk _ _ ⟨O,?_,hs.cast ?_⟩<;>simp only [oT,lq,cq,Nat.reduceBEq,p3_,p4_,p5_,p6_]
    ·
     rintro D t w hD hp hcl ⟨O,ht,hs⟩ rest hk
     have hp:AllDone D [2]:=hp
     obtain ⟨p2_,_⟩:=hp
     simp only [hD,cq,oT] at ht hs
     subst ht
     refine Qaa (v:=int .i64 (i64w (x24 - (i64w (x28*(i64w (rdL a1 x22 0))))))) rfl rfl rfl (g_d rfl ?_)
     try dsimp only [Qae,Qaf]
     refine hk _ _ ⟨O,?_,hs.cast ?_⟩<;>simp only [oT,lq,cq,Nat.reduceBEq]
    intro D t w rest hall hO7_ hI
    obtain ⟨O,ht,hs⟩:=hI
    have p3_:=hall 3 (by decide) rfl
    have p4_:=hall 4 (by decide) rfl
    have p5_:=hall 5 (by decide) rfl
    have p6_:=hall 6 (by decide) rfl
    have p7_:=hall 7 (by decide) rfl
    have p8_:=hall 8 (by decide) rfl
    simp only [p3_,p4_,p5_,p6_,p7_,p8_,cq,oT] at ht hs
    subst ht
    obtain ⟨rest,rfl,hO10_⟩:=ord_one (m:=511) hO7_ rfl 9 (m':=1023) (by decide+kernel) rfl
    clear hO7_
    obtain ⟨g11,H⟩:=ite_get H
    refine Qa6 (fkI .i64) 0 (hs.r2rd 0 rfl gd8.1 gd8.2) rfl (fun _=>rfl) g11.1 g11.2 rfl rfl rfl rfl rfl ?_
    intro p31 hp31 lp31 op31
    refine g_d rfl ?_
    try dsimp only [Qae,Qaf]
    obtain ⟨rest,rfl,hO12_⟩:=ord_one (m:=1023) hO10_ rfl 10 (m':=2047) (by decide+kernel) rfl
    clear hO10_
    refine QaA rfl rfl (v:=int .i64 (rdL (rdL r8 (i64w (x22+1)) []) (i64w (x24 - (i64w (x28*(i64w (rdL a1 x22 0)))))) 0)) rfl rfl (fun _=>rfl) hp31 (g_d rfl ?_)
    obtain ⟨rest,rfl,hO13_⟩:=ord_one (m:=2047) hO12_ rfl 11 (m':=4095) (by decide+kernel) rfl
    clear hO12_
    refine Qaa (v:=bool (decide ((rdL (rdL r8 (i64w (x22+1)) []) (i64w (x24 - (i64w (x28*(i64w (rdL a1 x22 0)))))) 0)≥0))) rfl rfl rfl (g_d rfl ?_)
    try dsimp only [Qae,Qaf]
    obtain ⟨rest,rfl,hO14_⟩:=ord_one (m:=4095) hO13_ rfl 12 (m':=8191) (by decide+kernel) rfl
    clear hO13_
    refine Qas (B:=decide ((rdL (rdL r8 (i64w (x22+1)) []) (i64w (x24 - (i64w (x28*(i64w (rdL a1 x22 0)))))) 0)≥0)) rfl rfl rfl ?_ ?_
    ·
     intro hb
     rw [if_pos (b_dec_t hb)] at H
     refine g_d rfl ?_
     try dsimp only [Qae,Qaf]
     obtain ⟨rest,rfl,hO15_⟩:=ord_one (m:=8191) hO14_ rfl 13 (m':=16383) (by decide+kernel) rfl
     clear hO14_
     refine Qaa (v:=bool true) rfl rfl rfl (g_d rfl ?_)
     obtain ⟨gd17,H⟩:=ite_get H
     obtain ⟨ad18_,ad18_N,ad18_C,had18_⟩:=sl_at (hs.r2row 0 rfl) gd17.1 (hs.r2lt 0 rfl gd17.2)
     obtain ⟨gd19,H⟩:=ite_get H
     obtain ⟨ad20_,ad20_N,ad20_C,had20_⟩:=sl_at (hs.r2rd 0 rfl gd17.1 gd17.2) gd19.1 gd19.2
     obtain ⟨gd21,H⟩:=ite_get H
     obtain ⟨ad22_,ad22_N,ad22_C,had22_⟩:=sl_at (hs.r2row 0 rfl) gd21.1 (hs.r2lt 0 rfl gd21.2)
     obtain ⟨gd23,H⟩:=ite_get H
     obtain ⟨ad24_,ad24_N,ad24_C,had24_⟩:=sl_at (hs.r2rd 0 rfl gd21.1 gd21.2) gd23.1 gd23.2
     refine Qbz ?_
     intro T hT
     refine QbA (m0:=16383) hO15_ rfl 8589934591 [14,15,16,17,18,19,20,21,22,23,24,25,26,27,28,29,30,31,32] [0,1,3,7,7,23,63,127,7,511,1023,2047,4095,8191,16383,16383,49151,131071,262143,16383,1048575,2097151,16383,16383,12599295,33554431,16383,16383,201342975,469778431,16383,2080391167,4227874815,8589934591,17179869183] (by decide+kernel) (fun D t w=>∃ O:Nat→Value,t=(v2::O 1::bool a4::O 3::O 4::O 5::O 6::O 7::O 8::v9::int .i64 x24::v26::int .i64 x22::int .i64 x28::int .i64 (i64w (x24 - (i64w (x28*(i64w (rdL a1 x22 0))))))::O 15::O 16::O 17::O 18::O 19::oT O 2 (oT O 3 (O 40::O 41::O 42::O 43::int .i64 x28::bool true::O 46::O 47::int .i64 x24::int .i64 x28::v2::int .i64 x22::pointer (some p29)::int .i16 (rdL a1 x22 0)::int .i64 (i64w (rdL a1 x22 0))::int .i64 (i64w (x28*(i64w (rdL a1 x22 0))))::int .i64 (i64w (x24 - (i64w (x28*(i64w (rdL a1 x22 0))))))::int .i64 (i64w (x24 - (i64w (x28*(i64w (rdL a1 x22 0))))))::bool true::bool true::v9::int .i64 x22::int .i64 (i64w (x22+1))::pointer (some (ad9_.add ((i64w (x22+1)).toNat*1)))::slice (rdL ms10 (i64w (x22+1)) zHS).a (rdL ms10 (i64w (x22+1)) zHS).n (rdL ms10 (i64w (x22+1)) zHS).c::int .i64 (i64w (x24 - (i64w (x28*(i64w (rdL a1 x22 0))))))::pointer (some p31)::int .i64 (rdL (rdL r8 (i64w (x22+1)) []) (i64w (x24 - (i64w (x28*(i64w (rdL a1 x22 0)))))) 0)::bool (decide ((rdL (rdL r8 (i64w (x22+1)) []) (i64w (x24 - (i64w (x28*(i64w (rdL a1 x22 0)))))) 0)≥0))::bool true::bool true::cnd (D 14) v9 (O 71)::cnd (D 15) (int .i64 x22) (O 72)::cnd (D 16) (int .i64 (i64w (x22+1))) (O 73)::cnd (D 17) (pointer (some (ad18_.add ((i64w (x22+1)).toNat*1)))) (O 74)::cnd (D 18) (slice (rdL ms10 (i64w (x22+1)) zHS).a (rdL ms10 (i64w (x22+1)) zHS).n (rdL ms10 (i64w (x22+1)) zHS).c) (O 75)::cnd (D 19) (int .i64 (i64w (x24 - (i64w (x28*(i64w (rdL a1 x22 0))))))) (O 76)::cnd (D 20) (pointer (some (ad20_.add ((i64w (x24 - (i64w (x28*(i64w (rdL a1 x22 0)))))).toNat*1)))) (O 77)::cnd (D 21) (int .i64 (rdL (rdL r8 (i64w (x22+1)) []) (i64w (x24 - (i64w (x28*(i64w (rdL a1 x22 0)))))) 0)) (O 78)::cnd (D 22) (int .i64 x28) (O 79)::cnd (D 23) (int .i64 x28) (O 80)::cnd (D 24) (int .i64 (i64w (x28*x28))) (O 81)::cnd (D 25) (int .i64 (i64w ((rdL (rdL r8 (i64w (x22+1)) []) (i64w (x24 - (i64w (x28*(i64w (rdL a1 x22 0)))))) 0)+(i64w (x28*x28))))) (O 82)::cnd (D 26) v9 (O 83)::cnd (D 27) (int .i64 x22) (O 84)::cnd (D 28) (pointer (some (ad22_.add (x22.toNat*1)))) (O 85)::cnd (D 29) (slice (rdL ms10 x22 zHS).a (rdL ms10 x22 zHS).n (rdL ms10 x22 zHS).c) (O 86)::cnd (D 30) (int .i64 x24) (O 87)::cnd (D 31) (pointer (some (ad24_.add (x24.toNat*1)))) (O 88)::cnd (D 32) (int .i64 (rdL (rdL r8 x22 []) x24 0)) (O 89)::O 90::O 91::O 92::O 93::O 94::O 95::O 96::O 97::O 98::[])))∧St w0 [Rows2 50 kHS (RowO 2 (K.int .i64)) v9 ms10 r8,Row 49 (K.int .i8) v26 x27] w) ?_ ⟨?_,⟨?_,⟨?_,⟨?_,⟨?_,⟨?_,⟨?_,⟨?_,⟨?_,⟨?_,⟨?_,⟨?_,⟨?_,⟨?_,⟨?_,⟨?_,⟨?_,⟨?_,⟨?_,trivial⟩⟩⟩⟩⟩⟩⟩⟩⟩⟩⟩⟩⟩⟩⟩⟩⟩⟩⟩ ?_
     ·exact ⟨fun i=>T.getD i undef,(by subst hT;rfl),hs⟩
     ·
      rintro D t w hD hp hcl ⟨O,ht,hs⟩ rest hk
      have hp:AllDone D [13]:=hp
      obtain ⟨p13_,_⟩:=hp
      have q17_:=ny hcl 17 0 hD
      have q18_:=ny hcl 18 0 q17_
      have q20_:=ny hcl 20 0 q18_
      have q21_:=ny hcl 21 0 q20_
      have q25_:=ny hcl 25 0 q21_
      simp only [hD,q17_,q18_,q20_,q21_,q25_,cq,oT] at ht hs
      subst ht
      refine Qaa (v:=v9) rfl rfl rfl (g_d rfl ?_)
      try dsimp only [Qae,Qaf]
      refine hk _ _ ⟨O,?_,hs.cast ?_⟩<;>simp only [oT,lq,cq,Nat.reduceBEq,q17_,q18_,q20_,q21_,q25_]
     ·
      rintro D t w hD hp hcl ⟨O,ht,hs⟩ rest hk
      have hp:AllDone D [13]:=hp
      obtain ⟨p13_,_⟩:=hp
      have q16_:=ny hcl 16 0 hD
      have q17_:=ny hcl 17 1 q16_
      have q18_:=ny hcl 18 0 q17_
      have q20_:=ny hcl 20 0 q18_
      have q21_:=ny hcl 21 0 q20_
      have q25_:=ny hcl 25 0 q21_
      simp only [hD,q16_,q17_,q18_,q20_,q21_,q25_,cq,oT] at ht hs
      subst ht
      refine Qaa (v:=int .i64 x22) rfl rfl rfl (g_d rfl ?_)
      try dsimp only [Qae,Qaf]
      refine hk _ _ ⟨O,?_,hs.cast ?_⟩<;>simp only [oT,lq,cq,Nat.reduceBEq,q16_,q17_,q18_,q20_,q21_,q25_]
     ·
      rintro D t w hD hp hcl ⟨O,ht,hs⟩ rest hk
      have hp:AllDone D [15,13]:=hp
      obtain ⟨p15_,p13_,_⟩:=hp
      have q17_:=ny hcl 17 1 hD
      have q18_:=ny hcl 18 0 q17_
      have q20_:=ny hcl 20 0 q18_
      have q21_:=ny hcl 21 0 q20_
      have q25_:=ny hcl 25 0 q21_
      simp only [hD,p15_,q17_,q18_,q20_,q21_,q25_,cq,oT] at ht hs
      subst ht
      refine Qaa (v:=int .i64 (i64w (x22+1))) rfl rfl rfl (g_d rfl ?_)
      try dsimp only [Qae,Qaf]
      refine hk _ _ ⟨O,?_,hs.cast ?_⟩<;>simp only [oT,lq,cq,Nat.reduceBEq,p15_,q17_,q18_,q20_,q21_,q25_]
     ·
      rintro D t w hD hp hcl ⟨O,ht,hs⟩ rest hk
      have hp:AllDone D [14,16,13]:=hp
      obtain ⟨p14_,p16_,p13_,_⟩:=hp
      obtain ⟨p15_,_,_⟩:=(show D 16=true→AllDone D [15,13] from hcl 16 (by decide)) p16_
      have q18_:=ny hcl 18 0 hD
      have q20_:=ny hcl 20 0 q18_
      have q21_:=ny hcl 21 0 q20_
      have q25_:=ny hcl 25 0 q21_
      simp only [hD,p14_,p15_,p16_,q18_,q20_,q21_,q25_,cq,oT] at ht hs
      subst ht
      refine QbG (κ:=kHS) (m:=1) rfl (hs.r2row 0 rfl) rfl (fun _=>rfl) gd17.1 (hs.r2lt 0 rfl gd17.2) had18_ rfl rfl rfl rfl rfl (g_d rfl ?_)
      try dsimp only [Qae,Qaf]
      refine hk _ _ ⟨O,?_,hs.cast ?_⟩<;>simp only [oT,lq,cq,Nat.reduceBEq,p14_,p15_,p16_,q18_,q20_,q21_,q25_]
     ·
      rintro D t w hD hp hcl ⟨O,ht,hs⟩ rest hk
      have hp:AllDone D [17,13]:=hp
      obtain ⟨p17_,p13_,_⟩:=hp
      obtain ⟨p14_,p16_,_,_⟩:=(show D 17=true→AllDone D [14,16,13] from hcl 17 (by decide)) p17_
      obtain ⟨p15_,_,_⟩:=(show D 16=true→AllDone D [15,13] from hcl 16 (by decide)) p16_
      have q20_:=ny hcl 20 0 hD
      have q21_:=ny hcl 21 0 q20_
      have q25_:=ny hcl 25 0 q21_
      simp only [hD,p14_,p15_,p16_,p17_,q20_,q21_,q25_,cq,oT] at ht hs
      subst ht
      refine QaA rfl rfl (v:=slice (rdL ms10 (i64w (x22+1)) zHS).a (rdL ms10 (i64w (x22+1)) zHS).n (rdL ms10 (i64w (x22+1)) zHS).c) rfl rfl (fun _=>rfl) (cellsAt_of fkHS zHS (hs.r2row 0 rfl) had18_ gd17.1 (hs.r2lt 0 rfl gd17.2)) (g_d rfl ?_)
      try dsimp only [Qae,Qaf]
      refine hk _ _ ⟨O,?_,hs.cast ?_⟩<;>simp only [oT,lq,cq,Nat.reduceBEq,p14_,p15_,p16_,p17_,q20_,q21_,q25_]
     ·
      rintro D t w hD hp hcl ⟨O,ht,hs⟩ rest hk
      have hp:AllDone D [13]:=hp
      obtain ⟨p13_,_⟩:=hp
      have q20_:=ny hcl 20 1 hD
      have q21_:=ny hcl 21 0 q20_
      have q25_:=ny hcl 25 0 q21_
      simp only [hD,q20_,q21_,q25_,cq,oT] at ht hs
      subst ht
      refine Qaa (v:=int .i64 (i64w (x24 - (i64w (x28*(i64w (rdL a1 x22 0))))))) rfl rfl rfl (g_d rfl ?_)
      try dsimp only [Qae,Qaf]
      refine hk _ _ ⟨O,?_,hs.cast ?_⟩<;>simp only [oT,lq,cq,Nat.reduceBEq,q20_,q21_,q25_]
     ·
      rintro D t w hD hp hcl ⟨O,ht,hs⟩ rest hk
      have hp:AllDone D [18,19,13]:=hp
      obtain ⟨p18_,p19_,p13_,_⟩:=hp
      obtain ⟨p17_,_,_⟩:=(show D 18=true→AllDone D [17,13] from hcl 18 (by decide)) p18_
      obtain ⟨p14_,p16_,_,_⟩:=(show D 17=true→AllDone D [14,16,13] from hcl 17 (by decide)) p17_
      obtain ⟨p15_,_,_⟩:=(show D 16=true→AllDone D [15,13] from hcl 16 (by decide)) p16_
      have q21_:=ny hcl 21 0 hD
      have q25_:=ny hcl 25 0 q21_
      simp only [hD,p14_,p15_,p16_,p17_,p18_,p19_,q21_,q25_,cq,oT] at ht hs
      subst ht
      refine QbG (κ:=(K.int .i64)) (m:=1) rfl (hs.r2rd 0 rfl gd17.1 gd17.2) rfl (fun _=>rfl) gd19.1 gd19.2 had20_ rfl rfl rfl rfl rfl (g_d rfl ?_)
      try dsimp only [Qae,Qaf]
      refine hk _ _ ⟨O,?_,hs.cast ?_⟩<;>simp only [oT,lq,cq,Nat.reduceBEq,p14_,p15_,p16_,p17_,p18_,p19_,q21_,q25_]
     ·
      rintro D t w hD hp hcl ⟨O,ht,hs⟩ rest hk
      have hp:AllDone D [20,13]:=hp
      obtain ⟨p20_,p13_,_⟩:=hp
      obtain ⟨p18_,p19_,_,_⟩:=(show D 20=true→AllDone D [18,19,13] from hcl 20 (by decide)) p20_
      obtain ⟨p17_,_,_⟩:=(show D 18=true→AllDone D [17,13] from hcl 18 (by decide)) p18_
      obtain ⟨p14_,p16_,_,_⟩:=(show D 17=true→AllDone D [14,16,13] from hcl 17 (by decide)) p17_
      obtain ⟨p15_,_,_⟩:=(show D 16=true→AllDone D [15,13] from hcl 16 (by decide)) p16_
      have q25_:=ny hcl 25 0 hD
      simp only [hD,p14_,p15_,p16_,p17_,p18_,p19_,p20_,q25_,cq,oT] at ht hs
      subst ht
      refine QaA rfl rfl (v:=int .i64 (rdL (rdL r8 (i64w (x22+1)) []) (i64w (x24 - (i64w (x28*(i64w (rdL a1 x22 0)))))) 0)) rfl rfl (fun _=>rfl) (cellsAt_of (fkI .i64) 0 (hs.r2rd 0 rfl gd17.1 gd17.2) had20_ gd19.1 gd19.2) (g_d rfl ?_)
      try dsimp only [Qae,Qaf]
      refine hk _ _ ⟨O,?_,hs.cast ?_⟩<;>simp only [oT,lq,cq,Nat.reduceBEq,p14_,p15_,p16_,p17_,p18_,p19_,p20_,q25_]
     ·
      rintro D t w hD hp hcl ⟨O,ht,hs⟩ rest hk
      have hp:AllDone D [13]:=hp
      obtain ⟨p13_,_⟩:=hp
      have q24_:=ny hcl 24 0 hD
      have q25_:=ny hcl 25 1 q24_
      simp only [hD,q24_,q25_,cq,oT] at ht hs
      subst ht
      refine Qaa (v:=int .i64 x28) rfl rfl rfl (g_d rfl ?_)
      try dsimp only [Qae,Qaf]
      refine hk _ _ ⟨O,?_,hs.cast ?_⟩<;>simp only [oT,lq,cq,Nat.reduceBEq,q24_,q25_]
     ·
      rintro D t w hD hp hcl ⟨O,ht,hs⟩ rest hk
      have hp:AllDone D [13]:=hp
      obtain ⟨p13_,_⟩:=hp
      have q24_:=ny hcl 24 1 hD
      have q25_:=ny hcl 25 1 q24_
      simp only [hD,q24_,q25_,cq,oT] at ht hs
      subst ht
      refine Qaa (v:=int .i64 x28) rfl rfl rfl (g_d rfl ?_)
      try dsimp only [Qae,Qaf]
      refine hk _ _ ⟨O,?_,hs.cast ?_⟩<;>simp only [oT,lq,cq,Nat.reduceBEq,q24_,q25_]
     ·
      rintro D t w hD hp hcl ⟨O,ht,hs⟩ rest hk
      have hp:AllDone D [22,23,13]:=hp
      obtain ⟨p22_,p23_,p13_,_⟩:=hp
      have q25_:=ny hcl 25 1 hD
      simp only [hD,p22_,p23_,q25_,cq,oT] at ht hs
      subst ht
      refine Qaa (v:=int .i64 (i64w (x28*x28))) rfl rfl rfl (g_d rfl ?_)
      try dsimp only [Qae,Qaf]
      refine hk _ _ ⟨O,?_,hs.cast ?_⟩<;>simp only [oT,lq,cq,Nat.reduceBEq,p22_,p23_,q25_]
     ·
      rintro D t w hD hp hcl ⟨O,ht,hs⟩ rest hk
      have hp:AllDone D [21,24,13]:=hp
      obtain ⟨p21_,p24_,p13_,_⟩:=hp
      obtain ⟨p22_,p23_,_,_⟩:=(show D 24=true→AllDone D [22,23,13] from hcl 24 (by decide)) p24_
      obtain ⟨p20_,_,_⟩:=(show D 21=true→AllDone D [20,13] from hcl 21 (by decide)) p21_
      obtain ⟨p18_,p19_,_,_⟩:=(show D 20=true→AllDone D [18,19,13] from hcl 20 (by decide)) p20_
      obtain ⟨p17_,_,_⟩:=(show D 18=true→AllDone D [17,13] from hcl 18 (by decide)) p18_
      obtain ⟨p14_,p16_,_,_⟩:=(show D 17=true→AllDone D [14,16,13] from hcl 17 (by decide)) p17_
      obtain ⟨p15_,_,_⟩:=(show D 16=true→AllDone D [15,13] from hcl 16 (by decide)) p16_
      simp only [hD,p14_,p15_,p16_,p17_,p18_,p19_,p20_,p21_,p22_,p23_,p24_,cq,oT] at ht hs
      subst ht
      refine Qaa (v:=int .i64 (i64w ((rdL (rdL r8 (i64w (x22+1)) []) (i64w (x24 - (i64w (x28*(i64w (rdL a1 x22 0)))))) 0)+(i64w (x28*x28))))) rfl rfl rfl (g_d rfl ?_)
      try dsimp only [Qae,Qaf]
      refine hk _ _ ⟨O,?_,hs.cast ?_⟩<;>simp only [oT,lq,cq,Nat.reduceBEq,p14_,p15_,p16_,p17_,p18_,p19_,p20_,p21_,p22_,p23_,p24_]
     ·
      rintro D t w hD hp hcl ⟨O,ht,hs⟩ rest hk
      have hp:AllDone D [13]:=hp
      obtain ⟨p13_,_⟩:=hp
      have q28_:=ny hcl 28 0 hD
      have q29_:=ny hcl 29 0 q28_
      have q31_:=ny hcl 31 0 q29_
      have q32_:=ny hcl 32 0 q31_
      simp only [hD,q28_,q29_,q31_,q32_,cq,oT] at ht hs
      subst ht
      refine Qaa (v:=v9) rfl rfl rfl (g_d rfl ?_)
      try dsimp only [Qae,Qaf]
      refine hk _ _ ⟨O,?_,hs.cast ?_⟩<;>simp only [oT,lq,cq,Nat.reduceBEq,q28_,q29_,q31_,q32_]
     ·
      rintro D t w hD hp hcl ⟨O,ht,hs⟩ rest hk
      have hp:AllDone D [13]:=hp
      obtain ⟨p13_,_⟩:=hp
      have q28_:=ny hcl 28 1 hD
      have q29_:=ny hcl 29 0 q28_
      have q31_:=ny hcl 31 0 q29_
      have q32_:=ny hcl 32 0 q31_
      simp only [hD,q28_,q29_,q31_,q32_,cq,oT] at ht hs
      subst ht
      refine Qaa (v:=int .i64 x22) rfl rfl rfl (g_d rfl ?_)
      try dsimp only [Qae,Qaf]
      refine hk _ _ ⟨O,?_,hs.cast ?_⟩<;>simp only [oT,lq,cq,Nat.reduceBEq,q28_,q29_,q31_,q32_]
     ·
      rintro D t w hD hp hcl ⟨O,ht,hs⟩ rest hk
      have hp:AllDone D [26,27,13]:=hp
      obtain ⟨p26_,p27_,p13_,_⟩:=hp
      have q29_:=ny hcl 29 0 hD
      have q31_:=ny hcl 31 0 q29_
      have q32_:=ny hcl 32 0 q31_
      simp only [hD,p26_,p27_,q29_,q31_,q32_,cq,oT] at ht hs
      subst ht
      refine QbG (κ:=kHS) (m:=1) rfl (hs.r2row 0 rfl) rfl (fun _=>rfl) gd21.1 (hs.r2lt 0 rfl gd21.2) had22_ rfl rfl rfl rfl rfl (g_d rfl ?_)
      try dsimp only [Qae,Qaf]
      refine hk _ _ ⟨O,?_,hs.cast ?_⟩<;>simp only [oT,lq,cq,Nat.reduceBEq,p26_,p27_,q29_,q31_,q32_]
     ·
      rintro D t w hD hp hcl ⟨O,ht,hs⟩ rest hk
      have hp:AllDone D [28,13]:=hp
      obtain ⟨p28_,p13_,_⟩:=hp
      obtain ⟨p26_,p27_,_,_⟩:=(show D 28=true→AllDone D [26,27,13] from hcl 28 (by decide)) p28_
      have q31_:=ny hcl 31 0 hD
      have q32_:=ny hcl 32 0 q31_
      simp only [hD,p26_,p27_,p28_,q31_,q32_,cq,oT] at ht hs
      subst ht
      refine QaA rfl rfl (v:=slice (rdL ms10 x22 zHS).a (rdL ms10 x22 zHS).n (rdL ms10 x22 zHS).c) rfl rfl (fun _=>rfl) (cellsAt_of fkHS zHS (hs.r2row 0 rfl) had22_ gd21.1 (hs.r2lt 0 rfl gd21.2)) (g_d rfl ?_)
      try dsimp only [Qae,Qaf]
      refine hk _ _ ⟨O,?_,hs.cast ?_⟩<;>simp only [oT,lq,cq,Nat.reduceBEq,p26_,p27_,p28_,q31_,q32_]
     ·
      rintro D t w hD hp hcl ⟨O,ht,hs⟩ rest hk
      have hp:AllDone D [13]:=hp
      obtain ⟨p13_,_⟩:=hp
      have q31_:=ny hcl 31 1 hD
      have q32_:=ny hcl 32 0 q31_
      simp only [hD,q31_,q32_,cq,oT] at ht hs
      subst ht
      refine Qaa (v:=int .i64 x24) rfl rfl rfl (g_d rfl ?_)
      try dsimp only [Qae,Qaf]
      refine hk _ _ ⟨O,?_,hs.cast ?_⟩<;>simp only [oT,lq,cq,Nat.reduceBEq,q31_,q32_]
     ·
      rintro D t w hD hp hcl ⟨O,ht,hs⟩ rest hk
      have hp:AllDone D [29,30,13]:=hp
      obtain ⟨p29_,p30_,p13_,_⟩:=hp
      obtain ⟨p28_,_,_⟩:=(show D 29=true→AllDone D [28,13] from hcl 29 (by decide)) p29_
      obtain ⟨p26_,p27_,_,_⟩:=(show D 28=true→AllDone D [26,27,13] from hcl 28 (by decide)) p28_
      have q32_:=ny hcl 32 0 hD
      simp only [hD,p26_,p27_,p28_,p29_,p30_,q32_,cq,oT] at ht hs
      subst ht
      refine QbG (κ:=(K.int .i64)) (m:=1) rfl (hs.r2rd 0 rfl gd21.1 gd21.2) rfl (fun _=>rfl) gd23.1 gd23.2 had24_ rfl rfl rfl rfl rfl (g_d rfl ?_)
      try dsimp only [Qae,Qaf]
      refine hk _ _ ⟨O,?_,hs.cast ?_⟩<;>simp only [oT,lq,cq,Nat.reduceBEq,p26_,p27_,p28_,p29_,p30_,q32_]
     ·
      rintro D t w hD hp hcl ⟨O,ht,hs⟩ rest hk
      have hp:AllDone D [31,13]:=hp
      obtain ⟨p31_,p13_,_⟩:=hp
      obtain ⟨p29_,p30_,_,_⟩:=(show D 31=true→AllDone D [29,30,13] from hcl 31 (by decide)) p31_
      obtain ⟨p28_,_,_⟩:=(show D 29=true→AllDone D [28,13] from hcl 29 (by decide)) p29_
      obtain ⟨p26_,p27_,_,_⟩:=(show D 28=true→AllDone D [26,27,13] from hcl 28 (by decide)) p28_
      simp only [hD,p26_,p27_,p28_,p29_,p30_,p31_,cq,oT] at ht hs
      subst ht
      refine QaA rfl rfl (v:=int .i64 (rdL (rdL r8 x22 []) x24 0)) rfl rfl (fun _=>rfl) (cellsAt_of (fkI .i64) 0 (hs.r2rd 0 rfl gd21.1 gd21.2) had24_ gd23.1 gd23.2) (g_d rfl ?_)
      try dsimp only [Qae,Qaf]
      refine hk _ _ ⟨O,?_,hs.cast ?_⟩<;>simp only [oT,lq,cq,Nat.reduceBEq,p26_,p27_,p28_,p29_,p30_,p31_]
     intro D t w rest hall hO16_ hI
     obtain ⟨O,ht,hs⟩:=hI
     have p14_:=hall 14 (by decide) rfl
     have p15_:=hall 15 (by decide) rfl
     have p16_:=hall 16 (by decide) rfl
     have p17_:=hall 17 (by decide) rfl
     have p18_:=hall 18 (by decide) rfl
     have p19_:=hall 19 (by decide) rfl
     have p20_:=hall 20 (by decide) rfl
     have p21_:=hall 21 (by decide) rfl
     have p22_:=hall 22 (by decide) rfl
     have p23_:=hall 23 (by decide) rfl
     have p24_:=hall 24 (by decide) rfl
     have p25_:=hall 25 (by decide) rfl
     have p26_:=hall 26 (by decide) rfl
     have p27_:=hall 27 (by decide) rfl
     have p28_:=hall 28 (by decide) rfl
     have p29_:=hall 29 (by decide) rfl
     have p30_:=hall 30 (by decide) rfl
     have p31_:=hall 31 (by decide) rfl
     have p32_:=hall 32 (by decide) rfl
     simp only [p14_,p15_,p16_,p17_,p18_,p19_,p20_,p21_,p22_,p23_,p24_,p25_,p26_,p27_,p28_,p29_,p30_,p31_,p32_,cq,oT] at ht hs
     subst ht
     obtain ⟨rest,rfl,hO25_⟩:=ord_one (m:=8589934591) hO16_ rfl 33 (m':=17179869183) (by decide+kernel) rfl
     clear hO16_
     refine Qas (B:=(i64w ((rdL (rdL r8 (i64w (x22+1)) []) (i64w (x24 - (i64w (x28*(i64w (rdL a1 x22 0)))))) 0)+(i64w (x28*x28))))==(rdL (rdL r8 x22 []) x24 0)) rfl rfl rfl ?_ ?_
     ·
      intro hb
      rw [if_pos (b_beq_t hb)] at H
      refine g_d rfl ?_
      obtain ⟨rest,rfl,hO26_⟩:=ord_one (m:=17179869183) hO25_ rfl 34 (m':=34359738367) (by decide+kernel) rfl
      clear hO25_
      refine Qaa (v:=bool true) rfl rfl rfl (g_d rfl ?_)
      try dsimp only [Qae,Qaf]
      obtain rfl:=ord_end hO26_ rfl (by decide+kernel)
      refine Qac (Qai rfl (Qad (Qag [0,1,2,3,4,5] rfl ?_)))
      refine Qaa (v:=v26) rfl rfl rfl (g_d rfl ?_)
      refine Qaa (v:=int .i64 x28) rfl rfl rfl (g_d rfl ?_)
      refine Qaa (v:=int .i8 (i8w x28)) rfl rfl rfl (g_d rfl ?_)
      try dsimp only [Qae,Qaf]
      refine QbL (fkI .i8) (y:=i8w x28) hs rfl rfl rfl rfl (fun _=>rfl) (zv:=(int .i8 0)) (fun _=>rfl) rfl (by decide) (by decide) rfl ?_
      intro v32 w hs
      refine g_d rfl ?_
      try dsimp only [Qae,Qaf]
      have hs:St _ [_,_,_] _:=hs.pull 2 rfl
      obtain ⟨g,H⟩:=ite_get H
      refine QbI (fkI .i8) (zv:=(int .i8 0)) (B:=1) hs (hs.row 1 rfl) rfl rfl rfl rfl rfl rfl rfl rfl rfl (by decide) rfl rfl (by decide) (by omega) ?_
      intro v34 w hs
      refine g_d rfl ?_
      refine Qaa (v:=v34) rfl rfl rfl (g_d rfl ?_)
      try dsimp only [Qae,Qaf]
      refine Qac (Qad (Qag [0,1] rfl ?_))
      refine Qaa (v:=int .i64 (i64w (x24 - (i64w (x28*(i64w (rdL a1 x22 0))))))) rfl rfl rfl (g_d rfl ?_)
      refine Qaa (v:=int .i64 (i64w (x24 - (i64w (x28*(i64w (rdL a1 x22 0))))))) rfl rfl rfl (g_d rfl (Qac ?_))
      obtain rfl:=QsJ H
      subst Hx2_
      have hs:=hs.pull 0 rfl
      have hs:=hs.pull 2 rfl
      have hs:St _ [_,_] _:=St.take (Γ':=[_]) hs
      refine Qbc rfl ?_
      exact ha2_ _ _ ⟨i64w (x24 - (i64w (x28*(i64w (rdL a1 x22 0))))),v34,x27++([i8w x28]),Hr2_,rfl,hs⟩
     intro hb
     rw [if_neg (b_beq_f hb)] at H
     refine g_d rfl ?_
     obtain ⟨rest,rfl,hO27_⟩:=ord_one (m:=17179869183) hO25_ rfl 34 (m':=34359738367) (by decide+kernel) rfl
     clear hO25_
     refine Qaa (v:=bool false) rfl rfl rfl (g_d rfl ?_)
     try dsimp only [Qae,Qaf]
     obtain rfl:=ord_end hO27_ rfl (by decide+kernel)
     refine Qac (Qal rfl (Qay ?_))
     refine QaH ?_
     have hs:=hs.pull 1 rfl
     have hs:=hs.pull 1 rfl
     have hs:St _ [_,_] _:=St.take (Γ':=[]) hs
     exact ha _ _ ⟨H,rfl,hs⟩
    intro hb
    rw [if_neg (b_dec_f hb)] at H
    refine g_d rfl ?_
    obtain ⟨rest,rfl,hO28_⟩:=ord_one (m:=8191) hO14_ rfl 13 (m':=16383) (by decide+kernel) rfl
    clear hO14_
    refine Qaa (v:=bool false) rfl rfl rfl (g_d rfl ?_)
    refine Qbz ?_
    intro T hT
    refine QbA (m0:=16383) hO28_ rfl 8589934591 [14,15,16,17,18,19,20,21,22,23,24,25,26,27,28,29,30,31,32] [0,1,3,7,7,23,63,127,7,511,1023,2047,4095,8191,16383,16383,49151,131071,262143,16383,1048575,2097151,16383,16383,12599295,33554431,16383,16383,201342975,469778431,16383,2080391167,4227874815,8589934591,17179869183] (by decide+kernel) (fun D t w=>∃ O:Nat→Value,t=(v2::O 1::bool a4::O 3::O 4::O 5::O 6::O 7::O 8::v9::int .i64 x24::v26::int .i64 x22::int .i64 x28::int .i64 (i64w (x24 - (i64w (x28*(i64w (rdL a1 x22 0))))))::O 15::O 16::O 17::O 18::O 19::oT O 2 (oT O 3 (O 40::O 41::O 42::O 43::int .i64 x28::bool true::O 46::O 47::int .i64 x24::int .i64 x28::v2::int .i64 x22::pointer (some p29)::int .i16 (rdL a1 x22 0)::int .i64 (i64w (rdL a1 x22 0))::int .i64 (i64w (x28*(i64w (rdL a1 x22 0))))::int .i64 (i64w (x24 - (i64w (x28*(i64w (rdL a1 x22 0))))))::int .i64 (i64w (x24 - (i64w (x28*(i64w (rdL a1 x22 0))))))::bool true::bool true::v9::int .i64 x22::int .i64 (i64w (x22+1))::pointer (some (ad9_.add ((i64w (x22+1)).toNat*1)))::slice (rdL ms10 (i64w (x22+1)) zHS).a (rdL ms10 (i64w (x22+1)) zHS).n (rdL ms10 (i64w (x22+1)) zHS).c::int .i64 (i64w (x24 - (i64w (x28*(i64w (rdL a1 x22 0))))))::pointer (some p31)::int .i64 (rdL (rdL r8 (i64w (x22+1)) []) (i64w (x24 - (i64w (x28*(i64w (rdL a1 x22 0)))))) 0)::bool (decide ((rdL (rdL r8 (i64w (x22+1)) []) (i64w (x24 - (i64w (x28*(i64w (rdL a1 x22 0)))))) 0)≥0))::bool false::bool false::cnd (D 14) undef (O 71)::cnd (D 15) undef (O 72)::cnd (D 16) undef (O 73)::cnd (D 17) undef (O 74)::cnd (D 18) undef (O 75)::cnd (D 19) undef (O 76)::cnd (D 20) undef (O 77)::cnd (D 21) undef (O 78)::cnd (D 22) undef (O 79)::cnd (D 23) undef (O 80)::cnd (D 24) undef (O 81)::cnd (D 25) undef (O 82)::cnd (D 26) undef (O 83)::cnd (D 27) undef (O 84)::cnd (D 28) undef (O 85)::cnd (D 29) undef (O 86)::cnd (D 30) undef (O 87)::cnd (D 31) undef (O 88)::cnd (D 32) undef (O 89)::O 90::O 91::O 92::O 93::O 94::O 95::O 96::O 97::O 98::[])))∧St w0 [Rows2 50 kHS (RowO 2 (K.int .i64)) v9 ms10 r8,Row 49 (K.int .i8) v26 x27] w) ?_ ⟨?_,⟨?_,⟨?_,⟨?_,⟨?_,⟨?_,⟨?_,⟨?_,⟨?_,⟨?_,⟨?_,⟨?_,⟨?_,⟨?_,⟨?_,⟨?_,⟨?_,⟨?_,⟨?_,trivial⟩⟩⟩⟩⟩⟩⟩⟩⟩⟩⟩⟩⟩⟩⟩⟩⟩⟩⟩ ?_
    ·exact ⟨fun i=>T.getD i undef,(by subst hT;rfl),hs⟩
    ·
     rintro D t w hD hp hcl ⟨O,ht,hs⟩ rest hk
     have hp:AllDone D [13]:=hp
     obtain ⟨p13_,_⟩:=hp
     have q17_:=ny hcl 17 0 hD
     have q18_:=ny hcl 18 0 q17_
     have q20_:=ny hcl 20 0 q18_
     have q21_:=ny hcl 21 0 q20_
     have q25_:=ny hcl 25 0 q21_
     simp only [hD,q17_,q18_,q20_,q21_,q25_,cq,oT] at ht hs
     subst ht
     refine Qab rfl rfl (g_d rfl ?_)
     try dsimp only [Qae,Qaf]
     refine hk _ _ ⟨O,?_,hs.cast ?_⟩<;>simp only [oT,cq,Nat.reduceBEq,q17_,q18_,q20_,q21_,q25_]
    ·
     rintro D t w hD hp hcl ⟨O,ht,hs⟩ rest hk
     have hp:AllDone D [13]:=hp
     obtain ⟨p13_,_⟩:=hp
     have q16_:=ny hcl 16 0 hD
     have q17_:=ny hcl 17 1 q16_
     have q18_:=ny hcl 18 0 q17_
     have q20_:=ny hcl 20 0 q18_
     have q21_:=ny hcl 21 0 q20_
     have q25_:=ny hcl 25 0 q21_
     simp only [hD,q16_,q17_,q18_,q20_,q21_,q25_,cq,oT] at ht hs
     subst ht
     refine Qab rfl rfl (g_d rfl ?_)
     try dsimp only [Qae,Qaf]
     refine hk _ _ ⟨O,?_,hs.cast ?_⟩<;>simp only [oT,cq,Nat.reduceBEq,q16_,q17_,q18_,q20_,q21_,q25_]
    ·
     rintro D t w hD hp hcl ⟨O,ht,hs⟩ rest hk
     have hp:AllDone D [15,13]:=hp
     obtain ⟨p15_,p13_,_⟩:=hp
     have q17_:=ny hcl 17 1 hD
     have q18_:=ny hcl 18 0 q17_
     have q20_:=ny hcl 20 0 q18_
     have q21_:=ny hcl 21 0 q20_
     have q25_:=ny hcl 25 0 q21_
     simp only [hD,p15_,q17_,q18_,q20_,q21_,q25_,cq,oT] at ht hs
     subst ht
     refine Qab rfl rfl (g_d rfl ?_)
     try dsimp only [Qae,Qaf]
     refine hk _ _ ⟨O,?_,hs.cast ?_⟩<;>simp only [oT,cq,Nat.reduceBEq,p15_,q17_,q18_,q20_,q21_,q25_]
    ·
     rintro D t w hD hp hcl ⟨O,ht,hs⟩ rest hk
     have hp:AllDone D [14,16,13]:=hp
     obtain ⟨p14_,p16_,p13_,_⟩:=hp
     obtain ⟨p15_,_,_⟩:=(show D 16=true→AllDone D [15,13] from hcl 16 (by decide)) p16_
     have q18_:=ny hcl 18 0 hD
     have q20_:=ny hcl 20 0 q18_
     have q21_:=ny hcl 21 0 q20_
     have q25_:=ny hcl 25 0 q21_
     simp only [hD,p14_,p15_,p16_,q18_,q20_,q21_,q25_,cq,oT] at ht hs
     subst ht
     refine Qab rfl rfl (g_d rfl ?_)
     try dsimp only [Qae,Qaf]
     refine hk _ _ ⟨O,?_,hs.cast ?_⟩<;>simp only [oT,cq,Nat.reduceBEq,p14_,p15_,p16_,q18_,q20_,q21_,q25_]
    ·
     rintro D t w hD hp hcl ⟨O,ht,hs⟩ rest hk
     have hp:AllDone D [17,13]:=hp
     obtain ⟨p17_,p13_,_⟩:=hp
     obtain ⟨p14_,p16_,_,_⟩:=(show D 17=true→AllDone D [14,16,13] from hcl 17 (by decide)) p17_
     obtain ⟨p15_,_,_⟩:=(show D 16=true→AllDone D [15,13] from hcl 16 (by decide)) p16_
     have q20_:=ny hcl 20 0 hD
     have q21_:=ny hcl 21 0 q20_
     have q25_:=ny hcl 25 0 q21_
     simp only [hD,p14_,p15_,p16_,p17_,q20_,q21_,q25_,cq,oT] at ht hs
     subst ht
     refine Qab rfl rfl (g_d rfl ?_)
     try dsimp only [Qae,Qaf]
     refine hk _ _ ⟨O,?_,hs.cast ?_⟩<;>simp only [oT,cq,Nat.reduceBEq,p14_,p15_,p16_,p17_,q20_,q21_,q25_]
    ·
     rintro D t w hD hp hcl ⟨O,ht,hs⟩ rest hk
     have hp:AllDone D [13]:=hp
     obtain ⟨p13_,_⟩:=hp
     have q20_:=ny hcl 20 1 hD
     have q21_:=ny hcl 21 0 q20_
     have q25_:=ny hcl 25 0 q21_
     simp only [hD,q20_,q21_,q25_,cq,oT] at ht hs
     subst ht
     refine Qab rfl rfl (g_d rfl ?_)
     try dsimp only [Qae,Qaf]
     refine hk _ _ ⟨O,?_,hs.cast ?_⟩<;>simp only [oT,cq,Nat.reduceBEq,q20_,q21_,q25_]
    ·
     rintro D t w hD hp hcl ⟨O,ht,hs⟩ rest hk
     have hp:AllDone D [18,19,13]:=hp
     obtain ⟨p18_,p19_,p13_,_⟩:=hp
     obtain ⟨p17_,_,_⟩:=(show D 18=true→AllDone D [17,13] from hcl 18 (by decide)) p18_
     obtain ⟨p14_,p16_,_,_⟩:=(show D 17=true→AllDone D [14,16,13] from hcl 17 (by decide)) p17_
     obtain ⟨p15_,_,_⟩:=(show D 16=true→AllDone D [15,13] from hcl 16 (by decide)) p16_
     have q21_:=ny hcl 21 0 hD
     have q25_:=ny hcl 25 0 q21_
     simp only [hD,p14_,p15_,p16_,p17_,p18_,p19_,q21_,q25_,cq,oT] at ht hs
     subst ht
     refine Qab rfl rfl (g_d rfl ?_)
     try dsimp only [Qae,Qaf]
     refine hk _ _ ⟨O,?_,hs.cast ?_⟩<;>simp only [oT,cq,Nat.reduceBEq,p14_,p15_,p16_,p17_,p18_,p19_,q21_,q25_]
    ·
     rintro D t w hD hp hcl ⟨O,ht,hs⟩ rest hk
     have hp:AllDone D [20,13]:=hp
     obtain ⟨p20_,p13_,_⟩:=hp
     obtain ⟨p18_,p19_,_,_⟩:=(show D 20=true→AllDone D [18,19,13] from hcl 20 (by decide)) p20_
     obtain ⟨p17_,_,_⟩:=(show D 18=true→AllDone D [17,13] from hcl 18 (by decide)) p18_
     obtain ⟨p14_,p16_,_,_⟩:=(show D 17=true→AllDone D [14,16,13] from hcl 17 (by decide)) p17_
     obtain ⟨p15_,_,_⟩:=(show D 16=true→AllDone D [15,13] from hcl 16 (by decide)) p16_
     have q25_:=ny hcl 25 0 hD
     simp only [hD,p14_,p15_,p16_,p17_,p18_,p19_,p20_,q25_,cq,oT] at ht hs
     subst ht
     refine Qab rfl rfl (g_d rfl ?_)
     try dsimp only [Qae,Qaf]
     refine hk _ _ ⟨O,?_,hs.cast ?_⟩<;>simp only [oT,cq,Nat.reduceBEq,p14_,p15_,p16_,p17_,p18_,p19_,p20_,q25_]
    ·
     rintro D t w hD hp hcl ⟨O,ht,hs⟩ rest hk
     have hp:AllDone D [13]:=hp
     obtain ⟨p13_,_⟩:=hp
     have q24_:=ny hcl 24 0 hD
     have q25_:=ny hcl 25 1 q24_
     simp only [hD,q24_,q25_,cq,oT] at ht hs
     subst ht
     refine Qab rfl rfl (g_d rfl ?_)
     try dsimp only [Qae,Qaf]
     refine hk _ _ ⟨O,?_,hs.cast ?_⟩<;>simp only [oT,cq,Nat.reduceBEq,q24_,q25_]
    ·
     rintro D t w hD hp hcl ⟨O,ht,hs⟩ rest hk
     have hp:AllDone D [13]:=hp
     obtain ⟨p13_,_⟩:=hp
     have q24_:=ny hcl 24 1 hD
     have q25_:=ny hcl 25 1 q24_
     simp only [hD,q24_,q25_,cq,oT] at ht hs
     subst ht
     refine Qab rfl rfl (g_d rfl ?_)
     try dsimp only [Qae,Qaf]
     refine hk _ _ ⟨O,?_,hs.cast ?_⟩<;>simp only [oT,cq,Nat.reduceBEq,q24_,q25_]
    ·
     rintro D t w hD hp hcl ⟨O,ht,hs⟩ rest hk
     have hp:AllDone D [22,23,13]:=hp
     obtain ⟨p22_,p23_,p13_,_⟩:=hp
     have q25_:=ny hcl 25 1 hD
     simp only [hD,p22_,p23_,q25_,cq,oT] at ht hs
     subst ht
     refine Qab rfl rfl (g_d rfl ?_)
     try dsimp only [Qae,Qaf]
     refine hk _ _ ⟨O,?_,hs.cast ?_⟩<;>simp only [oT,cq,Nat.reduceBEq,p22_,p23_,q25_]
    ·
     rintro D t w hD hp hcl ⟨O,ht,hs⟩ rest hk
     have hp:AllDone D [21,24,13]:=hp
     obtain ⟨p21_,p24_,p13_,_⟩:=hp
     obtain ⟨p22_,p23_,_,_⟩:=(show D 24=true→AllDone D [22,23,13] from hcl 24 (by decide)) p24_
     obtain ⟨p20_,_,_⟩:=(show D 21=true→AllDone D [20,13] from hcl 21 (by decide)) p21_
     obtain ⟨p18_,p19_,_,_⟩:=(show D 20=true→AllDone D [18,19,13] from hcl 20 (by decide)) p20_
     obtain ⟨p17_,_,_⟩:=(show D 18=true→AllDone D [17,13] from hcl 18 (by decide)) p18_
     obtain ⟨p14_,p16_,_,_⟩:=(show D 17=true→AllDone D [14,16,13] from hcl 17 (by decide)) p17_
     obtain ⟨p15_,_,_⟩:=(show D 16=true→AllDone D [15,13] from hcl 16 (by decide)) p16_
     simp only [hD,p14_,p15_,p16_,p17_,p18_,p19_,p20_,p21_,p22_,p23_,p24_,cq,oT] at ht hs
     subst ht
     refine Qab rfl rfl (g_d rfl ?_)
     try dsimp only [Qae,Qaf]
     refine hk _ _ ⟨O,?_,hs.cast ?_⟩<;>simp only [oT,cq,Nat.reduceBEq,p14_,p15_,p16_,p17_,p18_,p19_,p20_,p21_,p22_,p23_,p24_]
    ·
     rintro D t w hD hp hcl ⟨O,ht,hs⟩ rest hk
     have hp:AllDone D [13]:=hp
     obtain ⟨p13_,_⟩:=hp
     have q28_:=ny hcl 28 0 hD
     have q29_:=ny hcl 29 0 q28_
     have q31_:=ny hcl 31 0 q29_
     have q32_:=ny hcl 32 0 q31_
     simp only [hD,q28_,q29_,q31_,q32_,cq,oT] at ht hs
     subst ht
     refine Qab rfl rfl (g_d rfl ?_)
     try dsimp only [Qae,Qaf]
     refine hk _ _ ⟨O,?_,hs.cast ?_⟩<;>simp only [oT,cq,Nat.reduceBEq,q28_,q29_,q31_,q32_]
    ·
     rintro D t w hD hp hcl ⟨O,ht,hs⟩ rest hk
     have hp:AllDone D [13]:=hp
     obtain ⟨p13_,_⟩:=hp
     have q28_:=ny hcl 28 1 hD
     have q29_:=ny hcl 29 0 q28_
     have q31_:=ny hcl 31 0 q29_
     have q32_:=ny hcl 32 0 q31_
     simp only [hD,q28_,q29_,q31_,q32_,cq,oT] at ht hs
     subst ht
     refine Qab rfl rfl (g_d rfl ?_)
     try dsimp only [Qae,Qaf]
     refine hk _ _ ⟨O,?_,hs.cast ?_⟩<;>simp only [oT,cq,Nat.reduceBEq,q28_,q29_,q31_,q32_]
    ·
     rintro D t w hD hp hcl ⟨O,ht,hs⟩ rest hk
     have hp:AllDone D [26,27,13]:=hp
     obtain ⟨p26_,p27_,p13_,_⟩:=hp
     have q29_:=ny hcl 29 0 hD
     have q31_:=ny hcl 31 0 q29_
     have q32_:=ny hcl 32 0 q31_
     simp only [hD,p26_,p27_,q29_,q31_,q32_,cq,oT] at ht hs
     subst ht
     refine Qab rfl rfl (g_d rfl ?_)
     try dsimp only [Qae,Qaf]
     refine hk _ _ ⟨O,?_,hs.cast ?_⟩<;>simp only [oT,cq,Nat.reduceBEq,p26_,p27_,q29_,q31_,q32_]
    ·
     rintro D t w hD hp hcl ⟨O,ht,hs⟩ rest hk
     have hp:AllDone D [28,13]:=hp
     obtain ⟨p28_,p13_,_⟩:=hp
     obtain ⟨p26_,p27_,_,_⟩:=(show D 28=true→AllDone D [26,27,13] from hcl 28 (by decide)) p28_
     have q31_:=ny hcl 31 0 hD
     have q32_:=ny hcl 32 0 q31_
     simp only [hD,p26_,p27_,p28_,q31_,q32_,cq,oT] at ht hs
     subst ht
     refine Qab rfl rfl (g_d rfl ?_)
     try dsimp only [Qae,Qaf]
     refine hk _ _ ⟨O,?_,hs.cast ?_⟩<;>simp only [oT,cq,Nat.reduceBEq,p26_,p27_,p28_,q31_,q32_]
    ·
     rintro D t w hD hp hcl ⟨O,ht,hs⟩ rest hk
     have hp:AllDone D [13]:=hp
     obtain ⟨p13_,_⟩:=hp
     have q31_:=ny hcl 31 1 hD
     have q32_:=ny hcl 32 0 q31_
     simp only [hD,q31_,q32_,cq,oT] at ht hs
     subst ht
     refine Qab rfl rfl (g_d rfl ?_)
     try dsimp only [Qae,Qaf]
     refine hk _ _ ⟨O,?_,hs.cast ?_⟩<;>simp only [oT,cq,Nat.reduceBEq,q31_,q32_]
    ·
     rintro D t w hD hp hcl ⟨O,ht,hs⟩ rest hk
     have hp:AllDone D [29,30,13]:=hp
     obtain ⟨p29_,p30_,p13_,_⟩:=hp
     obtain ⟨p28_,_,_⟩:=(show D 29=true→AllDone D [28,13] from hcl 29 (by decide)) p29_
     obtain ⟨p26_,p27_,_,_⟩:=(show D 28=true→AllDone D [26,27,13] from hcl 28 (by decide)) p28_
     have q32_:=ny hcl 32 0 hD
     simp only [hD,p26_,p27_,p28_,p29_,p30_,q32_,cq,oT] at ht hs
     subst ht
     refine Qab rfl rfl (g_d rfl ?_)
     try dsimp only [Qae,Qaf]
     refine hk _ _ ⟨O,?_,hs.cast ?_⟩<;>simp only [oT,cq,Nat.reduceBEq,p26_,p27_,p28_,p29_,p30_,q32_]
    ·
     rintro D t w hD hp hcl ⟨O,ht,hs⟩ rest hk
     have hp:AllDone D [31,13]:=hp
     obtain ⟨p31_,p13_,_⟩:=hp
     obtain ⟨p29_,p30_,_,_⟩:=(show D 31=true→AllDone D [29,30,13] from hcl 31 (by decide)) p31_
     obtain ⟨p28_,_,_⟩:=(show D 29=true→AllDone D [28,13] from hcl 29 (by decide)) p29_
     obtain ⟨p26_,p27_,_,_⟩:=(show D 28=true→AllDone D [26,27,13] from hcl 28 (by decide)) p28_
     simp only [hD,p26_,p27_,p28_,p29_,p30_,p31_,cq,oT] at ht hs
     subst ht
     refine Qab rfl rfl (g_d rfl ?_)
     try dsimp only [Qae,Qaf]
     refine hk _ _ ⟨O,?_,hs.cast ?_⟩<;>simp only [oT,cq,Nat.reduceBEq,p26_,p27_,p28_,p29_,p30_,p31_]
    intro D t w rest hall hO29_ hI
    obtain ⟨O,ht,hs⟩:=hI
    have p14_:=hall 14 (by decide) rfl
    have p15_:=hall 15 (by decide) rfl
    have p16_:=hall 16 (by decide) rfl
    have p17_:=hall 17 (by decide) rfl
    have p18_:=hall 18 (by decide) rfl
    have p19_:=hall 19 (by decide) rfl
    have p20_:=hall 20 (by decide) rfl
    have p21_:=hall 21 (by decide) rfl
    have p22_:=hall 22 (by decide) rfl
    have p23_:=hall 23 (by decide) rfl
    have p24_:=hall 24 (by decide) rfl
    have p25_:=hall 25 (by decide) rfl
    have p26_:=hall 26 (by decide) rfl
    have p27_:=hall 27 (by decide) rfl
    have p28_:=hall 28 (by decide) rfl
    have p29_:=hall 29 (by decide) rfl
    have p30_:=hall 30 (by decide) rfl
    have p31_:=hall 31 (by decide) rfl
    have p32_:=hall 32 (by decide) rfl
    simp only [p14_,p15_,p16_,p17_,p18_,p19_,p20_,p21_,p22_,p23_,p24_,p25_,p26_,p27_,p28_,p29_,p30_,p31_,p32_,cq,oT] at ht hs
    subst ht
    obtain ⟨rest,rfl,hO30_⟩:=ord_one (m:=8589934591) hO29_ rfl 33 (m':=17179869183) (by decide+kernel) rfl
    clear hO29_
    refine Qab rfl rfl (g_d rfl ?_)
    try dsimp only [Qae,Qaf]
    obtain ⟨rest,rfl,hO31_⟩:=ord_one (m:=17179869183) hO30_ rfl 34 (m':=34359738367) (by decide+kernel) rfl
    clear hO30_
    refine Qaa (v:=bool false) rfl rfl rfl (g_d rfl ?_)
    obtain rfl:=ord_end hO31_ rfl (by decide+kernel)
    refine Qac (Qal rfl (Qay ?_))
    refine QaH ?_
    have hs:=hs.pull 1 rfl
    have hs:=hs.pull 1 rfl
    have hs:St _ [_,_] _:=St.take (Γ':=[]) hs
    exact ha _ _ ⟨H,rfl,hs⟩
   |false=>
    rw [if_neg Bool.false_ne_true] at H
    refine g_d rfl ?_
    try dsimp only [Qae,Qaf]
    obtain ⟨rest,rfl,hO32_⟩:=ord_one (m:=3) hO5_ rfl 2 (m':=7) (by decide+kernel) rfl
    clear hO5_
    refine Qaa (v:=bool false) rfl rfl rfl (g_d rfl ?_)
    refine Qbz ?_
    intro T hT
    refine QbA (m0:=7) hO32_ rfl 511 [3,4,5,6,7,8] [0,1,3,7,7,23,63,127,7,511,1023,2047,4095,8191,16383,16383,49151,131071,262143,16383,1048575,2097151,16383,16383,12599295,33554431,16383,16383,201342975,469778431,16383,2080391167,4227874815,8589934591,17179869183] (by decide+kernel) (fun D t w=>∃ O:Nat→Value,t=(v2::O 1::bool a4::O 3::O 4::O 5::O 6::O 7::O 8::v9::int .i64 x24::v26::int .i64 x22::int .i64 x28::int .i64 (i64w (x24 - (i64w (x28*(i64w (rdL a1 x22 0))))))::O 15::O 16::O 17::O 18::O 19::oT O 2 (oT O 3 (O 40::O 41::O 42::O 43::int .i64 x28::bool true::O 46::O 47::int .i64 x24::int .i64 x28::v2::int .i64 x22::pointer (some p29)::int .i16 (rdL a1 x22 0)::int .i64 (i64w (rdL a1 x22 0))::int .i64 (i64w (x28*(i64w (rdL a1 x22 0))))::int .i64 (i64w (x24 - (i64w (x28*(i64w (rdL a1 x22 0))))))::int .i64 (i64w (x24 - (i64w (x28*(i64w (rdL a1 x22 0))))))::bool false::bool false::cnd (D 3) undef (O 60)::cnd (D 4) undef (O 61)::cnd (D 5) undef (O 62)::cnd (D 6) undef (O 63)::cnd (D 7) undef (O 64)::cnd (D 8) undef (O 65)::O 66::O 67::O 68::O 69::oT O 7 (oT O 8 (O 90::O 91::O 92::O 93::O 94::O 95::O 96::O 97::O 98::[])))))∧St w0 [Rows2 50 kHS (RowO 2 (K.int .i64)) v9 ms10 r8,Row 49 (K.int .i8) v26 x27] w) ?_ ⟨?_,⟨?_,⟨?_,⟨?_,⟨?_,⟨?_,trivial⟩⟩⟩⟩⟩⟩ ?_
    ·exact ⟨fun i=>T.getD i undef,(by subst hT;rfl),hs⟩
    ·
     rintro D t w hD hp hcl ⟨O,ht,hs⟩ rest hk
     have hp:AllDone D [2]:=hp
     obtain ⟨p2_,_⟩:=hp
     have q6_:=ny hcl 6 0 hD
     have q7_:=ny hcl 7 0 q6_
     simp only [hD,q6_,q7_,cq,oT] at ht hs
     subst ht
     refine Qab rfl rfl (g_d rfl ?_)
     try dsimp only [Qae,Qaf]
     refine hk _ _ ⟨O,?_,hs.cast ?_⟩<;>simp only [oT,cq,Nat.reduceBEq,q6_,q7_]
    ·
     rintro D t w hD hp hcl ⟨O,ht,hs⟩ rest hk
     have hp:AllDone D [2]:=hp
     obtain ⟨p2_,_⟩:=hp
     have q5_:=ny hcl 5 0 hD
     have q6_:=ny hcl 6 1 q5_
     have q7_:=ny hcl 7 0 q6_
     simp only [hD,q5_,q6_,q7_,cq,oT] at ht hs
     subst ht
     refine Qab rfl rfl (g_d rfl ?_)
     try dsimp only [Qae,Qaf]
     refine hk _ _ ⟨O,?_,hs.cast ?_⟩<;>simp only [oT,cq,Nat.reduceBEq,q5_,q6_,q7_]
    ·
     rintro D t w hD hp hcl ⟨O,ht,hs⟩ rest hk
     have hp:AllDone D [4,2]:=hp
     obtain ⟨p4_,p2_,_⟩:=hp
     have q6_:=ny hcl 6 1 hD
     have q7_:=ny hcl 7 0 q6_
     simp only [hD,p4_,q6_,q7_,cq,oT] at ht hs
     subst ht
     refine Qab rfl rfl (g_d rfl ?_)
     try dsimp only [Qae,Qaf]
     refine hk _ _ ⟨O,?_,hs.cast ?_⟩<;>simp only [oT,cq,Nat.reduceBEq,p4_,q6_,q7_]
    ·
     rintro D t w hD hp hcl ⟨O,ht,hs⟩ rest hk
     have hp:AllDone D [3,5,2]:=hp
     obtain ⟨p3_,p5_,p2_,_⟩:=hp
     obtain ⟨p4_,_,_⟩:=(show D 5=true→AllDone D [4,2] from hcl 5 (by decide)) p5_
     have q7_:=ny hcl 7 0 hD
     simp only [hD,p3_,p4_,p5_,q7_,cq,oT] at ht hs
     subst ht
     refine Qab rfl rfl (g_d rfl ?_)
     try dsimp only [Qae,Qaf]
     refine hk _ _ ⟨O,?_,hs.cast ?_⟩<;>simp only [oT,cq,Nat.reduceBEq,p3_,p4_,p5_,q7_]
    ·
     rintro D t w hD hp hcl ⟨O,ht,hs⟩ rest hk
     have hp:AllDone D [6,2]:=hp
     obtain ⟨p6_,p2_,_⟩:=hp
     obtain ⟨p3_,p5_,_,_⟩:=(show D 6=true→AllDone D [3,5,2] from hcl 6 (by decide)) p6_
     obtain ⟨p4_,_,_⟩:=(show D 5=true→AllDone D [4,2] from hcl 5 (by decide)) p5_
     simp only [hD,p3_,p4_,p5_,p6_,cq,oT] at ht hs
     subst ht
     refine Qab rfl rfl (g_d rfl ?_)
     try dsimp only [Qae,Qaf]
     refine hk _ _ ⟨O,?_,hs.cast ?_⟩<;>simp only [oT,cq,Nat.reduceBEq,p3_,p4_,p5_,p6_]
    ·
     rintro D t w hD hp hcl ⟨O,ht,hs⟩ rest hk
     have hp:AllDone D [2]:=hp
     obtain ⟨p2_,_⟩:=hp
     simp only [hD,cq,oT] at ht hs
     subst ht
     refine Qab rfl rfl (g_d rfl ?_)
     try dsimp only [Qae,Qaf]
     refine hk _ _ ⟨O,?_,hs.cast ?_⟩<;>simp only [oT,cq,Nat.reduceBEq]
    intro D t w rest hall hO33_ hI
    obtain ⟨O,ht,hs⟩:=hI
    have p3_:=hall 3 (by decide) rfl
    have p4_:=hall 4 (by decide) rfl
    have p5_:=hall 5 (by decide) rfl
    have p6_:=hall 6 (by decide) rfl
    have p7_:=hall 7 (by decide) rfl
    have p8_:=hall 8 (by decide) rfl
    simp only [p3_,p4_,p5_,p6_,p7_,p8_,cq,oT] at ht hs
    subst ht
    obtain ⟨rest,rfl,hO34_⟩:=ord_one (m:=511) hO33_ rfl 9 (m':=1023) (by decide+kernel) rfl
    clear hO33_
    refine Qab rfl rfl (g_d rfl ?_)
    obtain ⟨rest,rfl,hO35_⟩:=ord_one (m:=1023) hO34_ rfl 10 (m':=2047) (by decide+kernel) rfl
    clear hO34_
    refine Qab rfl rfl (g_d rfl ?_)
    try dsimp only [Qae,Qaf]
    obtain ⟨rest,rfl,hO36_⟩:=ord_one (m:=2047) hO35_ rfl 11 (m':=4095) (by decide+kernel) rfl
    clear hO35_
    refine Qab rfl rfl (g_d rfl ?_)
    obtain ⟨rest,rfl,hO37_⟩:=ord_one (m:=4095) hO36_ rfl 12 (m':=8191) (by decide+kernel) rfl
    clear hO36_
    refine Qaa (v:=bool false) rfl rfl rfl (g_d rfl ?_)
    try dsimp only [Qae,Qaf]
    obtain ⟨rest,rfl,hO38_⟩:=ord_one (m:=8191) hO37_ rfl 13 (m':=16383) (by decide+kernel) rfl
    clear hO37_
    refine Qaa (v:=bool false) rfl rfl rfl (g_d rfl ?_)
    refine Qbz ?_
    intro T hT
    refine QbA (m0:=16383) hO38_ rfl 8589934591 [14,15,16,17,18,19,20,21,22,23,24,25,26,27,28,29,30,31,32] [0,1,3,7,7,23,63,127,7,511,1023,2047,4095,8191,16383,16383,49151,131071,262143,16383,1048575,2097151,16383,16383,12599295,33554431,16383,16383,201342975,469778431,16383,2080391167,4227874815,8589934591,17179869183] (by decide+kernel) (fun D t w=>∃ O:Nat→Value,t=(v2::O 1::bool a4::O 3::O 4::O 5::O 6::O 7::O 8::v9::int .i64 x24::v26::int .i64 x22::int .i64 x28::int .i64 (i64w (x24 - (i64w (x28*(i64w (rdL a1 x22 0))))))::O 15::O 16::O 17::O 18::O 19::oT O 2 (oT O 3 (O 40::O 41::O 42::O 43::int .i64 x28::bool true::O 46::O 47::int .i64 x24::int .i64 x28::v2::int .i64 x22::pointer (some p29)::int .i16 (rdL a1 x22 0)::int .i64 (i64w (rdL a1 x22 0))::int .i64 (i64w (x28*(i64w (rdL a1 x22 0))))::int .i64 (i64w (x24 - (i64w (x28*(i64w (rdL a1 x22 0))))))::int .i64 (i64w (x24 - (i64w (x28*(i64w (rdL a1 x22 0))))))::bool false::bool false::O 60::O 61::O 62::O 63::O 64::O 65::O 66::O 67::O 68::bool false::bool false::cnd (D 14) undef (O 71)::cnd (D 15) undef (O 72)::cnd (D 16) undef (O 73)::cnd (D 17) undef (O 74)::cnd (D 18) undef (O 75)::cnd (D 19) undef (O 76)::cnd (D 20) undef (O 77)::cnd (D 21) undef (O 78)::cnd (D 22) undef (O 79)::cnd (D 23) undef (O 80)::cnd (D 24) undef (O 81)::cnd (D 25) undef (O 82)::cnd (D 26) undef (O 83)::cnd (D 27) undef (O 84)::cnd (D 28) undef (O 85)::cnd (D 29) undef (O 86)::cnd (D 30) undef (O 87)::cnd (D 31) undef (O 88)::cnd (D 32) undef (O 89)::O 90::O 91::O 92::O 93::O 94::O 95::O 96::O 97::O 98::[])))∧St w0 [Rows2 50 kHS (RowO 2 (K.int .i64)) v9 ms10 r8,Row 49 (K.int .i8) v26 x27] w) ?_ ⟨?_,⟨?_,⟨?_,⟨?_,⟨?_,⟨?_,⟨?_,⟨?_,⟨?_,⟨?_,⟨?_,⟨?_,⟨?_,⟨?_,⟨?_,⟨?_,⟨?_,⟨?_,⟨?_,trivial⟩⟩⟩⟩⟩⟩⟩⟩⟩⟩⟩⟩⟩⟩⟩⟩⟩⟩⟩ ?_
    ·exact ⟨fun i=>T.getD i undef,(by subst hT;rfl),hs⟩
    ·
     rintro D t w hD hp hcl ⟨O,ht,hs⟩ rest hk
     have hp:AllDone D [13]:=hp
     obtain ⟨p13_,_⟩:=hp
     have q17_:=ny hcl 17 0 hD
     have q18_:=ny hcl 18 0 q17_
     have q20_:=ny hcl 20 0 q18_
     have q21_:=ny hcl 21 0 q20_
     have q25_:=ny hcl 25 0 q21_
     simp only [hD,q17_,q18_,q20_,q21_,q25_,cq,oT] at ht hs
     subst ht
     refine Qab rfl rfl (g_d rfl ?_)
     try dsimp only [Qae,Qaf]
     refine hk _ _ ⟨O,?_,hs.cast ?_⟩<;>simp only [oT,cq,Nat.reduceBEq,q17_,q18_,q20_,q21_,q25_]
    ·
     rintro D t w hD hp hcl ⟨O,ht,hs⟩ rest hk
     have hp:AllDone D [13]:=hp
     obtain ⟨p13_,_⟩:=hp
     have q16_:=ny hcl 16 0 hD
     have q17_:=ny hcl 17 1 q16_
     have q18_:=ny hcl 18 0 q17_
     have q20_:=ny hcl 20 0 q18_
     have q21_:=ny hcl 21 0 q20_
     have q25_:=ny hcl 25 0 q21_
     simp only [hD,q16_,q17_,q18_,q20_,q21_,q25_,cq,oT] at ht hs
     subst ht
     refine Qab rfl rfl (g_d rfl ?_)
     try dsimp only [Qae,Qaf]
     refine hk _ _ ⟨O,?_,hs.cast ?_⟩<;>simp only [oT,cq,Nat.reduceBEq,q16_,q17_,q18_,q20_,q21_,q25_]
    ·
     rintro D t w hD hp hcl ⟨O,ht,hs⟩ rest hk
     have hp:AllDone D [15,13]:=hp
     obtain ⟨p15_,p13_,_⟩:=hp
     have q17_:=ny hcl 17 1 hD
     have q18_:=ny hcl 18 0 q17_
     have q20_:=ny hcl 20 0 q18_
     have q21_:=ny hcl 21 0 q20_
     have q25_:=ny hcl 25 0 q21_
     simp only [hD,p15_,q17_,q18_,q20_,q21_,q25_,cq,oT] at ht hs
     subst ht
     refine Qab rfl rfl (g_d rfl ?_)
     try dsimp only [Qae,Qaf]
     refine hk _ _ ⟨O,?_,hs.cast ?_⟩<;>simp only [oT,cq,Nat.reduceBEq,p15_,q17_,q18_,q20_,q21_,q25_]
    ·
     rintro D t w hD hp hcl ⟨O,ht,hs⟩ rest hk
     have hp:AllDone D [14,16,13]:=hp
     obtain ⟨p14_,p16_,p13_,_⟩:=hp
     obtain ⟨p15_,_,_⟩:=(show D 16=true→AllDone D [15,13] from hcl 16 (by decide)) p16_
     have q18_:=ny hcl 18 0 hD
     have q20_:=ny hcl 20 0 q18_
     have q21_:=ny hcl 21 0 q20_
     have q25_:=ny hcl 25 0 q21_
     simp only [hD,p14_,p15_,p16_,q18_,q20_,q21_,q25_,cq,oT] at ht hs
     subst ht
     refine Qab rfl rfl (g_d rfl ?_)
     try dsimp only [Qae,Qaf]
     refine hk _ _ ⟨O,?_,hs.cast ?_⟩<;>simp only [oT,cq,Nat.reduceBEq,p14_,p15_,p16_,q18_,q20_,q21_,q25_]
    ·
     rintro D t w hD hp hcl ⟨O,ht,hs⟩ rest hk
     have hp:AllDone D [17,13]:=hp
     obtain ⟨p17_,p13_,_⟩:=hp
     obtain ⟨p14_,p16_,_,_⟩:=(show D 17=true→AllDone D [14,16,13] from hcl 17 (by decide)) p17_
     obtain ⟨p15_,_,_⟩:=(show D 16=true→AllDone D [15,13] from hcl 16 (by decide)) p16_
     have q20_:=ny hcl 20 0 hD
     have q21_:=ny hcl 21 0 q20_
     have q25_:=ny hcl 25 0 q21_
     simp only [hD,p14_,p15_,p16_,p17_,q20_,q21_,q25_,cq,oT] at ht hs
     subst ht
     refine Qab rfl rfl (g_d rfl ?_)
     try dsimp only [Qae,Qaf]
     refine hk _ _ ⟨O,?_,hs.cast ?_⟩<;>simp only [oT,cq,Nat.reduceBEq,p14_,p15_,p16_,p17_,q20_,q21_,q25_]
    ·
     rintro D t w hD hp hcl ⟨O,ht,hs⟩ rest hk
     have hp:AllDone D [13]:=hp
     obtain ⟨p13_,_⟩:=hp
     have q20_:=ny hcl 20 1 hD
     have q21_:=ny hcl 21 0 q20_
     have q25_:=ny hcl 25 0 q21_
     simp only [hD,q20_,q21_,q25_,cq,oT] at ht hs
     subst ht
     refine Qab rfl rfl (g_d rfl ?_)
     try dsimp only [Qae,Qaf]
     refine hk _ _ ⟨O,?_,hs.cast ?_⟩<;>simp only [oT,cq,Nat.reduceBEq,q20_,q21_,q25_]
    ·
     rintro D t w hD hp hcl ⟨O,ht,hs⟩ rest hk
     have hp:AllDone D [18,19,13]:=hp
     obtain ⟨p18_,p19_,p13_,_⟩:=hp
     obtain ⟨p17_,_,_⟩:=(show D 18=true→AllDone D [17,13] from hcl 18 (by decide)) p18_
     obtain ⟨p14_,p16_,_,_⟩:=(show D 17=true→AllDone D [14,16,13] from hcl 17 (by decide)) p17_
     obtain ⟨p15_,_,_⟩:=(show D 16=true→AllDone D [15,13] from hcl 16 (by decide)) p16_
     have q21_:=ny hcl 21 0 hD
     have q25_:=ny hcl 25 0 q21_
     simp only [hD,p14_,p15_,p16_,p17_,p18_,p19_,q21_,q25_,cq,oT] at ht hs
     subst ht
     refine Qab rfl rfl (g_d rfl ?_)
     try dsimp only [Qae,Qaf]
     refine hk _ _ ⟨O,?_,hs.cast ?_⟩<;>simp only [oT,cq,Nat.reduceBEq,p14_,p15_,p16_,p17_,p18_,p19_,q21_,q25_]
    ·
     rintro D t w hD hp hcl ⟨O,ht,hs⟩ rest hk
     have hp:AllDone D [20,13]:=hp
     obtain ⟨p20_,p13_,_⟩:=hp
     obtain ⟨p18_,p19_,_,_⟩:=(show D 20=true→AllDone D [18,19,13] from hcl 20 (by decide)) p20_
     obtain ⟨p17_,_,_⟩:=(show D 18=true→AllDone D [17,13] from hcl 18 (by decide)) p18_
     obtain ⟨p14_,p16_,_,_⟩:=(show D 17=true→AllDone D [14,16,13] from hcl 17 (by decide)) p17_
     obtain ⟨p15_,_,_⟩:=(show D 16=true→AllDone D [15,13] from hcl 16 (by decide)) p16_
     have q25_:=ny hcl 25 0 hD
     simp only [hD,p14_,p15_,p16_,p17_,p18_,p19_,p20_,q25_,cq,oT] at ht hs
     subst ht
     refine Qab rfl rfl (g_d rfl ?_)
     try dsimp only [Qae,Qaf]
     refine hk _ _ ⟨O,?_,hs.cast ?_⟩<;>simp only [oT,cq,Nat.reduceBEq,p14_,p15_,p16_,p17_,p18_,p19_,p20_,q25_]
    ·
     rintro D t w hD hp hcl ⟨O,ht,hs⟩ rest hk
     have hp:AllDone D [13]:=hp
     obtain ⟨p13_,_⟩:=hp
     have q24_:=ny hcl 24 0 hD
     have q25_:=ny hcl 25 1 q24_
     simp only [hD,q24_,q25_,cq,oT] at ht hs
     subst ht
     refine Qab rfl rfl (g_d rfl ?_)
     try dsimp only [Qae,Qaf]
     refine hk _ _ ⟨O,?_,hs.cast ?_⟩<;>simp only [oT,cq,Nat.reduceBEq,q24_,q25_]
    ·
     rintro D t w hD hp hcl ⟨O,ht,hs⟩ rest hk
     have hp:AllDone D [13]:=hp
     obtain ⟨p13_,_⟩:=hp
     have q24_:=ny hcl 24 1 hD
     have q25_:=ny hcl 25 1 q24_
     simp only [hD,q24_,q25_,cq,oT] at ht hs
     subst ht
     refine Qab rfl rfl (g_d rfl ?_)
     try dsimp only [Qae,Qaf]
     refine hk _ _ ⟨O,?_,hs.cast ?_⟩<;>simp only [oT,cq,Nat.reduceBEq,q24_,q25_]
    ·
     rintro D t w hD hp hcl ⟨O,ht,hs⟩ rest hk
     have hp:AllDone D [22,23,13]:=hp
     obtain ⟨p22_,p23_,p13_,_⟩:=hp
     have q25_:=ny hcl 25 1 hD
     simp only [hD,p22_,p23_,q25_,cq,oT] at ht hs
     subst ht
     refine Qab rfl rfl (g_d rfl ?_)
     try dsimp only [Qae,Qaf]
     refine hk _ _ ⟨O,?_,hs.cast ?_⟩<;>simp only [oT,cq,Nat.reduceBEq,p22_,p23_,q25_]
    ·
     rintro D t w hD hp hcl ⟨O,ht,hs⟩ rest hk
     have hp:AllDone D [21,24,13]:=hp
     obtain ⟨p21_,p24_,p13_,_⟩:=hp
     obtain ⟨p22_,p23_,_,_⟩:=(show D 24=true→AllDone D [22,23,13] from hcl 24 (by decide)) p24_
     obtain ⟨p20_,_,_⟩:=(show D 21=true→AllDone D [20,13] from hcl 21 (by decide)) p21_
     obtain ⟨p18_,p19_,_,_⟩:=(show D 20=true→AllDone D [18,19,13] from hcl 20 (by decide)) p20_
     obtain ⟨p17_,_,_⟩:=(show D 18=true→AllDone D [17,13] from hcl 18 (by decide)) p18_
     obtain ⟨p14_,p16_,_,_⟩:=(show D 17=true→AllDone D [14,16,13] from hcl 17 (by decide)) p17_
     obtain ⟨p15_,_,_⟩:=(show D 16=true→AllDone D [15,13] from hcl 16 (by decide)) p16_
     simp only [hD,p14_,p15_,p16_,p17_,p18_,p19_,p20_,p21_,p22_,p23_,p24_,cq,oT] at ht hs
     subst ht
     refine Qab rfl rfl (g_d rfl ?_)
     try dsimp only [Qae,Qaf]
     refine hk _ _ ⟨O,?_,hs.cast ?_⟩<;>simp only [oT,cq,Nat.reduceBEq,p14_,p15_,p16_,p17_,p18_,p19_,p20_,p21_,p22_,p23_,p24_]
    ·
     rintro D t w hD hp hcl ⟨O,ht,hs⟩ rest hk
     have hp:AllDone D [13]:=hp
     obtain ⟨p13_,_⟩:=hp
     have q28_:=ny hcl 28 0 hD
     have q29_:=ny hcl 29 0 q28_
     have q31_:=ny hcl 31 0 q29_
     have q32_:=ny hcl 32 0 q31_
     simp only [hD,q28_,q29_,q31_,q32_,cq,oT] at ht hs
     subst ht
     refine Qab rfl rfl (g_d rfl ?_)
     try dsimp only [Qae,Qaf]
     refine hk _ _ ⟨O,?_,hs.cast ?_⟩<;>simp only [oT,cq,Nat.reduceBEq,q28_,q29_,q31_,q32_]
    ·
     rintro D t w hD hp hcl ⟨O,ht,hs⟩ rest hk
     have hp:AllDone D [13]:=hp
     obtain ⟨p13_,_⟩:=hp
     have q28_:=ny hcl 28 1 hD
     have q29_:=ny hcl 29 0 q28_
     have q31_:=ny hcl 31 0 q29_
     have q32_:=ny hcl 32 0 q31_
     simp only [hD,q28_,q29_,q31_,q32_,cq,oT] at ht hs
     subst ht
     refine Qab rfl rfl (g_d rfl ?_)
     try dsimp only [Qae,Qaf]
     refine hk _ _ ⟨O,?_,hs.cast ?_⟩<;>simp only [oT,cq,Nat.reduceBEq,q28_,q29_,q31_,q32_]
    ·
     rintro D t w hD hp hcl ⟨O,ht,hs⟩ rest hk
     have hp:AllDone D [26,27,13]:=hp
     obtain ⟨p26_,p27_,p13_,_⟩:=hp
     have q29_:=ny hcl 29 0 hD
     have q31_:=ny hcl 31 0 q29_
     have q32_:=ny hcl 32 0 q31_
     simp only [hD,p26_,p27_,q29_,q31_,q32_,cq,oT] at ht hs
     subst ht
     refine Qab rfl rfl (g_d rfl ?_)
     try dsimp only [Qae,Qaf]
     refine hk _ _ ⟨O,?_,hs.cast ?_⟩<;>simp only [oT,cq,Nat.reduceBEq,p26_,p27_,q29_,q31_,q32_]
    ·
     rintro D t w hD hp hcl ⟨O,ht,hs⟩ rest hk
     have hp:AllDone D [28,13]:=hp
     obtain ⟨p28_,p13_,_⟩:=hp
     obtain ⟨p26_,p27_,_,_⟩:=(show D 28=true→AllDone D [26,27,13] from hcl 28 (by decide)) p28_
     have q31_:=ny hcl 31 0 hD
     have q32_:=ny hcl 32 0 q31_
     simp only [hD,p26_,p27_,p28_,q31_,q32_,cq,oT] at ht hs
     subst ht
     refine Qab rfl rfl (g_d rfl ?_)
     try dsimp only [Qae,Qaf]
     refine hk _ _ ⟨O,?_,hs.cast ?_⟩<;>simp only [oT,cq,Nat.reduceBEq,p26_,p27_,p28_,q31_,q32_]
    ·
     rintro D t w hD hp hcl ⟨O,ht,hs⟩ rest hk
     have hp:AllDone D [13]:=hp
     obtain ⟨p13_,_⟩:=hp
     have q31_:=ny hcl 31 1 hD
     have q32_:=ny hcl 32 0 q31_
     simp only [hD,q31_,q32_,cq,oT] at ht hs
     subst ht
     refine Qab rfl rfl (g_d rfl ?_)
     try dsimp only [Qae,Qaf]
     refine hk _ _ ⟨O,?_,hs.cast ?_⟩<;>simp only [oT,cq,Nat.reduceBEq,q31_,q32_]
    ·
     rintro D t w hD hp hcl ⟨O,ht,hs⟩ rest hk
     have hp:AllDone D [29,30,13]:=hp
     obtain ⟨p29_,p30_,p13_,_⟩:=hp
     obtain ⟨p28_,_,_⟩:=(show D 29=true→AllDone D [28,13] from hcl 29 (by decide)) p29_
     obtain ⟨p26_,p27_,_,_⟩:=(show D 28=true→AllDone D [26,27,13] from hcl 28 (by decide)) p28_
     have q32_:=ny hcl 32 0 hD
     simp only [hD,p26_,p27_,p28_,p29_,p30_,q32_,cq,oT] at ht hs
     subst ht
     refine Qab rfl rfl (g_d rfl ?_)
     try dsimp only [Qae,Qaf]
     refine hk _ _ ⟨O,?_,hs.cast ?_⟩<;>simp only [oT,cq,Nat.reduceBEq,p26_,p27_,p28_,p29_,p30_,q32_]
    ·
     rintro D t w hD hp hcl ⟨O,ht,hs⟩ rest hk
     have hp:AllDone D [31,13]:=hp
     obtain ⟨p31_,p13_,_⟩:=hp
     obtain ⟨p29_,p30_,_,_⟩:=(show D 31=true→AllDone D [29,30,13] from hcl 31 (by decide)) p31_
     obtain ⟨p28_,_,_⟩:=(show D 29=true→AllDone D [28,13] from hcl 29 (by decide)) p29_
     obtain ⟨p26_,p27_,_,_⟩:=(show D 28=true→AllDone D [26,27,13] from hcl 28 (by decide)) p28_
     simp only [hD,p26_,p27_,p28_,p29_,p30_,p31_,cq,oT] at ht hs
     subst ht
     refine Qab rfl rfl (g_d rfl ?_)
     try dsimp only [Qae,Qaf]
     refine hk _ _ ⟨O,?_,hs.cast ?_⟩<;>simp only [oT,cq,Nat.reduceBEq,p26_,p27_,p28_,p29_,p30_,p31_]
    intro D t w rest hall hO39_ hI
    obtain ⟨O,ht,hs⟩:=hI
    have p14_:=hall 14 (by decide) rfl
    have p15_:=hall 15 (by decide) rfl
    have p16_:=hall 16 (by decide) rfl
    have p17_:=hall 17 (by decide) rfl
    have p18_:=hall 18 (by decide) rfl
    have p19_:=hall 19 (by decide) rfl
    have p20_:=hall 20 (by decide) rfl
    have p21_:=hall 21 (by decide) rfl
    have p22_:=hall 22 (by decide) rfl
    have p23_:=hall 23 (by decide) rfl
    have p24_:=hall 24 (by decide) rfl
    have p25_:=hall 25 (by decide) rfl
    have p26_:=hall 26 (by decide) rfl
    have p27_:=hall 27 (by decide) rfl
    have p28_:=hall 28 (by decide) rfl
    have p29_:=hall 29 (by decide) rfl
    have p30_:=hall 30 (by decide) rfl
    have p31_:=hall 31 (by decide) rfl
    have p32_:=hall 32 (by decide) rfl
    simp only [p14_,p15_,p16_,p17_,p18_,p19_,p20_,p21_,p22_,p23_,p24_,p25_,p26_,p27_,p28_,p29_,p30_,p31_,p32_,cq,oT] at ht hs
    subst ht
    obtain ⟨rest,rfl,hO40_⟩:=ord_one (m:=8589934591) hO39_ rfl 33 (m':=17179869183) (by decide+kernel) rfl
    clear hO39_
    refine Qab rfl rfl (g_d rfl ?_)
    obtain ⟨rest,rfl,hO41_⟩:=ord_one (m:=17179869183) hO40_ rfl 34 (m':=34359738367) (by decide+kernel) rfl
    clear hO40_
    refine Qaa (v:=bool false) rfl rfl rfl (g_d rfl ?_)
    try dsimp only [Qae,Qaf]
    obtain rfl:=ord_end hO41_ rfl (by decide+kernel)
    refine Qac (Qal rfl (Qay ?_))
    refine QaH ?_
    have hs:=hs.pull 1 rfl
    have hs:=hs.pull 1 rfl
    have hs:St _ [_,_] _:=St.take (Γ':=[]) hs
    exact ha _ _ ⟨H,rfl,hs⟩
  intro hb
  rw [if_neg (b_dec_f hb)] at H
  refine g_d rfl (Qac (Qal rfl ?_))
  obtain rfl:=QsJ H
  subst Hx2_
  have hs:=hs.pull 1 rfl
  have hs:=hs.pull 1 rfl
  have hs:St _ [_,_] _:=St.take (Γ':=[]) hs
  refine Qbc rfl ?_
  exact ha2_ _ _ ⟨x24,v26,x27,Hr2_,rfl,hs⟩
 intro hb
 rw [if_neg (b_dec_f hb)] at H
 refine g_d rfl (Qac (Qal rfl ?_))
 obtain rfl:=QsJ H
 subst Hx1_
 have hs:=hs.pull 1 rfl
 have hs:St _ [_] _:=St.take (Γ':=[_]) hs
 refine Qbc rfl ?_
 exact ha1_ _ _ ⟨v20,x21,Hr1_,rfl,hs⟩
end Go.Proofs.YtmineidejeacnaaGreatDoorX
