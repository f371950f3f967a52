import Derived.Test.YtmineidejeacnaaGreatDoorP9
namespace Go.Proofs.YtmineidejeacnaaGreatDoorX
open Go Go.RowKit Go.Proofs
open Go.Value (int pointer bool agg slice string tuple)
set_option maxHeartbeats 8000000
set_option maxRecDepth 100000
set_option linter.unusedVariables false
set_option linter.unusedSimpArgs false
def Qbs.post (w0:World) (r:Int) (v:Value) (w:World):Prop:=v=int .i64 r∧St w0 [] w
theorem Qbs.calls {N:Nat} {a1:Bool} {w0:World} {r:Int} (H:Qbs.f N a1=some r):
 Calls Tryz.prog 37 #[bool a1] w0 fun e w=>∃ v,e= .returned v∧Qbs.post w0 r v w:=by
 unfold Qbs.f at H
 have hs:St w0 [] w0:=St.refl w0
 refine calls_of_g (n:=3) Tryz.func37 rfl rfl ?_
 show G _ _ _ _ [_,_,_,_] _
 refine Qad (Qag [0] rfl ?_)
 refine Qaa (v:=int .i64 0) rfl rfl rfl (Qac (Qad (Qad (Qag [0] rfl ?_))))
 refine Qas (B:=a1) rfl rfl rfl ?_ ?_
 ·
  intro hb
  rw [if_pos (b_var_t hb)] at H
  refine Qac (Qai rfl (Qad (Qag [0] rfl ?_)))
  refine Qaa (v:=int .i64 (-1)) rfl rfl rfl ?_
  show G _ _ _ _ [_,_,_,_] _
  refine Qac ?_
  obtain rfl:=QsJ H
  refine Qaq Tryz.func37 (v:=int .i64 (-1)) (res1 rfl rfl) ?_
  have hs:St _ [] _:=St.take (Γ':=[]) hs
  exact ⟨_,rfl,rfl,hs⟩
 intro hb
 rw [if_neg (b_var_f hb)] at H
 refine Qac (Qal rfl (Qay (Qad (Qag [0] rfl ?_))))
 refine Qaa (v:=int .i64 0) rfl rfl rfl ?_
 show G _ _ _ _ [_,_,_,_] _
 refine Qac ?_
 obtain rfl:=QsJ H
 refine Qaq Tryz.func37 (v:=int .i64 0) (res1 rfl rfl) ?_
 have hs:St _ [] _:=St.take (Γ':=[]) hs
 exact ⟨_,rfl,rfl,hs⟩
def Qaj.post (w0:World) (r:(List (List Int))) (v:Value) (w:World):Prop:=∃ u1:Value,∃ ms2:(List HS),v=u1∧St w0 [Rows2 50 kHS (RowO 2 (K.int .i64)) u1 ms2 r] w
theorem Qaj.calls {N:Nat} {a1:(List Int)} {a3:Bool} {v2:Value} {w0:World} {r:(List (List Int))} (hr0:RdRow (K.int .i16) w0 v2 a1) (H:Qaj.f N a1 a3=some r):
 Calls Tryz.prog 36 #[v2,bool a3] w0 fun e w=>∃ v,e= .returned v∧Qaj.post w0 r v w:=by
 unfold Qaj.f at H
 have hs:St w0 [] w0:=St.refl w0
 refine calls_of_g (n:=126) Tryz.func36 rfl rfl ?_
 show G _ _ _ _ (_::_::_::_::_::_::_::_::_::_::_::_::_::_::_::_::_::_::_::_::_::_::_::_::_::_::_::_::_::_::_::_::_::_::_::_::_::_::_::_::_::_::_::_::_::_::_::_::_::_::_::_::_::_::_::_::_::_::_::_::_::_::_::_::_::_::_::_::_::_::_::_::_::_::_::_::_::_::_::_::_::_::_::_::_::_::_::_::_::_::_::_::_::_::_::_::_::_::_::_::_::_::_::_::_::_::_::_::_::_::_::_::_::_::_::_::_::_::_::_::_::_::_::_::_::_::_::_::[]) _
 refine Qad (Qag [0] rfl ?_)
 refine Qaa (v:=slice none 0 0) rfl rfl rfl (g_d rfl ?_)
 try dsimp only [Qae,Qaf]
 refine Qac (Qad (Qag [0] rfl ?_))
 refine Qaa (v:=int .i64 4001) rfl rfl rfl (g_d rfl (Qac (Qad (Qag [0,1,2,3,4] rfl ?_))))
 refine Qaa (v:=v2) rfl rfl rfl (g_d rfl ?_)
 refine Qba (hs.rd hr0) rfl rfl rfl rfl rfl (g_d rfl ?_)
 try dsimp only [Qae,Qaf]
 refine Qaa (v:=int .i64 (i64w ((a1.length:Int)+1))) rfl rfl rfl (g_d rfl ?_)
 obtain ⟨g,H⟩:=ite_get H
 refine Qb8 (κ:=kHS) (z:=zHS) (zc:=(encHS zHS)) (zv:=(slice none 0 0)) (B:=24) hs rfl rfl rfl rfl rfl g.1 rfl rfl rfl rfl rfl (fun _=>⟨rfl,rfl⟩) rfl (by decide) (by have:=g.2;omega) ?_
 intro v4 w hs
 have hs:=hs.r2make (I:=(RowO 2 (K.int .i64))) (y:=([]:(List Int))) rowO0
 have hs:St _ [_] _:=hs
 refine g_d rfl ?_
 try dsimp only [Qae,Qaf]
 refine Qaa (v:=v4) rfl rfl rfl (g_d rfl (Qac (Qad (Qad (Qag [0] rfl ?_)))))
 refine Qaa (v:=int .i64 0) rfl rfl rfl (g_d rfl ?_)
 try dsimp only [Qae,Qaf]
 refine Qac ?_
 obtain ⟨o1_,Ho,Hr1_⟩:=bind_get H
 refine QaC (J:=fun t w=>∃ ms34:(List HS),∃ x35:(List (List Int)),Qaj.a0 N a1 a3 x35=some r∧Fr t (fun O=>(v2::bool a3::O 2::O 3::O 4::int .i64 4001::v4::O 7::O 8::O 9::oT O 1 (oT O 2 (oT O 3 (oT O 4 (oT O 5 (oT O 6 (oT O 7 (oT O 8 (oT O 9 (oT O 10 (oT O 11 (O 120::O 121::O 122::O 123::O 124::O 125::O 126::O 127::[]))))))))))):List Value))∧St w0 [Rows2 50 kHS (RowO 2 (K.int .i64)) v4 ms34 x35] w) ?_ ?_
 ·
  rintro t w ⟨ms34,x35,H,hf,hs⟩
  obtain ⟨O,rfl⟩:=hf.open
  try dsimp only [oT]
  unfold Qaj.a0 at H
  refine Qad (Qag [0,1,2,3,4,5,6] rfl ?_)
  refine Qaa (v:=v4) rfl rfl rfl (g_d rfl ?_)
  refine Qaa (v:=v2) rfl rfl rfl (g_d rfl ?_)
  refine Qba (hs.rd hr0) rfl rfl rfl rfl rfl (g_d rfl ?_)
  try dsimp only [Qae,Qaf]
  obtain ⟨g13,H⟩:=ite_get H
  refine Qa6 fkHS zHS (hs.r2row 0 rfl) rfl (fun _=>rfl) g13.1 (hs.r2lt 0 rfl g13.2) rfl rfl rfl rfl rfl ?_
  intro p36 hp36 lp36 op36
  refine g_d rfl ?_
  refine QaA rfl rfl (v:=slice (rdL ms34 (a1.length:Int) zHS).a (rdL ms34 (a1.length:Int) zHS).n (rdL ms34 (a1.length:Int) zHS).c) rfl rfl (fun _=>rfl) hp36 (g_d rfl ?_)
  try dsimp only [Qae,Qaf]
  obtain ⟨g14,H⟩:=ite_get H
  refine Qa6 (fkI .i64) 0 (hs.r2rd 0 rfl g13.1 g13.2) rfl (fun _=>rfl) g14.1 g14.2 rfl rfl rfl rfl rfl ?_
  intro p37 hp37 lp37 op37
  refine g_d rfl ?_
  refine Qb1 (y:=0) (fkI .i64) g13.1 g13.2 g14.1 g14.2 op37 hs rfl rfl rfl rfl rfl (fun _=>rfl) ?_
  intro w hs
  refine g_n rfl (Qac (Qad (Qad (Qag [0,1,2,3] rfl ?_))))
  refine Qaa (v:=v2) rfl rfl rfl (g_d rfl ?_)
  refine Qba (hs.rd hr0) rfl rfl rfl rfl rfl (g_d rfl ?_)
  try dsimp only [Qae,Qaf]
  refine Qaa (v:=int .i64 (i64w ((a1.length:Int) - 1))) rfl rfl rfl (g_d rfl ?_)
  refine Qaa (v:=int .i64 (i64w ((a1.length:Int) - 1))) rfl rfl rfl (g_d rfl ?_)
  try dsimp only [Qae,Qaf]
  refine Qac ?_
  obtain ⟨o1_,Ho,Hr1_⟩:=bind_get H
  refine QaC (J:=fun t w=>∃ x189:(List (List Int)),Qaj.a2 N x189=some r∧Fr t (fun O=>(O 0::O 1::O 2::O 3::O 4::O 5::v4::O 7::O 8::O 9::oT O 1 (oT O 2 (oT O 3 (oT O 4 (oT O 5 (oT O 6 (oT O 7 (oT O 8 (oT O 9 (oT O 10 (oT O 11 (O 120::O 121::O 122::O 123::O 124::O 125::O 126::O 127::[]))))))))))):List Value))∧St w0 [Rows2 50 kHS (RowO 2 (K.int .i64)) v4 ms34 x189] w) ?_ ?_
  ·
   rintro t w ⟨x189,H,hf,hs⟩
   obtain ⟨O,rfl⟩:=hf.open
   try dsimp only [oT]
   unfold Qaj.a2 at H
   refine Qad (Qag [0,1] rfl ?_)
   refine Qaa (v:=v4) rfl rfl rfl (g_d rfl ?_)
   refine Qaa (v:=v4) rfl rfl rfl (g_d rfl ?_)
   try dsimp only [Qae,Qaf]
   refine Qac ?_
   obtain rfl:=QsJ H
   refine Qaq Tryz.func36 (v:=v4) (res1 rfl rfl) ?_
   have hs:=hs.pull 0 rfl
   have hs:St _ [_] _:=St.take (Γ':=[]) hs
   exact ⟨_,rfl,v4,ms34,rfl,hs⟩
  intro ha1_
  have hs:=hs.pull 0 rfl
  have hs:St _ [_] _:=St.take (Γ':=[]) hs
  refine QaP (I:=fun n_ t w=>∃ x113:(List (List Int)),∃ x114:Int,rounds (fun s=>Qaj.b2 N a3 a1 s.1 s.2) n_ (x113,x114)=some o1_∧Fr t (fun O=>(v2::bool a3::O 2::O 3::O 4::int .i64 4001::v4::O 7::O 8::int .i64 x114::oT O 1 (oT O 2 (oT O 3 (oT O 4 (oT O 5 (oT O 6 (oT O 7 (oT O 8 (oT O 9 (oT O 10 (oT O 11 (O 120::O 121::O 122::O 123::O 124::O 125::O 126::O 127::[]))))))))))):List Value))∧St w0 [Rows2 50 kHS (RowO 2 (K.int .i64)) v4 ms34 x113] w) N ⟨stL x35 (a1.length:Int) (stL (rdL x35 (a1.length:Int) []) 2000 0),i64w ((a1.length:Int) - 1),Ho,rfl,hs⟩ ?_ ?_
  ·
   rintro _ _ ⟨x113,x114,h,_⟩
   exact rounds_zero h
  intro n_ ih1_
  rintro t w ⟨x113,x114,Ho,hf,hs⟩
  obtain ⟨O,rfl⟩:=hf.open
  try dsimp only [oT]
  obtain ⟨x125_,H,Hx1_⟩:=rounds_succ Ho
  have H:Qaj.b2 N a3 a1 x113 x114=some x125_:=H
  unfold Qaj.b2 at H
  refine Qad (Qad (Qag [0,1] rfl ?_))
  refine Qaa (v:=int .i64 x114) rfl rfl rfl (g_d rfl ?_)
  refine Qas (B:=decide (x114≥0)) rfl rfl rfl ?_ ?_
  ·
   intro hb
   rw [if_pos (b_dec_t hb)] at H
   refine g_d rfl ?_
   try dsimp only [Qae,Qaf]
   refine Qac (Qai rfl (Qay (Qad ?_)))
   refine Qbe (Qad (Qag [0] rfl ?_))
   refine Qaa (v:=int .i64 0) rfl rfl rfl (g_d rfl (Qac ?_))
   obtain ⟨o2_,Ho,Hr2_⟩:=bind_get H
   refine QaC (J:=fun t w=>∃ x188:(List (List Int)),Qaj.a4 N x114 x188=some x125_∧Fr t (fun O=>(v2::bool a3::O 2::O 3::O 4::int .i64 4001::v4::O 7::O 8::int .i64 x114::oT O 1 (oT O 2 (oT O 3 (oT O 4 (oT O 5 (oT O 6 (oT O 7 (oT O 8 (oT O 9 (oT O 10 (oT O 11 (O 120::O 121::O 122::O 123::O 124::O 125::O 126::O 127::[]))))))))))):List Value))∧St w0 [Rows2 50 kHS (RowO 2 (K.int .i64)) v4 ms34 x188] w) ?_ ?_
   ·
    rintro t w ⟨x188,H,hf,hs⟩
    obtain ⟨O,rfl⟩:=hf.open
    try dsimp only [oT]
    unfold Qaj.a4 at H
    refine QaH (Qag [0,1,2] rfl ?_)
    refine Qaa (v:=int .i64 x114) rfl rfl rfl (g_d rfl ?_)
    refine Qaa (v:=int .i64 (i64w (x114 - 1))) rfl rfl rfl (g_d rfl ?_)
    try dsimp only [Qae,Qaf]
    refine Qaa (v:=int .i64 (i64w (x114 - 1))) rfl rfl rfl (g_d rfl (Qac ?_))
    obtain rfl:=QsJ H
    have hs:=hs.pull 0 rfl
    have hs:St _ [_] _:=St.take (Γ':=[]) hs
    exact ih1_ _ _ ⟨x188,i64w (x114 - 1),Hx1_,rfl,hs⟩
   intro ha2_
   have hs:=hs.pull 0 rfl
   have hs:St _ [_] _:=St.take (Γ':=[]) hs
   refine QaP (I:=fun n_ t w=>∃ x151:(List (List Int)),∃ x152:Int,rounds (fun s=>Qaj.b4 N a3 x114 a1 s.1 s.2) n_ (x151,x152)=some o2_∧Fr t (fun O=>(v2::bool a3::O 2::O 3::O 4::int .i64 4001::v4::O 7::O 8::int .i64 x114::int .i64 x152::O 11::O 12::O 13::O 14::O 15::O 16::O 17::O 18::O 19::oT O 2 (oT O 3 (oT O 4 (oT O 5 (oT O 6 (oT O 7 (oT O 8 (oT O 9 (oT O 10 (oT O 11 (O 120::O 121::O 122::O 123::O 124::O 125::O 126::O 127::[])))))))))):List Value))∧St w0 [Rows2 50 kHS (RowO 2 (K.int .i64)) v4 ms34 x151] w) N ⟨x113,0,Ho,rfl,hs⟩ ?_ ?_
   ·
    rintro _ _ ⟨x151,x152,h,_⟩
    exact rounds_zero h
   intro n_ ih2_
   rintro t w ⟨x151,x152,Ho,hf,hs⟩
   obtain ⟨O,rfl⟩:=hf.open
   try dsimp only [oT]
   obtain ⟨x124_,H,Hx2_⟩:=rounds_succ Ho
   have H:Qaj.b4 N a3 x114 a1 x151 x152=some x124_:=H
   unfold Qaj.b4 at H
   refine Qad (Qad (Qag [0,1,2] rfl ?_))
   refine Qaa (v:=int .i64 x152) rfl rfl rfl (g_d rfl ?_)
   refine Qaa (v:=int .i64 4001) rfl rfl rfl (g_d rfl ?_)
   refine Qas (B:=decide (x152< 4001)) rfl rfl rfl ?_ ?_
   ·
    intro hb
    rw [if_pos (b_dec_t hb)] at H
    refine g_d rfl (Qac (Qai rfl (Qay (Qad ?_))))
    refine Qbe (Qad (Qag [0,1,2] rfl ?_))
    refine Qaa (v:=bool a3) rfl rfl rfl (g_d rfl ?_)
    obtain ⟨r153,Hr153,H⟩:=bind_get H
    refine Qaw (args:=[bool a3]) rfl rfl (Qax rfl (callFunc_enter Tryz.func37 rfl rfl) rfl) (Qbs.calls (a1:=a3) Hr153) ?_
    rintro _ w ⟨rfl,hs2⟩
    have hs:St _ [_] _:=hs.call hs2
    refine g_d rfl ?_
    try dsimp only [Qae,Qaf]
    refine Qaa (v:=int .i64 r153) rfl rfl rfl (g_d rfl (Qac ?_))
    obtain ⟨o3_,Ho,Hr3_⟩:=bind_get H
    refine QaC (J:=fun t w=>∃ x187:(List (List Int)),Qaj.a6 N x152 x187=some x124_∧Fr t (fun O=>(v2::bool a3::O 2::O 3::O 4::int .i64 4001::v4::O 7::O 8::int .i64 x114::int .i64 x152::O 11::O 12::O 13::O 14::O 15::O 16::O 17::O 18::O 19::oT O 2 (oT O 3 (oT O 4 (oT O 5 (oT O 6 (oT O 7 (oT O 8 (oT O 9 (oT O 10 (oT O 11 (O 120::O 121::O 122::O 123::O 124::O 125::O 126::O 127::[])))))))))):List Value))∧St w0 [Rows2 50 kHS (RowO 2 (K.int .i64)) v4 ms34 x187] w) ?_ ?_
    ·
     rintro t w ⟨x187,H,hf,hs⟩
     obtain ⟨O,rfl⟩:=hf.open
     try dsimp only [oT]
     unfold Qaj.a6 at H
     refine QaH (Qag [0,1,2] rfl ?_)
     refine Qaa (v:=int .i64 x152) rfl rfl rfl (g_d rfl ?_)
     refine Qaa (v:=int .i64 (i64w (x152+1))) rfl rfl rfl (g_d rfl ?_)
     try dsimp only [Qae,Qaf]
     refine Qaa (v:=int .i64 (i64w (x152+1))) rfl rfl rfl (g_d rfl (Qac ?_))
     obtain rfl:=QsJ H
     have hs:=hs.pull 0 rfl
     have hs:St _ [_] _:=St.take (Γ':=[]) hs
     exact ih2_ _ _ ⟨x187,i64w (x152+1),Hx2_,rfl,hs⟩
    intro ha3_
    have hs:=hs.pull 0 rfl
    have hs:St _ [_] _:=St.take (Γ':=[]) hs
    refine QaP (I:=fun n_ t w=>∃ x170:(List (List Int)),∃ x171:Int,rounds (fun s=>Qaj.b6 N x114 a1 x152 s.1 s.2) n_ (x170,x171)=some o3_∧Fr t (fun O=>(v2::bool a3::O 2::O 3::O 4::int .i64 4001::v4::O 7::O 8::int .i64 x114::int .i64 x152::int .i64 x171::O 12::O 13::O 14::O 15::O 16::O 17::O 18::O 19::oT O 2 (oT O 3 (oT O 4 (oT O 5 (oT O 6 (oT O 7 (oT O 8 (oT O 9 (oT O 10 (oT O 11 (O 120::O 121::O 122::O 123::O 124::O 125::O 126::O 127::[])))))))))):List Value))∧St w0 [Rows2 50 kHS (RowO 2 (K.int .i64)) v4 ms34 x170] w) N ⟨x151,r153,Ho,rfl,hs⟩ ?_ ?_
    ·
     rintro _ _ ⟨x170,x171,h,_⟩
     exact rounds_zero h
    intro n_ ih3_
    rintro t w ⟨x170,x171,Ho,hf,hs⟩
    obtain ⟨O,rfl⟩:=hf.open
    try dsimp only [oT]
    obtain ⟨x123_,H,Hx3_⟩:=rounds_succ Ho
    have H:Qaj.b6 N x114 a1 x152 x170 x171=some x123_:=H
    unfold Qaj.b6 at H
    refine Qad (Qad (Qag [0,1] rfl ?_))
    refine Qaa (v:=int .i64 x171) rfl rfl rfl (g_d rfl ?_)
    refine Qas (B:=decide (x171≤1)) rfl rfl rfl ?_ ?_
    ·
     intro hb
     rw [if_pos (b_dec_t hb)] at H
     refine g_d rfl (Qac (Qai rfl (Qay (Qad ?_))))
     refine QaC (J:=(fun t w=>∃ x186:(List (List Int)),Qaj.j8 N x171 x186=some x123_∧Fr t (fun O=>(v2::bool a3::O 2::O 3::O 4::int .i64 4001::v4::O 7::O 8::int .i64 x114::int .i64 x152::int .i64 x171::O 12::O 13::O 14::O 15::O 16::O 17::O 18::O 19::oT O 2 (oT O 3 (oT O 4 (oT O 5 (oT O 6 (oT O 7 (oT O 8 (oT O 9 (oT O 10 (oT O 11 (O 120::O 121::O 122::O 123::O 124::O 125::O 126::O 127::[])))))))))):List Value))∧St w0 [Rows2 50 kHS (RowO 2 (K.int .i64)) v4 ms34 x186] w)) ?_ ?_
     ·
      rintro t w ⟨x186,H,hf,hs⟩
      obtain ⟨O,rfl⟩:=hf.open
      try dsimp only [oT]
      unfold Qaj.j8 at H
      refine Qag [0,1,2] rfl ?_
      refine Qaa (v:=int .i64 x171) rfl rfl rfl (g_d rfl ?_)
      refine Qaa (v:=int .i64 (i64w (x171+1))) rfl rfl rfl (g_d rfl ?_)
      try dsimp only [Qae,Qaf]
      refine Qaa (v:=int .i64 (i64w (x171+1))) rfl rfl rfl (g_d rfl (Qac ?_))
      obtain rfl:=QsJ H
      have hs:=hs.pull 0 rfl
      have hs:St _ [_] _:=St.take (Γ':=[]) hs
      exact ih3_ _ _ ⟨x186,i64w (x171+1),Hx3_,rfl,hs⟩
     intro ha
     refine Qad (Qag [0,1,2,3,4,5,6,7,8,9] rfl ?_)
     refine Qaa (v:=int .i64 x152) rfl rfl rfl (g_d rfl ?_)
     refine Qaa (v:=int .i64 x171) rfl rfl rfl (g_d rfl ?_)
     refine Qaa (v:=v2) rfl rfl rfl (g_d rfl ?_)
     refine Qaa (v:=int .i64 x114) rfl rfl rfl (g_d rfl ?_)
     obtain ⟨g110,H⟩:=ite_get H
     refine Qa6 (fkI .i16) 0 (hs.rd hr0) rfl (fun _=>rfl) g110.1 g110.2 rfl rfl rfl rfl rfl ?_
     intro p172 hp172 lp172 op172
     refine g_d rfl ?_
     try dsimp only [Qae,Qaf]
     refine QaA rfl rfl (v:=int .i16 (rdL a1 x114 0)) rfl rfl (fun _=>rfl) hp172 (g_d rfl ?_)
     refine Qaa (v:=int .i64 (i64w (rdL a1 x114 0))) rfl rfl rfl (g_d rfl ?_)
     refine Qaa (v:=int .i64 (i64w (x171*(i64w (rdL a1 x114 0))))) rfl rfl rfl (g_d rfl ?_)
     try dsimp only [Qae,Qaf]
     refine Qaa (v:=int .i64 (i64w (x152 - (i64w (x171*(i64w (rdL a1 x114 0))))))) rfl rfl rfl (g_d rfl ?_)
     refine Qaa (v:=int .i64 (i64w (x152 - (i64w (x171*(i64w (rdL a1 x114 0))))))) rfl rfl rfl (g_d rfl ?_)
     try dsimp only [Qae,Qaf]
     refine Qac (Qad (Qad (Qag [0,1,2,3,4,5,6,7,8,9,10,11,12,13,14,15] rfl ?_)))
     refine Qaa (v:=int .i64 (i64w (x152 - (i64w (x171*(i64w (rdL a1 x114 0))))))) rfl rfl rfl (g_d rfl ?_)
     refine Qaa (v:=int .i64 4001) rfl rfl rfl (g_d rfl ?_)
     refine Qaa (v:=int .i64 (i64w (4001 - 1))) rfl rfl rfl (g_d rfl ?_)
     obtain ⟨r173,Hr173,H⟩:=bind_get H
     refine Qaw (args:=[int .i64 (i64w (x152 - (i64w (x171*(i64w (rdL a1 x114 0)))))),int .i64 0,int .i64 (i64w (4001 - 1))]) rfl rfl (Qax rfl (callFunc_enter Tryz.func38 rfl rfl) rfl) (Qbg.calls (a1:=i64w (x152 - (i64w (x171*(i64w (rdL a1 x114 0)))))) (a2:=0) (a3:=i64w (4001 - 1)) Hr173) ?_
     rintro _ w ⟨rfl,hs2⟩
     have hs:St _ [_] _:=hs.call hs2
     cases r173 with
     |true=>
      rw [if_pos rfl] at H
      refine g_d rfl ?_
      refine Qaa (v:=bool false) rfl rfl rfl (g_d rfl ?_)
      try dsimp only [Qae,Qaf]
      refine Qaa (v:=bool false) rfl rfl rfl (g_d rfl ?_)
      refine Qaa (v:=v4) rfl rfl rfl (g_d rfl ?_)
      refine Qaa (v:=int .i64 x114) rfl rfl rfl (g_d rfl ?_)
      refine Qaa (v:=int .i64 (i64w (x114+1))) rfl rfl rfl (g_d rfl ?_)
      obtain ⟨g111,H⟩:=ite_get H
      refine Qa6 fkHS zHS (hs.r2row 0 rfl) rfl (fun _=>rfl) g111.1 (hs.r2lt 0 rfl g111.2) rfl rfl rfl rfl rfl ?_
      intro p174 hp174 lp174 op174
      refine g_d rfl ?_
      try dsimp only [Qae,Qaf]
      refine QaA rfl rfl (v:=slice (rdL ms34 (i64w (x114+1)) zHS).a (rdL ms34 (i64w (x114+1)) zHS).n (rdL ms34 (i64w (x114+1)) zHS).c) rfl rfl (fun _=>rfl) hp174 (g_d rfl ?_)
      refine Qaa (v:=int .i64 (i64w (x152 - (i64w (x171*(i64w (rdL a1 x114 0))))))) rfl rfl rfl (g_d rfl ?_)
      obtain ⟨g112,H⟩:=ite_get H
      refine Qa6 (fkI .i64) 0 (hs.r2rd 0 rfl g111.1 g111.2) rfl (fun _=>rfl) g112.1 g112.2 rfl rfl rfl rfl rfl ?_
      intro p175 hp175 lp175 op175
      refine g_d rfl ?_
      try dsimp only [Qae,Qaf]
      refine QaA rfl rfl (v:=int .i64 (rdL (rdL x170 (i64w (x114+1)) []) (i64w (x152 - (i64w (x171*(i64w (rdL a1 x114 0)))))) 0)) rfl rfl (fun _=>rfl) hp175 (g_d rfl ?_)
      refine Qas (B:=decide ((rdL (rdL x170 (i64w (x114+1)) []) (i64w (x152 - (i64w (x171*(i64w (rdL a1 x114 0)))))) 0)< 0)) rfl rfl rfl ?_ ?_
      ·
       intro hb
       rw [if_pos (b_dec_t hb)] at H
       refine g_d rfl ?_
       try dsimp only [Qae,Qaf]
       refine Qaa (v:=bool true) rfl rfl rfl (g_d rfl (Qac (Qai rfl ?_)))
       refine Qbc rfl ?_
       have hs:=hs.pull 0 rfl
       have hs:St _ [_] _:=St.take (Γ':=[]) hs
       exact ha _ _ ⟨x170,H,rfl,hs⟩
      intro hb
      rw [if_neg (b_dec_f hb)] at H
      refine g_d rfl ?_
      try dsimp only [Qae,Qaf]
      refine Qaa (v:=bool false) rfl rfl rfl (g_d rfl (Qac (Qal rfl (Qay (Qad (Qag [0,1,2,3,4,5,6,7,8,9,10,11,12] rfl ?_))))))
      refine Qaa (v:=v4) rfl rfl rfl (g_d rfl ?_)
      refine Qaa (v:=int .i64 x114) rfl rfl rfl (g_d rfl ?_)
      refine Qaa (v:=int .i64 (i64w (x114+1))) rfl rfl rfl (g_d rfl ?_)
      try dsimp only [Qae,Qaf]
      obtain ⟨g113,H⟩:=ite_get H
      refine Qa6 fkHS zHS (hs.r2row 0 rfl) rfl (fun _=>rfl) g113.1 (hs.r2lt 0 rfl g113.2) rfl rfl rfl rfl rfl ?_
      intro p176 hp176 lp176 op176
      refine g_d rfl ?_
      refine QaA rfl rfl (v:=slice (rdL ms34 (i64w (x114+1)) zHS).a (rdL ms34 (i64w (x114+1)) zHS).n (rdL ms34 (i64w (x114+1)) zHS).c) rfl rfl (fun _=>rfl) hp176 (g_d rfl ?_)
      try dsimp only [Qae,Qaf]
      refine Qaa (v:=int .i64 (i64w (x152 - (i64w (x171*(i64w (rdL a1 x114 0))))))) rfl rfl rfl (g_d rfl ?_)
      obtain ⟨g114,H⟩:=ite_get H
      refine Qa6 (fkI .i64) 0 (hs.r2rd 0 rfl g113.1 g113.2) rfl (fun _=>rfl) g114.1 g114.2 rfl rfl rfl rfl rfl ?_
      intro p177 hp177 lp177 op177
      refine g_d rfl ?_
      refine QaA rfl rfl (v:=int .i64 (rdL (rdL x170 (i64w (x114+1)) []) (i64w (x152 - (i64w (x171*(i64w (rdL a1 x114 0)))))) 0)) rfl rfl (fun _=>rfl) hp177 (g_d rfl ?_)
      try dsimp only [Qae,Qaf]
      refine Qaa (v:=int .i64 x171) rfl rfl rfl (g_d rfl ?_)
      refine Qaa (v:=int .i64 x171) rfl rfl rfl (g_d rfl ?_)
      refine Qaa (v:=int .i64 (i64w (x171*x171))) rfl rfl rfl (g_d rfl ?_)
      refine Qaa (v:=int .i64 (i64w ((rdL (rdL x170 (i64w (x114+1)) []) (i64w (x152 - (i64w (x171*(i64w (rdL a1 x114 0)))))) 0)+(i64w (x171*x171))))) rfl rfl rfl (g_d rfl ?_)
      try dsimp only [Qae,Qaf]
      refine Qaa (v:=int .i64 (i64w ((rdL (rdL x170 (i64w (x114+1)) []) (i64w (x152 - (i64w (x171*(i64w (rdL a1 x114 0)))))) 0)+(i64w (x171*x171))))) rfl rfl rfl (g_d rfl (Qac (Qad (Qag [0,1,2,3,4,5,6,7,8,9,10,11,12,13,14,15,16,17,18] rfl ?_))))
      refine Qaa (v:=v4) rfl rfl rfl (g_d rfl ?_)
      refine Qaa (v:=int .i64 x114) rfl rfl rfl (g_d rfl ?_)
      obtain ⟨g115,H⟩:=ite_get H
      refine Qa6 fkHS zHS (hs.r2row 0 rfl) rfl (fun _=>rfl) g115.1 (hs.r2lt 0 rfl g115.2) rfl rfl rfl rfl rfl ?_
      intro p178 hp178 lp178 op178
      refine g_d rfl ?_
      try dsimp only [Qae,Qaf]
      refine QaA rfl rfl (v:=slice (rdL ms34 x114 zHS).a (rdL ms34 x114 zHS).n (rdL ms34 x114 zHS).c) rfl rfl (fun _=>rfl) hp178 (g_d rfl ?_)
      refine Qaa (v:=int .i64 x152) rfl rfl rfl (g_d rfl ?_)
      obtain ⟨g116,H⟩:=ite_get H
      refine Qa6 (fkI .i64) 0 (hs.r2rd 0 rfl g115.1 g115.2) rfl (fun _=>rfl) g116.1 g116.2 rfl rfl rfl rfl rfl ?_
      intro p179 hp179 lp179 op179
      refine g_d rfl ?_
      try dsimp only [Qae,Qaf]
      refine QaA rfl rfl (v:=int .i64 (rdL (rdL x170 x114 []) x152 0)) rfl rfl (fun _=>rfl) hp179 (g_d rfl ?_)
      refine Qas (B:=decide ((rdL (rdL x170 x114 []) x152 0)< 0)) rfl rfl rfl ?_ ?_
      ·
       intro hb
       rw [if_pos (b_dec_t hb)] at H
       refine g_d rfl ?_
       try dsimp only [Qae,Qaf]
       refine Qaa (v:=bool true) rfl rfl rfl (g_d rfl (Qab rfl rfl (g_d rfl (Qab rfl rfl (g_d rfl (Qab rfl rfl (g_d rfl ?_)))))))
       refine Qab rfl rfl (g_d rfl (Qab rfl rfl (g_d rfl ?_)))
       try dsimp only [Qae,Qaf]
       refine Qab rfl rfl (g_d rfl (Qab rfl rfl (g_d rfl (Qab rfl rfl (g_d rfl ?_)))))
       try dsimp only [Qae,Qaf]
       refine Qab rfl rfl (g_d rfl ?_)
       refine Qaa (v:=bool true) rfl rfl rfl (g_d rfl ?_)
       try dsimp only [Qae,Qaf]
       refine Qac (Qai rfl (Qag [0,1,2,3,4,5,6,7] rfl ?_))
       refine Qaa (v:=v4) rfl rfl rfl (g_d rfl ?_)
       refine Qaa (v:=int .i64 x114) rfl rfl rfl (g_d rfl ?_)
       obtain ⟨g117,H⟩:=ite_get H
       refine Qa6 fkHS zHS (hs.r2row 0 rfl) rfl (fun _=>rfl) g117.1 (hs.r2lt 0 rfl g117.2) rfl rfl rfl rfl rfl ?_
       intro p180 hp180 lp180 op180
       refine g_d rfl ?_
       refine QaA rfl rfl (v:=slice (rdL ms34 x114 zHS).a (rdL ms34 x114 zHS).n (rdL ms34 x114 zHS).c) rfl rfl (fun _=>rfl) hp180 (g_d rfl ?_)
       try dsimp only [Qae,Qaf]
       refine Qaa (v:=int .i64 x152) rfl rfl rfl (g_d rfl ?_)
       refine Qaa (v:=int .i64 (i64w ((rdL (rdL x170 (i64w (x114+1)) []) (i64w (x152 - (i64w (x171*(i64w (rdL a1 x114 0)))))) 0)+(i64w (x171*x171))))) rfl rfl rfl (g_d rfl ?_)
       obtain ⟨g118,H⟩:=ite_get H
       refine Qa6 (fkI .i64) 0 (hs.r2rd 0 rfl g117.1 g117.2) rfl (fun _=>rfl) g118.1 g118.2 rfl rfl rfl rfl rfl ?_
       intro p181 hp181 lp181 op181
       refine g_d rfl ?_
       refine Qb1 (y:=i64w ((rdL (rdL x170 (i64w (x114+1)) []) (i64w (x152 - (i64w (x171*(i64w (rdL a1 x114 0)))))) 0)+(i64w (x171*x171)))) (fkI .i64) g117.1 g117.2 g118.1 g118.2 op181 hs rfl rfl rfl rfl rfl (fun _=>rfl) ?_
       intro w hs
       refine g_n rfl (Qac ?_)
       refine QaH ?_
       have hs:=hs.pull 0 rfl
       have hs:St _ [_] _:=St.take (Γ':=[]) hs
       exact ha _ _ ⟨stL x170 x114 (stL (rdL x170 x114 []) x152 (i64w ((rdL (rdL x170 (i64w (x114+1)) []) (i64w (x152 - (i64w (x171*(i64w (rdL a1 x114 0)))))) 0)+(i64w (x171*x171))))),H,rfl,hs⟩
      intro hb
      rw [if_neg (b_dec_f hb)] at H
      refine g_d rfl ?_
      try dsimp only [Qae,Qaf]
      refine Qaa (v:=bool false) rfl rfl rfl (g_d rfl ?_)
      refine Qaa (v:=int .i64 (i64w ((rdL (rdL x170 (i64w (x114+1)) []) (i64w (x152 - (i64w (x171*(i64w (rdL a1 x114 0)))))) 0)+(i64w (x171*x171))))) rfl rfl rfl (g_d rfl ?_)
      refine Qaa (v:=v4) rfl rfl rfl (g_d rfl ?_)
      refine Qaa (v:=int .i64 x114) rfl rfl rfl (g_d rfl ?_)
      obtain ⟨g119,H⟩:=ite_get H
      refine Qa6 fkHS zHS (hs.r2row 0 rfl) rfl (fun _=>rfl) g119.1 (hs.r2lt 0 rfl g119.2) rfl rfl rfl rfl rfl ?_
      intro p182 hp182 lp182 op182
      refine g_d rfl ?_
      refine QaA rfl rfl (v:=slice (rdL ms34 x114 zHS).a (rdL ms34 x114 zHS).n (rdL ms34 x114 zHS).c) rfl rfl (fun _=>rfl) hp182 (g_d rfl ?_)
      try dsimp only [Qae,Qaf]
      refine Qaa (v:=int .i64 x152) rfl rfl rfl (g_d rfl ?_)
      obtain ⟨g120,H⟩:=ite_get H
      refine Qa6 (fkI .i64) 0 (hs.r2rd 0 rfl g119.1 g119.2) rfl (fun _=>rfl) g120.1 g120.2 rfl rfl rfl rfl rfl ?_
      intro p183 hp183 lp183 op183
      refine g_d rfl ?_
      refine QaA rfl rfl (v:=int .i64 (rdL (rdL x170 x114 []) x152 0)) rfl rfl (fun _=>rfl) hp183 (g_d rfl ?_)
      try dsimp only [Qae,Qaf]
      refine Qas (B:=decide ((i64w ((rdL (rdL x170 (i64w (x114+1)) []) (i64w (x152 - (i64w (x171*(i64w (rdL a1 x114 0)))))) 0)+(i64w (x171*x171))))< (rdL (rdL x170 x114 []) x152 0))) rfl rfl rfl ?_ ?_
      ·
       intro hb
       rw [if_pos (b_dec_t hb)] at H
       refine g_d rfl ?_
       refine Qaa (v:=bool true) rfl rfl rfl (g_d rfl ?_)
       try dsimp only [Qae,Qaf]
       refine Qac (Qai rfl (Qag [0,1,2,3,4,5,6,7] rfl ?_))
       refine Qaa (v:=v4) rfl rfl rfl (g_d rfl ?_)
       refine Qaa (v:=int .i64 x114) rfl rfl rfl (g_d rfl ?_)
       obtain ⟨g121,H⟩:=ite_get H
       refine Qa6 fkHS zHS (hs.r2row 0 rfl) rfl (fun _=>rfl) g121.1 (hs.r2lt 0 rfl g121.2) rfl rfl rfl rfl rfl ?_
       intro p184 hp184 lp184 op184
       refine g_d rfl ?_
       refine QaA rfl rfl (v:=slice (rdL ms34 x114 zHS).a (rdL ms34 x114 zHS).n (rdL ms34 x114 zHS).c) rfl rfl (fun _=>rfl) hp184 (g_d rfl ?_)
       try dsimp only [Qae,Qaf]
       refine Qaa (v:=int .i64 x152) rfl rfl rfl (g_d rfl ?_)
       refine Qaa (v:=int .i64 (i64w ((rdL (rdL x170 (i64w (x114+1)) []) (i64w (x152 - (i64w (x171*(i64w (rdL a1 x114 0)))))) 0)+(i64w (x171*x171))))) rfl rfl rfl (g_d rfl ?_)
       obtain ⟨g122,H⟩:=ite_get H
       refine Qa6 (fkI .i64) 0 (hs.r2rd 0 rfl g121.1 g121.2) rfl (fun _=>rfl) g122.1 g122.2 rfl rfl rfl rfl rfl ?_
       intro p185 hp185 lp185 op185
       refine g_d rfl ?_
       refine Qb1 (y:=i64w ((rdL (rdL x170 (i64w (x114+1)) []) (i64w (x152 - (i64w (x171*(i64w (rdL a1 x114 0)))))) 0)+(i64w (x171*x171)))) (fkI .i64) g121.1 g121.2 g122.1 g122.2 op185 hs rfl rfl rfl rfl rfl (fun _=>rfl) ?_
       intro w hs
       refine g_n rfl (Qac ?_)
       refine QaH ?_
       have hs:=hs.pull 0 rfl
       have hs:St _ [_] _:=St.take (Γ':=[]) hs
       exact ha _ _ ⟨stL x170 x114 (stL (rdL x170 x114 []) x152 (i64w ((rdL (rdL x170 (i64w (x114+1)) []) (i64w (x152 - (i64w (x171*(i64w (rdL a1 x114 0)))))) 0)+(i64w (x171*x171))))),H,rfl,hs⟩
      intro hb
      rw [if_neg (b_dec_f hb)] at H
      refine g_d rfl ?_
      refine Qaa (v:=bool false) rfl rfl rfl (g_d rfl ?_)
      try dsimp only [Qae,Qaf]
      refine Qac (Qal rfl (Qay ?_))
      refine QaH ?_
      have hs:=hs.pull 0 rfl
      have hs:St _ [_] _:=St.take (Γ':=[]) hs
      exact ha _ _ ⟨x170,H,rfl,hs⟩
     |false=>
      rw [if_neg Bool.false_ne_true] at H
      refine g_d rfl ?_
      try dsimp only [Qae,Qaf]
      refine Qaa (v:=bool true) rfl rfl rfl (g_d rfl ?_)
      refine Qaa (v:=bool true) rfl rfl rfl (g_d rfl (Qab rfl rfl (g_d rfl (Qab rfl rfl (g_d rfl (Qab rfl rfl (g_d rfl ?_)))))))
      try dsimp only [Qae,Qaf]
      refine Qab rfl rfl (g_d rfl (Qab rfl rfl (g_d rfl ?_)))
      try dsimp only [Qae,Qaf]
      refine Qab rfl rfl (g_d rfl (Qab rfl rfl (g_d rfl (Qab rfl rfl (g_d rfl ?_)))))
      try dsimp only [Qae,Qaf]
      refine Qab rfl rfl (g_d rfl ?_)
      refine Qaa (v:=bool true) rfl rfl rfl (g_d rfl ?_)
      try dsimp only [Qae,Qaf]
      refine Qac (Qai rfl ?_)
      refine Qbc rfl ?_
      have hs:=hs.pull 0 rfl
      have hs:St _ [_] _:=St.take (Γ':=[]) hs
      exact ha _ _ ⟨x170,H,rfl,hs⟩
    intro hb
    rw [if_neg (b_dec_f hb)] at H
    refine g_d rfl ?_
    try dsimp only [Qae,Qaf]
    refine Qac (Qal rfl ?_)
    obtain rfl:=QsJ H
    subst Hx3_
    have hs:=hs.pull 0 rfl
    have hs:St _ [_] _:=St.take (Γ':=[]) hs
    refine Qbc rfl ?_
    exact ha3_ _ _ ⟨x170,Hr3_,rfl,hs⟩
   intro hb
   rw [if_neg (b_dec_f hb)] at H
   refine g_d rfl ?_
   try dsimp only [Qae,Qaf]
   refine Qac (Qal rfl ?_)
   obtain rfl:=QsJ H
   subst Hx2_
   have hs:=hs.pull 0 rfl
   have hs:St _ [_] _:=St.take (Γ':=[]) hs
   refine Qbc rfl ?_
   exact ha2_ _ _ ⟨x151,Hr2_,rfl,hs⟩
  intro hb
  rw [if_neg (b_dec_f hb)] at H
  refine g_d rfl (Qac (Qal rfl ?_))
  obtain rfl:=QsJ H
  subst Hx1_
  have hs:=hs.pull 0 rfl
  have hs:St _ [_] _:=St.take (Γ':=[]) hs
  refine Qbc rfl ?_
  exact ha1_ _ _ ⟨x113,Hr1_,rfl,hs⟩
 intro ha1_
 have hs:=hs.pull 0 rfl
 have hs:St _ [_] _:=St.take (Γ':=[]) hs
 refine QaP (I:=fun n_ t w=>∃ ms19:(List HS),∃ x20:(List (List Int)),∃ x21:Int,rounds (fun s=>Qaj.b0 N a1 s.1 s.2) n_ (x20,x21)=some o1_∧Fr t (fun O=>(v2::bool a3::O 2::O 3::O 4::int .i64 4001::v4::int .i64 x21::O 8::O 9::oT O 1 (oT O 2 (oT O 3 (oT O 4 (oT O 5 (oT O 6 (oT O 7 (oT O 8 (oT O 9 (oT O 10 (oT O 11 (O 120::O 121::O 122::O 123::O 124::O 125::O 126::O 127::[]))))))))))):List Value))∧St w0 [Rows2 50 kHS (RowO 2 (K.int .i64)) v4 ms19 x20] w) N ⟨List.replicate ((i64w ((a1.length:Int)+1))).toNat zHS,List.replicate ((i64w ((a1.length:Int)+1))).toNat ([]:(List Int)),0,Ho,rfl,hs⟩ ?_ ?_
 ·
  rintro _ _ ⟨ms19,x20,x21,h,_⟩
  exact rounds_zero h
 intro n_ ih1_
 rintro t w ⟨ms19,x20,x21,Ho,hf,hs⟩
 obtain ⟨O,rfl⟩:=hf.open
 try dsimp only [oT]
 obtain ⟨x126_,H,Hx1_⟩:=rounds_succ Ho
 have H:Qaj.b0 N a1 x20 x21=some x126_:=H
 unfold Qaj.b0 at H
 refine Qad (Qad (Qag [0,1,2,3] rfl ?_))
 refine Qaa (v:=int .i64 x21) rfl rfl rfl (g_d rfl ?_)
 refine Qaa (v:=v2) rfl rfl rfl (g_d rfl ?_)
 refine Qba (hs.rd hr0) rfl rfl rfl rfl rfl (g_d rfl ?_)
 refine Qas (B:=decide (x21≤(a1.length:Int))) rfl rfl rfl ?_ ?_
 ·
  intro hb
  rw [if_pos (b_dec_t hb)] at H
  refine g_d rfl (Qac (Qai rfl (Qay (Qad ?_))))
  refine Qbe (Qad (Qag [0,1,2,3,4,5] rfl ?_))
  refine Qaa (v:=v4) rfl rfl rfl (g_d rfl ?_)
  refine Qaa (v:=int .i64 x21) rfl rfl rfl (g_d rfl ?_)
  refine Qaa (v:=int .i64 4001) rfl rfl rfl (g_d rfl ?_)
  obtain ⟨g,H⟩:=ite_get H
  refine Qb8 (κ:=(K.int .i64)) (z:=0) (zc:=((encI .i64) 0)) (zv:=(int .i64 0)) (B:=8) hs rfl rfl rfl rfl rfl g.1 rfl rfl rfl rfl rfl (fun _=>⟨rfl,rfl⟩) rfl (by decide) (by have:=g.2;omega) ?_
  intro v22 w hs
  refine g_d rfl ?_
  try dsimp only [Qae,Qaf]
  obtain ⟨g7,H⟩:=ite_get H
  refine Qa6 fkHS zHS (hs.r2row 1 rfl) rfl (fun _=>rfl) g7.1 (hs.r2lt 1 rfl g7.2) rfl rfl rfl rfl rfl ?_
  intro p24 hp24 lp24 op24
  refine g_d rfl ?_
  obtain ⟨mh25,rfl⟩:=hs.hsOf 0 rfl
  have hs:St _ [_,_] _:=hs.pull 1 rfl
  refine QbX (I:=(RowO 2 (K.int .i64))) (h':=mh25) (x':=List.replicate ((4001:Int)).toNat (0:Int)) fkHS g7.1 g7.2 op24 hs rfl rfl rfl rfl rfl (fun _=>rfl) ?_
  intro w hs
  refine g_n rfl (Qac (Qad (Qag [0] rfl ?_)))
  refine Qaa (v:=int .i64 0) rfl rfl rfl (g_d rfl ?_)
  try dsimp only [Qae,Qaf]
  refine Qac ?_
  obtain ⟨o2_,Ho,Hr2_⟩:=bind_get H
  refine QaC (J:=fun t w=>∃ x33:(List (List Int)),Qaj.a9 N x21 x33=some x126_∧Fr t (fun O=>(v2::bool a3::O 2::O 3::O 4::int .i64 4001::v4::int .i64 x21::O 8::O 9::oT O 1 (oT O 2 (oT O 3 (oT O 4 (oT O 5 (oT O 6 (oT O 7 (oT O 8 (oT O 9 (oT O 10 (oT O 11 (O 120::O 121::O 122::O 123::O 124::O 125::O 126::O 127::[]))))))))))):List Value))∧St w0 [Rows2 50 kHS (RowO 2 (K.int .i64)) v4 (stL ms19 x21 mh25) x33] w) ?_ ?_
  ·
   rintro t w ⟨x33,H,hf,hs⟩
   obtain ⟨O,rfl⟩:=hf.open
   try dsimp only [oT]
   unfold Qaj.a9 at H
   refine QaH (Qag [0,1,2] rfl ?_)
   refine Qaa (v:=int .i64 x21) rfl rfl rfl (g_d rfl ?_)
   refine Qaa (v:=int .i64 (i64w (x21+1))) rfl rfl rfl (g_d rfl ?_)
   try dsimp only [Qae,Qaf]
   refine Qaa (v:=int .i64 (i64w (x21+1))) rfl rfl rfl (g_d rfl (Qac ?_))
   obtain rfl:=QsJ H
   have hs:=hs.pull 0 rfl
   have hs:St _ [_] _:=St.take (Γ':=[]) hs
   exact ih1_ _ _ ⟨stL ms19 x21 mh25,x33,i64w (x21+1),Hx1_,rfl,hs⟩
  intro ha2_
  have hs:=hs.pull 0 rfl
  have hs:St _ [_] _:=St.take (Γ':=[]) hs
  refine QaP (I:=fun n_ t w=>∃ x29:(List (List Int)),∃ x30:Int,rounds (fun s=>Qaj.b9 N x21 s.1 s.2) n_ (x29,x30)=some o2_∧Fr t (fun O=>(v2::bool a3::O 2::O 3::O 4::int .i64 4001::v4::int .i64 x21::int .i64 x30::O 9::oT O 1 (oT O 2 (oT O 3 (oT O 4 (oT O 5 (oT O 6 (oT O 7 (oT O 8 (oT O 9 (oT O 10 (oT O 11 (O 120::O 121::O 122::O 123::O 124::O 125::O 126::O 127::[]))))))))))):List Value))∧St w0 [Rows2 50 kHS (RowO 2 (K.int .i64)) v4 (stL ms19 x21 mh25) x29] w) N ⟨stL x20 x21 (List.replicate ((4001:Int)).toNat (0:Int)),0,Ho,rfl,hs⟩ ?_ ?_
  ·
   rintro _ _ ⟨x29,x30,h,_⟩
   exact rounds_zero h
  intro n_ ih2_
  rintro t w ⟨x29,x30,Ho,hf,hs⟩
  obtain ⟨O,rfl⟩:=hf.open
  try dsimp only [oT]
  obtain ⟨x12_,H,Hx2_⟩:=rounds_succ Ho
  have H:Qaj.b9 N x21 x29 x30=some x12_:=H
  unfold Qaj.b9 at H
  refine Qad (Qad (Qag [0,1,2] rfl ?_))
  refine Qaa (v:=int .i64 x30) rfl rfl rfl (g_d rfl ?_)
  refine Qaa (v:=int .i64 4001) rfl rfl rfl (g_d rfl ?_)
  refine Qas (B:=decide (x30< 4001)) rfl rfl rfl ?_ ?_
  ·
   intro hb
   rw [if_pos (b_dec_t hb)] at H
   refine g_d rfl ?_
   try dsimp only [Qae,Qaf]
   refine Qac (Qai rfl (Qay (Qad ?_)))
   refine Qbe (Qag [0,1,2,3,4,5,6] rfl ?_)
   refine Qaa (v:=v4) rfl rfl rfl (g_d rfl ?_)
   refine Qaa (v:=int .i64 x21) rfl rfl rfl (g_d rfl ?_)
   obtain ⟨g10,H⟩:=ite_get H
   refine Qa6 fkHS zHS (hs.r2row 0 rfl) rfl (fun _=>rfl) g10.1 (hs.r2lt 0 rfl g10.2) rfl rfl rfl rfl rfl ?_
   intro p31 hp31 lp31 op31
   refine g_d rfl ?_
   refine QaA rfl rfl (v:=slice (rdL (stL ms19 x21 mh25) x21 zHS).a (rdL (stL ms19 x21 mh25) x21 zHS).n (rdL (stL ms19 x21 mh25) x21 zHS).c) rfl rfl (fun _=>rfl) hp31 (g_d rfl ?_)
   try dsimp only [Qae,Qaf]
   refine Qaa (v:=int .i64 x30) rfl rfl rfl (g_d rfl ?_)
   obtain ⟨g11,H⟩:=ite_get H
   refine Qa6 (fkI .i64) 0 (hs.r2rd 0 rfl g10.1 g10.2) rfl (fun _=>rfl) g11.1 g11.2 rfl rfl rfl rfl rfl ?_
   intro p32 hp32 lp32 op32
   refine g_d rfl ?_
   refine Qb1 (y:=(-1)) (fkI .i64) g10.1 g10.2 g11.1 g11.2 op32 hs rfl rfl rfl rfl rfl (fun _=>rfl) ?_
   intro w hs
   refine g_n rfl (Qac ?_)
   refine QaH (Qag [0,1,2] rfl ?_)
   refine Qaa (v:=int .i64 x30) rfl rfl rfl (g_d rfl ?_)
   refine Qaa (v:=int .i64 (i64w (x30+1))) rfl rfl rfl (g_d rfl ?_)
   try dsimp only [Qae,Qaf]
   refine Qaa (v:=int .i64 (i64w (x30+1))) rfl rfl rfl (g_d rfl (Qac ?_))
   obtain rfl:=QsJ H
   have hs:=hs.pull 0 rfl
   have hs:St _ [_] _:=St.take (Γ':=[]) hs
   exact ih2_ _ _ ⟨stL x29 x21 (stL (rdL x29 x21 []) x30 (-1)),i64w (x30+1),Hx2_,rfl,hs⟩
  intro hb
  rw [if_neg (b_dec_f hb)] at H
  refine g_d rfl (Qac (Qal rfl ?_))
  obtain rfl:=QsJ H
  subst Hx2_
  have hs:=hs.pull 0 rfl
  have hs:St _ [_] _:=St.take (Γ':=[]) hs
  refine Qbc rfl ?_
  exact ha2_ _ _ ⟨x29,Hr2_,rfl,hs⟩
 intro hb
 rw [if_neg (b_dec_f hb)] at H
 refine g_d rfl ?_
 try dsimp only [Qae,Qaf]
 refine Qac (Qal rfl ?_)
 obtain rfl:=QsJ H
 subst Hx1_
 have hs:=hs.pull 0 rfl
 have hs:St _ [_] _:=St.take (Γ':=[]) hs
 refine Qbc rfl ?_
 exact ha1_ _ _ ⟨ms19,x20,Hr1_,rfl,hs⟩
end Go.Proofs.YtmineidejeacnaaGreatDoorX
