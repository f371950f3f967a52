import Derived.Test.YtgoninfjneepfaaGreatDoorP12
namespace Go.Proofs.YtgoninfjneepfaaGreatDoorX
open Go Go.RowKit Go.Proofs
open Go.Value (int pointer bool agg slice string tuple)
set_option maxHeartbeats 8000000
set_option maxRecDepth 100000
set_option linter.unusedVariables false
set_option linter.unusedSimpArgs false
def Qa1.post (w0:World) (r:Int) (v:Value) (w:World):Prop:=v=int .i64 r∧St w0 [] w
theorem Qa1.calls {N:Nat} {a1:Int} {w0:World} {r:Int} (H:Qa1.f N a1=some r):
 Calls Tryz.prog 78 #[int .u8 a1] w0 fun e w=>∃ v,e= .returned v∧Qa1.post w0 r v w:=by
 unfold Qa1.f at H
 have hs:St w0 [] w0:=St.refl w0
 refine calls_of_g (n:=13) Tryz.func78 rfl rfl ?_
 show G _ _ _ _ [_,_,_,_,_,_,_,_,_,_,_,_,_,_] _
 refine Qad (Qag [0] rfl ?_)
 refine Qaa (v:=int .i64 0) rfl rfl rfl (Qab (Qad (Qag [0] rfl ?_)))
 refine Qaa (v:=int .i64 0) rfl rfl rfl (Qab (Qad ?_))
 obtain ⟨o1_,Ho,Hr1_⟩:=bind_get H
 refine Qax (J:=fun t w=>∃ x4:Int,Qa1.a0 N x4=some r∧Fr t (fun O=>([O 0,O 1,O 2,int .i64 x4,O 4,O 5,O 6,O 7,O 8,O 9,O 10,O 11,O 12,O 13]:List Value))∧St w0 [] w) ?_ ?_
 ·
  rintro t w ⟨x4,H,hf,hs⟩
  obtain ⟨O,rfl⟩:=hf.open
  show G _ _ _ _ [_,_,_,_,_,_,_,_,_,_,_,_,_,_] _
  unfold Qa1.a0 at H
  refine Qad (Qag [0,1] rfl ?_)
  refine Qaa (v:=int .i64 x4) rfl rfl rfl ?_
  show G _ _ _ _ [_,_,_,_,_,_,_,_,_,_,_,_,_,_] _
  refine Qaa (v:=int .i64 x4) rfl rfl rfl (Qab ?_)
  obtain rfl:=QsJ H
  refine Qas Tryz.func78 (v:=int .i64 x4) (res1 rfl rfl) ?_
  have hs:St _ [] _:=St.take (Γ':=[]) hs
  exact ⟨_,rfl,rfl,hs⟩
 intro ha1_
 have hs:St _ [] _:=St.take (Γ':=[]) hs
 refine QaL (I:=fun n_ t w=>∃ x2:Int,∃ x3:Int,rounds (fun s=>Qa1.b0 N s.1 s.2) n_ (x2,x3)=some o1_∧Fr t (fun O=>([int .u8 x2,O 1,O 2,int .i64 x3,O 4,O 5,O 6,O 7,O 8,O 9,O 10,O 11,O 12,O 13]:List Value))∧St w0 [] w) N ⟨a1,0,Ho,rfl,hs⟩ ?_ ?_
 ·
  rintro _ _ ⟨x2,x3,h,_⟩
  exact rounds_zero h
 intro n_ ih1_
 rintro t w ⟨x2,x3,Ho,hf,hs⟩
 obtain ⟨O,rfl⟩:=hf.open
 show G _ _ _ _ [_,_,_,_,_,_,_,_,_,_,_,_,_,_] _
 obtain ⟨x1_,H,Hx1_⟩:=rounds_succ Ho
 have H:Qa1.b0 N x2 x3=some x1_:=H
 unfold Qa1.b0 at H
 refine Qad (Qad (Qag [0,1] rfl ?_))
 refine Qaa (v:=int .u8 x2) rfl rfl rfl ?_
 show G _ _ _ _ [_,_,_,_,_,_,_,_,_,_,_,_,_,_] _
 refine Qap (B:=decide (x2>0)) rfl rfl rfl ?_ ?_
 ·
  intro hb
  rw [if_pos (b_dec_t hb)] at H
  refine Qab (Qah rfl (Qay (Qad ?_)))
  refine Qbh (Qag [0,1,2,3,4,5] rfl ?_)
  refine Qaa (v:=int .i64 x3) rfl rfl rfl ?_
  show G _ _ _ _ [_,_,_,_,_,_,_,_,_,_,_,_,_,_] _
  refine Qaa (v:=int .u8 x2) rfl rfl rfl ?_
  refine Qaa (v:=int .u8 (x2.tmod 2)) rfl rfl rfl ?_
  refine Qaa (v:=int .i64 (i64w (x2.tmod 2))) rfl rfl rfl ?_
  show G _ _ _ _ [_,_,_,_,_,_,_,_,_,_,_,_,_,_] _
  refine Qaa (v:=int .i64 (i64w (x3+(i64w (x2.tmod 2))))) rfl rfl rfl ?_
  refine Qaa (v:=int .i64 (i64w (x3+(i64w (x2.tmod 2))))) rfl rfl rfl (Qab ?_)
  refine QaE (Qag [0,1,2] rfl ?_)
  refine Qaa (v:=int .u8 x2) rfl rfl rfl ?_
  show G _ _ _ _ [_,_,_,_,_,_,_,_,_,_,_,_,_,_] _
  refine Qaa (v:=int .u8 (u8w (x2.tdiv 2))) rfl rfl rfl ?_
  refine Qaa (v:=int .u8 (u8w (x2.tdiv 2))) rfl rfl rfl (Qab ?_)
  obtain rfl:=QsJ H
  have hs:St _ [] _:=St.take (Γ':=[]) hs
  exact ih1_ _ _ ⟨u8w (x2.tdiv 2),i64w (x3+(i64w (x2.tmod 2))),Hx1_,rfl,hs⟩
 intro hb
 rw [if_neg (b_dec_f hb)] at H
 refine Qab (Qal rfl ?_)
 obtain rfl:=QsJ H
 subst Hx1_
 have hs:St _ [] _:=St.take (Γ':=[]) hs
 refine Qa7 rfl ?_
 exact ha1_ _ _ ⟨x3,Hr1_,rfl,hs⟩
def Qaj.post (w0:World) (r:(List (List Int))) (v:Value) (w:World):Prop:=∃ u1:Value,∃ ms2:(List HS),v=u1∧St w0 [Rows2 44 kHS (RowO 2 (K.int .i64)) u1 ms2 r] w
theorem Qaj.calls {N:Nat} {a1:(List Int)} {a3:(Ar Int 4)} {a4:Int} {v2:Value} {w0:World} {r:(List (List Int))} (hr0:RdRow (K.int .i16) w0 v2 a1) (H:Qaj.f N a1 a3 a4=some r):
 Calls Tryz.prog 62 #[v2,agg ((encA (encI .i16)) a3).toArray,int .i64 a4] w0 fun e w=>∃ v,e= .returned v∧Qaj.post w0 r v w:=by
 unfold Qaj.f at H
 have hs:St w0 [] w0:=St.refl w0
 refine calls_of_g (n:=141) Tryz.func62 rfl rfl ?_
 show G _ _ _ _ (_::_::_::_::_::_::_::_::_::_::_::_::_::_::_::_::_::_::_::_::_::_::_::_::_::_::_::_::_::_::_::_::_::_::_::_::_::_::_::_::_::_::_::_::_::_::_::_::_::_::_::_::_::_::_::_::_::_::_::_::_::_::_::_::_::_::_::_::_::_::_::_::_::_::_::_::_::_::_::_::_::_::_::_::_::_::_::_::_::_::_::_::_::_::_::_::_::_::_::_::_::_::_::_::_::_::_::_::_::_::_::_::_::_::_::_::_::_::_::_::_::_::_::_::_::_::_::_::_::_::_::_::_::_::_::_::_::_::_::_::_::_::_::_::[]) _
 refine Qad (Qag [0,1] rfl ?_)
 refine Qbq hs rfl rfl (cs:=((encA (encI .i16)) a3)) rfl rfl ?_
 intro b5 w hs
 refine g_d rfl ?_
 try dsimp only [Qae,Qaf]
 refine Qaa (v:=slice none 0 0) rfl rfl rfl (g_d rfl (Qab (Qad (Qag [0,1,2] rfl ?_))))
 refine Qaa (v:=v2) rfl rfl rfl (g_d rfl ?_)
 obtain ⟨r7,Hr7,H⟩:=bind_get H
 refine QaB (args:=[v2]) rfl rfl (QaC rfl (callFunc_enter Tryz.func50 rfl rfl) rfl) (QaS.calls (a1:=a1) (hs.rd hr0) Hr7) ?_
 rintro _ w ⟨rfl,hs2⟩
 have hs:St _ [_] _:=hs.call hs2
 refine g_d rfl ?_
 try dsimp only [Qae,Qaf]
 refine Qaa (v:=int .i64 r7) rfl rfl rfl (g_d rfl (Qab (Qad (Qag [0,1,2,3] rfl ?_))))
 refine Qaa (v:=int .i64 a4) rfl rfl rfl (g_d rfl ?_)
 refine Qaa (v:=int .i64 (i64w (a4+1))) rfl rfl rfl (g_d rfl ?_)
 try dsimp only [Qae,Qaf]
 obtain ⟨g,H⟩:=ite_get H
 refine Qcg (κ:=kHS) (z:=zHS) (zc:=(encHS zHS)) (zv:=(slice none 0 0)) (B:=24) hs rfl rfl rfl rfl rfl g.1 rfl rfl rfl rfl rfl (fun _=>⟨rfl,rfl⟩) rfl (by decide) (by have:=g.2;omega) ?_
 intro v8 w hs
 have hs:=hs.r2make (I:=(RowO 2 (K.int .i64))) (y:=([]:(List Int))) rowO0
 have hs:St _ [_,_] _:=hs
 refine g_d rfl ?_
 refine Qaa (v:=v8) rfl rfl rfl (g_d rfl ?_)
 try dsimp only [Qae,Qaf]
 refine Qab (Qad (Qad (Qag [0] rfl ?_)))
 refine Qaa (v:=int .i64 0) rfl rfl rfl (g_d rfl (Qab ?_))
 obtain ⟨o1_,Ho,Hr1_⟩:=bind_get H
 refine Qax (J:=fun t w=>∃ ms38:(List HS),∃ x39:(List (List Int)),Qaj.a0 N a1 a3 a4 r7 x39=some r∧Fr t (fun O=>(v2::O 1::int .i64 a4::O 3::pointer (some ⟨b5,0,none⟩)::O 5::O 6::int .i64 r7::v8::O 9::oT O 1 (oT O 2 (oT O 3 (oT O 4 (oT O 5 (oT O 6 (oT O 7 (oT O 8 (oT O 9 (oT O 10 (oT O 11 (oT O 12 (oT O 13 (O 140::O 141::O 142::O 143::[]))))))))))))):List Value))∧St w0 [Cells b5 ((encA (encI .i16)) a3) 28,Rows2 44 kHS (RowO 2 (K.int .i64)) v8 ms38 x39] w) ?_ ?_
 ·
  rintro t w ⟨ms38,x39,H,hf,hs⟩
  obtain ⟨O,rfl⟩:=hf.open
  try dsimp only [oT]
  unfold Qaj.a0 at H
  refine Qad ?_
  obtain ⟨gd13,H⟩:=ite_get H
  obtain ⟨ad14_,ad14_N,ad14_C,had14_⟩:=sl_at (hs.r2row 1 rfl) gd13.1 (hs.r2lt 1 rfl gd13.2)
  obtain ⟨r40,Hr40,H⟩:=bind_get H
  obtain ⟨gd15,H⟩:=ite_get H
  obtain ⟨ad16_,ad16_N,ad16_C,had16_⟩:=sl_at (hs.r2rd 1 rfl gd13.1 gd13.2) gd15.1 gd15.2
  refine Qbe ?_
  intro T hT
  refine QbM (n:=8) rfl [0,1,2,3,4,5,6,7] [0,1,2,3,4,5,6,7] rfl rfl (Inv:=fun D t w=>∃ O:Nat→Value,t=(v2::O 1::int .i64 a4::O 3::pointer (some ⟨b5,0,none⟩)::O 5::O 6::int .i64 r7::v8::O 9::oT O 1 (oT O 2 (oT O 3 (O 40::O 41::O 42::O 43::O 44::cnd (D 0) v8 (O 45)::cnd (D 1) (pointer (some (ad14_.add ((0:Int).toNat*1)))) (O 46)::cnd (D 2) (slice (rdL ms38 0 zHS).a (rdL ms38 0 zHS).n (rdL ms38 0 zHS).c) (O 47)::cnd (D 3) v2 (O 48)::cnd (D 4) (agg ((encA (encI .i16)) a3).toArray) (O 49)::cnd (D 5) (int .i64 r40) (O 50)::cnd (D 6) (pointer (some (ad16_.add (r40.toNat*1)))) (O 51)::O 52::O 53::O 54::O 55::O 56::O 57::O 58::O 59::oT O 6 (oT O 7 (oT O 8 (oT O 9 (oT O 10 (oT O 11 (oT O 12 (oT O 13 (O 140::O 141::O 142::O 143::[]))))))))))))∧St w0 [Cells b5 ((encA (encI .i16)) a3) 28,Rows2 44 kHS (RowO 2 (K.int .i64)) v8 ms38 (cnd (D 7) (stL x39 0 (stL (rdL x39 0 []) r40 0)) x39)] w) ?_ ⟨⟨⟨⟨⟨⟨⟨⟨trivial,?_⟩,?_⟩,?_⟩,?_⟩,?_⟩,?_⟩,?_⟩,?_⟩ ?_
  ·
   intro w hh hbw
   have hs:=hs.samew hh hbw
   exact ⟨fun i=>T.getD i undef,(by subst hT;rfl),hs⟩
  ·
   rintro D t w hD hp hcl ⟨O,ht,hs⟩ rest hk
   have q1_:=nz hcl 1 0 hD
   have q2_:=nz hcl 2 0 q1_
   have q6_:=nz hcl 6 0 q2_
   have q7_:=nz hcl 7 0 q6_
   simp only [hD,q1_,q2_,q6_,q7_,cq,oT] at ht hs
   subst ht
   refine Qaa (v:=v8) rfl rfl rfl (g_d rfl ?_)
   try dsimp only [Qae,Qaf]
   refine hk _ _ ⟨O,?_,hs.cast ?_⟩<;>simp only [oT,lq,cq,Nat.reduceBEq,q1_,q2_,q6_,q7_]
  ·
   rintro D t w hD hp hcl ⟨O,ht,hs⟩ rest hk
   obtain ⟨p0_,_⟩:=hp
   have q2_:=nz hcl 2 0 hD
   have q6_:=nz hcl 6 0 q2_
   have q7_:=nz hcl 7 0 q6_
   simp only [hD,p0_,q2_,q6_,q7_,cq,oT] at ht hs
   subst ht
   refine Qby (κ:=kHS) (m:=1) rfl (hs.r2row 1 rfl) rfl (fun _=>rfl) gd13.1 (hs.r2lt 1 rfl gd13.2) had14_ rfl rfl rfl rfl rfl (g_d rfl ?_)
   try dsimp only [Qae,Qaf]
   refine hk _ _ ⟨O,?_,hs.cast ?_⟩<;>simp only [oT,lq,cq,Nat.reduceBEq,p0_,q2_,q6_,q7_]
  ·
   rintro D t w hD hp hcl ⟨O,ht,hs⟩ rest hk
   obtain ⟨p1_,_⟩:=hp
   obtain ⟨p0_,_⟩:=(hcl.get 1 (by decide)) p1_
   have q6_:=nz hcl 6 0 hD
   have q7_:=nz hcl 7 0 q6_
   simp only [hD,p0_,p1_,q6_,q7_,cq,oT] at ht hs
   subst ht
   refine Qat rfl rfl (v:=slice (rdL ms38 0 zHS).a (rdL ms38 0 zHS).n (rdL ms38 0 zHS).c) rfl rfl (fun _=>rfl) (cellsAt_of fkHS zHS (hs.r2row 1 rfl) had14_ gd13.1 (hs.r2lt 1 rfl gd13.2)) (g_d rfl ?_)
   try dsimp only [Qae,Qaf]
   refine hk _ _ ⟨O,?_,hs.cast ?_⟩<;>simp only [oT,lq,cq,Nat.reduceBEq,p0_,p1_,q6_,q7_]
  ·
   rintro D t w hD hp hcl ⟨O,ht,hs⟩ rest hk
   have q5_:=nz hcl 5 0 hD
   have q6_:=nz hcl 6 1 q5_
   have q7_:=nz hcl 7 0 q6_
   simp only [hD,q5_,q6_,q7_,cq,oT] at ht hs
   subst ht
   refine Qaa (v:=v2) rfl rfl rfl (g_d rfl ?_)
   try dsimp only [Qae,Qaf]
   refine hk _ _ ⟨O,?_,hs.cast ?_⟩<;>simp only [oT,lq,cq,Nat.reduceBEq,q5_,q6_,q7_]
  ·
   rintro D t w hD hp hcl ⟨O,ht,hs⟩ rest hk
   have q5_:=nz hcl 5 1 hD
   have q6_:=nz hcl 6 1 q5_
   have q7_:=nz hcl 7 0 q6_
   simp only [hD,q5_,q6_,q7_,cq,oT] at ht hs
   subst ht
   refine QaG rfl rfl (es:=((encA (encI .i16)) a3)) rfl rfl (fun _=>rfl) (n:=4) (fun _=>rfl) ((fkA (n:=4) (he:=(fkI .i16).len) (h1:=(fkI .i16).one)).len _) (cells_all (hs.cells 0 rfl)) (g_d rfl ?_)
   try dsimp only [Qae,Qaf]
   refine hk _ _ ⟨O,?_,hs.cast ?_⟩<;>simp only [oT,lq,cq,Nat.reduceBEq,q5_,q6_,q7_]
  ·
   rintro D t w hD hp hcl ⟨O,ht,hs⟩ rest hk
   obtain ⟨p3_,p4_,_⟩:=hp
   have q6_:=nz hcl 6 1 hD
   have q7_:=nz hcl 7 0 q6_
   simp only [hD,p3_,p4_,q6_,q7_,cq,oT] at ht hs
   subst ht
   refine QaB (args:=[v2,agg ((encA (encI .i16)) a3).toArray]) rfl rfl (QaC rfl (callFunc_enter Tryz.func76 rfl rfl) rfl) (QaW.calls (a1:=a1) (a3:=a3) (hs.rd hr0) Hr40) ?_
   rintro _ w ⟨rfl,hs2⟩
   have hs:St _ [_,_] _:=hs.call hs2
   refine g_d rfl ?_
   try dsimp only [Qae,Qaf]
   refine hk _ _ ⟨O,?_,hs.cast ?_⟩<;>simp only [oT,lq,cq,Nat.reduceBEq,p3_,p4_,q6_,q7_]
  ·
   rintro D t w hD hp hcl ⟨O,ht,hs⟩ rest hk
   obtain ⟨p2_,p5_,p0_,p1_,_,p3_,p4_,_,_⟩:=hp
   have q7_:=nz hcl 7 0 hD
   simp only [hD,p0_,p1_,p2_,p3_,p4_,p5_,q7_,cq,oT] at ht hs
   subst ht
   refine Qby (κ:=(K.int .i64)) (m:=1) rfl (hs.r2rd 1 rfl gd13.1 gd13.2) rfl (fun _=>rfl) gd15.1 gd15.2 had16_ rfl rfl rfl rfl rfl (g_d rfl ?_)
   try dsimp only [Qae,Qaf]
   refine hk _ _ ⟨O,?_,hs.cast ?_⟩<;>simp only [oT,lq,cq,Nat.reduceBEq,p0_,p1_,p2_,p3_,p4_,p5_,q7_]
  ·
   rintro D t w hD hp hcl ⟨O,ht,hs⟩ rest hk
   obtain ⟨p6_,p5_,p0_,p1_,p2_,p3_,p4_,_,_⟩:=hp
   simp only [hD,p0_,p1_,p2_,p3_,p4_,p5_,p6_,cq,oT] at ht hs
   subst ht
   have hs:St _ [_,_] _:=hs.pull 1 rfl
   refine Qb4 (y:=0) (fkI .i64) gd13.1 gd13.2 gd15.1 gd15.2 (hown_of had16_) hs rfl rfl rfl rfl rfl (fun _=>rfl) ?_
   intro w hs
   refine g_n rfl ?_
   try dsimp only [Qae,Qaf]
   have hs:=hs.push 1 (by simp)
   refine hk _ _ ⟨O,?_,hs.cast ?_⟩<;>simp only [oT,lq,cq,Nat.reduceBEq,p0_,p1_,p2_,p3_,p4_,p5_,p6_]
  intro D t w hall hI
  obtain ⟨O,ht,hs⟩:=hI
  have p0_:=hall 0 (by decide)
  have p1_:=hall 1 (by decide)
  have p2_:=hall 2 (by decide)
  have p3_:=hall 3 (by decide)
  have p4_:=hall 4 (by decide)
  have p5_:=hall 5 (by decide)
  have p6_:=hall 6 (by decide)
  have p7_:=hall 7 (by decide)
  simp only [p0_,p1_,p2_,p3_,p4_,p5_,p6_,p7_,cq,oT] at ht hs
  subst ht
  refine Qad (Qad (Qag [0] rfl ?_))
  refine Qaa (v:=int .i64 0) rfl rfl rfl (g_d rfl ?_)
  try dsimp only [Qae,Qaf]
  refine Qab ?_
  obtain ⟨o1_,Ho,Hr1_⟩:=bind_get H
  refine Qax (J:=fun t w=>∃ x220:(List (List Int)),Qaj.a2 N x220=some r∧Fr t (fun O=>(O 0::O 1::O 2::O 3::O 4::O 5::O 6::O 7::v8::O 9::oT O 1 (oT O 2 (oT O 3 (oT O 4 (oT O 5 (oT O 6 (oT O 7 (oT O 8 (oT O 9 (oT O 10 (oT O 11 (oT O 12 (oT O 13 (O 140::O 141::O 142::O 143::[]))))))))))))):List Value))∧St w0 [Rows2 44 kHS (RowO 2 (K.int .i64)) v8 ms38 x220] w) ?_ ?_
  ·
   rintro t w ⟨x220,H,hf,hs⟩
   obtain ⟨O,rfl⟩:=hf.open
   try dsimp only [oT]
   unfold Qaj.a2 at H
   refine Qad (Qag [0,1] rfl ?_)
   refine Qaa (v:=v8) rfl rfl rfl (g_d rfl ?_)
   refine Qaa (v:=v8) rfl rfl rfl (g_d rfl (Qab ?_))
   obtain rfl:=QsJ H
   refine Qas Tryz.func62 (v:=v8) (res1 rfl rfl) ?_
   have hs:=hs.pull 0 rfl
   have hs:St _ [_] _:=St.take (Γ':=[]) hs
   exact ⟨_,rfl,v8,ms38,rfl,hs⟩
  intro ha1_
  have hs:=hs.pull 1 rfl
  have hs:St _ [_] _:=St.take (Γ':=[_]) hs
  refine QaL (I:=fun n_ t w=>∃ x130:(List (List Int)),∃ x131:Int,rounds (fun s=>Qaj.b2 N a4 r7 a1 s.1 s.2) n_ (x130,x131)=some o1_∧Fr t (fun O=>(v2::O 1::int .i64 a4::O 3::O 4::O 5::O 6::int .i64 r7::v8::O 9::O 10::int .i64 x131::O 12::O 13::O 14::O 15::O 16::O 17::O 18::O 19::oT O 2 (oT O 3 (oT O 4 (oT O 5 (oT O 6 (oT O 7 (oT O 8 (oT O 9 (oT O 10 (oT O 11 (oT O 12 (oT O 13 (O 140::O 141::O 142::O 143::[])))))))))))):List Value))∧St w0 [Rows2 44 kHS (RowO 2 (K.int .i64)) v8 ms38 x130] w) N ⟨stL x39 0 (stL (rdL x39 0 []) r40 0),0,Ho,rfl,hs⟩ ?_ ?_
  ·
   rintro _ _ ⟨x130,x131,h,_⟩
   exact rounds_zero h
  intro n_ ih1_
  rintro t w ⟨x130,x131,Ho,hf,hs⟩
  obtain ⟨O,rfl⟩:=hf.open
  try dsimp only [oT]
  obtain ⟨x127_,H,Hx1_⟩:=rounds_succ Ho
  have H:Qaj.b2 N a4 r7 a1 x130 x131=some x127_:=H
  unfold Qaj.b2 at H
  refine Qad (Qad (Qag [0,1,2] rfl ?_))
  refine Qaa (v:=int .i64 x131) rfl rfl rfl (g_d rfl ?_)
  refine Qaa (v:=int .i64 a4) rfl rfl rfl (g_d rfl ?_)
  refine Qap (B:=decide (x131≤a4)) rfl rfl rfl ?_ ?_
  ·
   intro hb
   rw [if_pos (b_dec_t hb)] at H
   refine g_d rfl ?_
   try dsimp only [Qae,Qaf]
   refine Qab (Qah rfl (Qay (Qad ?_)))
   refine Qbh (Qad (Qag [0] rfl ?_))
   refine Qaa (v:=int .i64 0) rfl rfl rfl (g_d rfl (Qab ?_))
   obtain ⟨o2_,Ho,Hr2_⟩:=bind_get H
   refine Qax (J:=fun t w=>∃ x219:(List (List Int)),Qaj.a4 N x131 x219=some x127_∧Fr t (fun O=>(v2::O 1::int .i64 a4::O 3::O 4::O 5::O 6::int .i64 r7::v8::O 9::O 10::int .i64 x131::O 12::O 13::O 14::O 15::O 16::O 17::O 18::O 19::oT O 2 (oT O 3 (oT O 4 (oT O 5 (oT O 6 (oT O 7 (oT O 8 (oT O 9 (oT O 10 (oT O 11 (oT O 12 (oT O 13 (O 140::O 141::O 142::O 143::[])))))))))))):List Value))∧St w0 [Rows2 44 kHS (RowO 2 (K.int .i64)) v8 ms38 x219] w) ?_ ?_
   ·
    rintro t w ⟨x219,H,hf,hs⟩
    obtain ⟨O,rfl⟩:=hf.open
    try dsimp only [oT]
    unfold Qaj.a4 at H
    refine QaE (Qag [0,1,2] rfl ?_)
    refine Qaa (v:=int .i64 x131) rfl rfl rfl (g_d rfl ?_)
    refine Qaa (v:=int .i64 (i64w (x131+1))) rfl rfl rfl (g_d rfl ?_)
    refine Qaa (v:=int .i64 (i64w (x131+1))) rfl rfl rfl (g_d rfl ?_)
    try dsimp only [Qae,Qaf]
    refine Qab ?_
    obtain rfl:=QsJ H
    have hs:=hs.pull 0 rfl
    have hs:St _ [_] _:=St.take (Γ':=[]) hs
    exact ih1_ _ _ ⟨x219,i64w (x131+1),Hx1_,rfl,hs⟩
   intro ha2_
   have hs:=hs.pull 0 rfl
   have hs:St _ [_] _:=St.take (Γ':=[]) hs
   refine QaL (I:=fun n_ t w=>∃ x175:(List (List Int)),∃ x176:Int,rounds (fun s=>Qaj.b4 N r7 x131 a1 a4 s.1 s.2) n_ (x175,x176)=some o2_∧Fr t (fun O=>(v2::O 1::int .i64 a4::O 3::O 4::O 5::O 6::int .i64 r7::v8::O 9::O 10::int .i64 x131::int .i64 x176::O 13::O 14::O 15::O 16::O 17::O 18::O 19::oT O 2 (oT O 3 (oT O 4 (oT O 5 (oT O 6 (oT O 7 (oT O 8 (oT O 9 (oT O 10 (oT O 11 (oT O 12 (oT O 13 (O 140::O 141::O 142::O 143::[])))))))))))):List Value))∧St w0 [Rows2 44 kHS (RowO 2 (K.int .i64)) v8 ms38 x175] w) N ⟨x130,0,Ho,rfl,hs⟩ ?_ ?_
   ·
    rintro _ _ ⟨x175,x176,h,_⟩
    exact rounds_zero h
   intro n_ ih2_
   rintro t w ⟨x175,x176,Ho,hf,hs⟩
   obtain ⟨O,rfl⟩:=hf.open
   try dsimp only [oT]
   obtain ⟨x126_,H,Hx2_⟩:=rounds_succ Ho
   have H:Qaj.b4 N r7 x131 a1 a4 x175 x176=some x126_:=H
   unfold Qaj.b4 at H
   refine Qad (Qad (Qag [0,1,2] rfl ?_))
   refine Qaa (v:=int .i64 x176) rfl rfl rfl (g_d rfl ?_)
   refine Qaa (v:=int .i64 r7) rfl rfl rfl (g_d rfl ?_)
   refine Qap (B:=decide (x176< r7)) rfl rfl rfl ?_ ?_
   ·
    intro hb
    rw [if_pos (b_dec_t hb)] at H
    refine g_d rfl (Qab (Qah rfl (Qay (Qad ?_))))
    refine Qax (J:=(fun t w=>∃ x218:(List (List Int)),Qaj.j6 N x176 x218=some x126_∧Fr t (fun O=>(v2::O 1::int .i64 a4::O 3::O 4::O 5::O 6::int .i64 r7::v8::O 9::O 10::int .i64 x131::int .i64 x176::O 13::O 14::O 15::O 16::O 17::O 18::O 19::oT O 2 (oT O 3 (oT O 4 (oT O 5 (oT O 6 (oT O 7 (oT O 8 (oT O 9 (oT O 10 (oT O 11 (oT O 12 (oT O 13 (O 140::O 141::O 142::O 143::[])))))))))))):List Value))∧St w0 [Rows2 44 kHS (RowO 2 (K.int .i64)) v8 ms38 x218] w)) ?_ ?_
    ·
     rintro t w ⟨x218,H,hf,hs⟩
     obtain ⟨O,rfl⟩:=hf.open
     try dsimp only [oT]
     unfold Qaj.j6 at H
     refine Qag [0,1,2] rfl ?_
     refine Qaa (v:=int .i64 x176) rfl rfl rfl (g_d rfl ?_)
     refine Qaa (v:=int .i64 (i64w (x176+1))) rfl rfl rfl (g_d rfl ?_)
     try dsimp only [Qae,Qaf]
     refine Qaa (v:=int .i64 (i64w (x176+1))) rfl rfl rfl (g_d rfl (Qab ?_))
     obtain rfl:=QsJ H
     have hs:=hs.pull 0 rfl
     have hs:St _ [_] _:=St.take (Γ':=[]) hs
     exact ih2_ _ _ ⟨x218,i64w (x176+1),Hx2_,rfl,hs⟩
    intro ha
    refine Qad (Qad (Qag [0,1,2,3,4,5,6,7] rfl ?_))
    refine Qaa (v:=v8) rfl rfl rfl (g_d rfl ?_)
    refine Qaa (v:=int .i64 x131) rfl rfl rfl (g_d rfl ?_)
    obtain ⟨g99,H⟩:=ite_get H
    refine Qbb fkHS zHS (hs.r2row 0 rfl) rfl (fun _=>rfl) g99.1 (hs.r2lt 0 rfl g99.2) rfl rfl rfl rfl rfl ?_
    intro p177 hp177 lp177 op177
    refine g_d rfl ?_
    try dsimp only [Qae,Qaf]
    refine Qat rfl rfl (v:=slice (rdL ms38 x131 zHS).a (rdL ms38 x131 zHS).n (rdL ms38 x131 zHS).c) rfl rfl (fun _=>rfl) hp177 (g_d rfl ?_)
    refine Qaa (v:=int .i64 x176) rfl rfl rfl (g_d rfl ?_)
    obtain ⟨g100,H⟩:=ite_get H
    refine Qbb (fkI .i64) 0 (hs.r2rd 0 rfl g99.1 g99.2) rfl (fun _=>rfl) g100.1 g100.2 rfl rfl rfl rfl rfl ?_
    intro p178 hp178 lp178 op178
    refine g_d rfl ?_
    try dsimp only [Qae,Qaf]
    refine Qat rfl rfl (v:=int .i64 (rdL (rdL x175 x131 []) x176 0)) rfl rfl (fun _=>rfl) hp178 (g_d rfl ?_)
    refine Qap (B:=decide ((rdL (rdL x175 x131 []) x176 0)< 0)) rfl rfl rfl ?_ ?_
    ·
     intro hb
     rw [if_pos (b_dec_t hb)] at H
     refine g_d rfl (Qab (Qah rfl ?_))
     refine Qa7 rfl ?_
     have hs:=hs.pull 0 rfl
     have hs:St _ [_] _:=St.take (Γ':=[]) hs
     exact ha _ _ ⟨x175,H,rfl,hs⟩
    intro hb
    rw [if_neg (b_dec_f hb)] at H
    refine g_d rfl ?_
    try dsimp only [Qae,Qaf]
    refine Qab (Qal rfl (Qay (Qad (Qag [0,1,2,3,4] rfl ?_))))
    refine Qaa (v:=v2) rfl rfl rfl (g_d rfl ?_)
    refine Qaa (v:=int .i64 x176) rfl rfl rfl (g_d rfl ?_)
    obtain ⟨r179,Hr179,H⟩:=bind_get H
    refine QaB (args:=[v2,int .i64 x176]) rfl rfl (QaC rfl (callFunc_enter Tryz.func77 rfl rfl) rfl) (Qa5.calls (a1:=a1) (a3:=x176) (hs.rd hr0) Hr179) ?_
    rintro _ w ⟨rfl,hs2⟩
    have hs:St _ [_] _:=hs.call hs2
    refine g_d rfl ?_
    refine Qa8 hs rfl rfl (z:=(agg #[int .i16 0,int .i16 0,int .i16 0,int .i16 0])) (cs:=((encA (encI .i16)) (Ar.rep 4 0))) rfl (fun _=>rfl) rfl ?_
    intro b180 w hs
    refine g_d rfl ?_
    try dsimp only [Qae,Qaf]
    refine QaH (n:=4) hs ((fkA (n:=4) (he:=(fkI .i16).len) (h1:=(fkI .i16).one)).len _) rfl rfl (vs:=((encA (encI .i16)) r179)) rfl rfl rfl (fun _=>rfl) ((fkA (n:=4) (he:=(fkI .i16).len) (h1:=(fkI .i16).one)).len _) ((fkA (n:=4) (he:=(fkI .i16).len) (h1:=(fkI .i16).one)).one _) ?_
    intro w hs
    refine g_n rfl (Qab (Qad (Qag [0] rfl ?_)))
    refine Qaa (v:=int .i64 0) rfl rfl rfl (g_d rfl (Qab ?_))
    obtain ⟨o3_,Ho,Hr3_⟩:=bind_get H
    refine Qax (J:=fun t w=>∃ x217:(List (List Int)),Qaj.a7 N x176 x217=some x126_∧Fr t (fun O=>(v2::O 1::int .i64 a4::O 3::O 4::O 5::O 6::int .i64 r7::v8::O 9::O 10::int .i64 x131::int .i64 x176::O 13::O 14::O 15::O 16::O 17::O 18::O 19::oT O 2 (oT O 3 (oT O 4 (oT O 5 (oT O 6 (oT O 7 (oT O 8 (oT O 9 (oT O 10 (oT O 11 (oT O 12 (oT O 13 (O 140::O 141::O 142::O 143::[])))))))))))):List Value))∧St w0 [Rows2 44 kHS (RowO 2 (K.int .i64)) v8 ms38 x217] w) ?_ ?_
    ·
     rintro t w ⟨x217,H,hf,hs⟩
     obtain ⟨O,rfl⟩:=hf.open
     try dsimp only [oT]
     unfold Qaj.a7 at H
     refine QaE ?_
     have hs:=hs.pull 0 rfl
     have hs:St _ [_] _:=St.take (Γ':=[]) hs
     exact ha _ _ ⟨x217,H,rfl,hs⟩
    intro ha3_
    have hs:=hs.pull 0 rfl
    have hs:=hs.pull 1 rfl
    have hs:St _ [_,_] _:=St.take (Γ':=[]) hs
    refine QaL (I:=fun n_ t w=>∃ x199:(List (List Int)),∃ x200:Int,rounds (fun s=>Qaj.b7 N a1 r179 x131 a4 x176 s.1 s.2) n_ (x199,x200)=some o3_∧Fr t (fun O=>(v2::O 1::int .i64 a4::O 3::O 4::O 5::O 6::int .i64 r7::v8::O 9::O 10::int .i64 x131::int .i64 x176::pointer (some ⟨b180,0,none⟩)::int .i64 x200::O 15::O 16::O 17::O 18::O 19::oT O 2 (oT O 3 (oT O 4 (oT O 5 (oT O 6 (oT O 7 (oT O 8 (oT O 9 (oT O 10 (oT O 11 (oT O 12 (oT O 13 (O 140::O 141::O 142::O 143::[])))))))))))):List Value))∧St w0 [Rows2 44 kHS (RowO 2 (K.int .i64)) v8 ms38 x199,Cells b180 ((encA (encI .i16)) r179) 28] w) N ⟨x175,0,Ho,rfl,hs⟩ ?_ ?_
    ·
     rintro _ _ ⟨x199,x200,h,_⟩
     exact rounds_zero h
    intro n_ ih3_
    rintro t w ⟨x199,x200,Ho,hf,hs⟩
    obtain ⟨O,rfl⟩:=hf.open
    try dsimp only [oT]
    obtain ⟨x125_,H,Hx3_⟩:=rounds_succ Ho
    have H:Qaj.b7 N a1 r179 x131 a4 x176 x199 x200=some x125_:=H
    unfold Qaj.b7 at H
    refine Qad (Qad (Qag [0,1,2,3] rfl ?_))
    refine Qaa (v:=int .i64 x200) rfl rfl rfl (g_d rfl ?_)
    refine Qaa (v:=v2) rfl rfl rfl (g_d rfl ?_)
    obtain ⟨r201,Hr201,H⟩:=bind_get H
    refine QaB (args:=[v2]) rfl rfl (QaC rfl (callFunc_enter Tryz.func27 rfl rfl) rfl) (Qbt.calls (a1:=a1) (hs.rd hr0) Hr201) ?_
    rintro _ w ⟨rfl,hs2⟩
    have hs:St _ [_,_] _:=hs.call hs2
    refine g_d rfl ?_
    try dsimp only [Qae,Qaf]
    refine Qap (B:=decide (x200< r201)) rfl rfl rfl ?_ ?_
    ·
     intro hb
     rw [if_pos (b_dec_t hb)] at H
     refine g_d rfl ?_
     try dsimp only [Qae,Qaf]
     refine Qab (Qah rfl (Qay (Qad ?_)))
     refine Qax (J:=(fun t w=>∃ x216:(List (List Int)),Qaj.j9 N x200 x216=some x125_∧Fr t (fun O=>(v2::O 1::int .i64 a4::O 3::O 4::O 5::O 6::int .i64 r7::v8::O 9::O 10::int .i64 x131::int .i64 x176::pointer (some ⟨b180,0,none⟩)::int .i64 x200::O 15::O 16::O 17::O 18::O 19::oT O 2 (oT O 3 (oT O 4 (oT O 5 (oT O 6 (oT O 7 (oT O 8 (oT O 9 (oT O 10 (oT O 11 (oT O 12 (oT O 13 (O 140::O 141::O 142::O 143::[])))))))))))):List Value))∧St w0 [Rows2 44 kHS (RowO 2 (K.int .i64)) v8 ms38 x216,Cells b180 ((encA (encI .i16)) r179) 28] w)) ?_ ?_
     ·
      rintro t w ⟨x216,H,hf,hs⟩
      obtain ⟨O,rfl⟩:=hf.open
      try dsimp only [oT]
      unfold Qaj.j9 at H
      refine Qag [0,1,2] rfl ?_
      refine Qaa (v:=int .i64 x200) rfl rfl rfl (g_d rfl ?_)
      refine Qaa (v:=int .i64 (i64w (x200+1))) rfl rfl rfl (g_d rfl ?_)
      refine Qaa (v:=int .i64 (i64w (x200+1))) rfl rfl rfl (g_d rfl ?_)
      try dsimp only [Qae,Qaf]
      refine Qab ?_
      obtain rfl:=QsJ H
      have hs:=hs.pull 1 rfl
      have hs:=hs.pull 1 rfl
      have hs:St _ [_,_] _:=St.take (Γ':=[]) hs
      exact ih3_ _ _ ⟨x216,i64w (x200+1),Hx3_,rfl,hs⟩
     intro ha
     refine Qad (Qag [0,1,2,3,4,5,6,7,8,9,10,11] rfl ?_)
     refine Qaa (v:=v2) rfl rfl rfl (g_d rfl ?_)
     refine QaG rfl rfl (es:=((encA (encI .i16)) r179)) rfl rfl (fun _=>rfl) (n:=4) (fun _=>rfl) ((fkA (n:=4) (he:=(fkI .i16).len) (h1:=(fkI .i16).one)).len _) (cells_all (hs.cells 1 rfl)) (g_d rfl ?_)
     refine Qaa (v:=int .i64 x200) rfl rfl rfl (g_d rfl ?_)
     refine Qaa (v:=int .u8 (u8w x200)) rfl rfl rfl (g_d rfl ?_)
     obtain ⟨r202,Hr202,H⟩:=bind_get H
     refine QaB (args:=[v2,agg ((encA (encI .i16)) r179).toArray,int .u8 (u8w x200)]) rfl rfl (QaC rfl (callFunc_enter Tryz.func28 rfl rfl) rfl) (QaI.calls (a1:=a1) (a3:=r179) (a4:=u8w x200) (hs.rd hr0) Hr202) ?_
     rintro _ w ⟨rfl,hs2⟩
     have hs:St _ [_,_] _:=hs.call hs2
     refine g_d rfl ?_
     try dsimp only [Qae,Qaf]
     obtain ⟨r203,Hr203,H⟩:=bind_get H
     refine QaB (args:=[agg ((encA (encI .i16)) r202).toArray]) rfl rfl (QaC rfl (callFunc_enter Tryz.func40 rfl rfl) rfl) (Qar.calls (a1:=r202) Hr203) ?_
     rintro _ w ⟨rfl,hs2⟩
     have hs:St _ [_,_] _:=hs.call hs2
     refine g_d rfl ?_
     refine Qaa (v:=tuple #[agg ((encA (encI .i16)) r203.1).toArray,int .i64 r203.2]) rfl rfl rfl (g_d rfl ?_)
     refine Qaa (v:=agg ((encA (encI .i16)) r203.1).toArray) rfl rfl rfl (g_d rfl ?_)
     refine Qaa (v:=int .i64 r203.2) rfl rfl rfl (g_d rfl ?_)
     refine Qa8 hs rfl rfl (z:=(agg #[int .i16 0,int .i16 0,int .i16 0,int .i16 0])) (cs:=((encA (encI .i16)) (Ar.rep 4 0))) rfl (fun _=>rfl) rfl ?_
     intro b204 w hs
     refine g_d rfl ?_
     try dsimp only [Qae,Qaf]
     refine QaH (n:=4) hs ((fkA (n:=4) (he:=(fkI .i16).len) (h1:=(fkI .i16).one)).len _) rfl rfl (vs:=((encA (encI .i16)) r203.1)) rfl rfl rfl (fun _=>rfl) ((fkA (n:=4) (he:=(fkI .i16).len) (h1:=(fkI .i16).one)).len _) ((fkA (n:=4) (he:=(fkI .i16).len) (h1:=(fkI .i16).one)).one _) ?_
     intro w hs
     refine g_n rfl ?_
     refine Qaa (v:=int .i64 r203.2) rfl rfl rfl (g_d rfl (Qab (Qad (Qad (Qag [0,1,2,3,4,5,6,7,8] rfl ?_)))))
     refine Qaa (v:=int .i64 r203.2) rfl rfl rfl (g_d rfl ?_)
     refine Qap (B:=r203.2==0) rfl rfl rfl ?_ ?_
     ·
      intro hb
      rw [if_pos (b_beq_t hb)] at H
      refine g_d rfl ?_
      refine Qaa (v:=bool true) rfl rfl rfl (g_d rfl (Qac rfl rfl (g_d rfl (Qac rfl rfl (g_d rfl (Qac rfl rfl (g_d rfl ?_)))))))
      try dsimp only [Qae,Qaf]
      refine Qac rfl rfl (g_d rfl (Qac rfl rfl (g_d rfl ?_)))
      refine Qaa (v:=bool true) rfl rfl rfl (g_d rfl ?_)
      try dsimp only [Qae,Qaf]
      refine Qab (Qah rfl ?_)
      refine Qa7 rfl ?_
      have hs:=hs.pull 2 rfl
      have hs:=hs.pull 2 rfl
      have hs:St _ [_,_] _:=St.take (Γ':=[_]) hs
      exact ha _ _ ⟨x199,H,rfl,hs⟩
     intro hb
     rw [if_neg (b_beq_f hb)] at H
     refine g_d rfl ?_
     try dsimp only [Qae,Qaf]
     refine Qaa (v:=bool false) rfl rfl rfl (g_d rfl ?_)
     refine Qaa (v:=int .i64 x131) rfl rfl rfl (g_d rfl ?_)
     refine Qaa (v:=int .i64 r203.2) rfl rfl rfl (g_d rfl ?_)
     refine Qaa (v:=int .i64 (i64w (x131+r203.2))) rfl rfl rfl (g_d rfl ?_)
     refine Qaa (v:=int .i64 a4) rfl rfl rfl (g_d rfl ?_)
     refine Qap (B:=decide ((i64w (x131+r203.2))>a4)) rfl rfl rfl ?_ ?_
     ·
      intro hb
      rw [if_pos (b_dec_t hb)] at H
      refine g_d rfl ?_
      refine Qaa (v:=bool true) rfl rfl rfl (g_d rfl ?_)
      try dsimp only [Qae,Qaf]
      refine Qab (Qah rfl ?_)
      refine Qa7 rfl ?_
      have hs:=hs.pull 2 rfl
      have hs:=hs.pull 2 rfl
      have hs:St _ [_,_] _:=St.take (Γ':=[_]) hs
      exact ha _ _ ⟨x199,H,rfl,hs⟩
     intro hb
     rw [if_neg (b_dec_f hb)] at H
     refine g_d rfl ?_
     try dsimp only [Qae,Qaf]
     refine Qaa (v:=bool false) rfl rfl rfl (g_d rfl (Qab (Qal rfl (Qay (Qad (Qag [0,1,2,3] rfl ?_))))))
     refine Qaa (v:=v2) rfl rfl rfl (g_d rfl ?_)
     refine QaG rfl rfl (es:=((encA (encI .i16)) r203.1)) rfl rfl (fun _=>rfl) (n:=4) (fun _=>rfl) ((fkA (n:=4) (he:=(fkI .i16).len) (h1:=(fkI .i16).one)).len _) (cells_all (hs.cells 0 rfl)) (g_d rfl ?_)
     try dsimp only [Qae,Qaf]
     obtain ⟨r206,Hr206,H⟩:=bind_get H
     refine QaB (args:=[v2,agg ((encA (encI .i16)) r203.1).toArray]) rfl rfl (QaC rfl (callFunc_enter Tryz.func76 rfl rfl) rfl) (QaW.calls (a1:=a1) (a3:=r203.1) (hs.rd hr0) Hr206) ?_
     rintro _ w ⟨rfl,hs2⟩
     have hs:St _ [_,_,_] _:=hs.call hs2
     refine g_d rfl ?_
     refine Qaa (v:=int .i64 r206) rfl rfl rfl (g_d rfl ?_)
     try dsimp only [Qae,Qaf]
     refine Qab (Qad ?_)
     obtain ⟨gd113,H⟩:=ite_get H
     obtain ⟨ad114_,ad114_N,ad114_C,had114_⟩:=sl_at (hs.r2row 1 rfl) gd113.1 (hs.r2lt 1 rfl gd113.2)
     obtain ⟨gd115,H⟩:=ite_get H
     obtain ⟨ad116_,ad116_N,ad116_C,had116_⟩:=sl_at (hs.r2rd 1 rfl gd113.1 gd113.2) gd115.1 gd115.2
     obtain ⟨r207,Hr207,H⟩:=bind_get H
     refine Qbe ?_
     intro T hT
     refine QbM (n:=12) rfl [0,1,2,3,4,5,6,7,8,9,10,11] [0,1,2,3,4,5,6,7,8,9,10,11] rfl rfl (Inv:=fun D t w=>∃ O:Nat→Value,t=(v2::O 1::int .i64 a4::O 3::O 4::O 5::O 6::int .i64 r7::v8::O 9::O 10::int .i64 x131::int .i64 x176::pointer (some ⟨b180,0,none⟩)::int .i64 x200::pointer (some ⟨b204,0,none⟩)::int .i64 r203.2::int .i64 r206::cnd (D 11) (int .i64 (i64w ((rdL (rdL x199 x131 []) x176 0)+r207))) (O 18)::O 19::oT O 2 (oT O 3 (oT O 4 (oT O 5 (oT O 6 (O 70::O 71::O 72::int .i64 x200::v2::int .i64 r201::bool true::O 77::O 78::tuple #[agg ((encA (encI .i16)) r203.1).toArray,int .i64 r203.2]::v2::agg ((encA (encI .i16)) r179).toArray::int .i64 x200::int .u8 (u8w x200)::agg ((encA (encI .i16)) r202).toArray::tuple #[agg ((encA (encI .i16)) r203.1).toArray,int .i64 r203.2]::agg ((encA (encI .i16)) r203.1).toArray::int .i64 r203.2::int .i64 r203.2::bool false::bool false::int .i64 x131::int .i64 r203.2::int .i64 (i64w (x131+r203.2))::int .i64 a4::bool false::bool false::v2::agg ((encA (encI .i16)) r203.1).toArray::int .i64 r206::cnd (D 0) v8 (O 100)::cnd (D 1) (int .i64 x131) (O 101)::cnd (D 2) (pointer (some (ad114_.add (x131.toNat*1)))) (O 102)::cnd (D 3) (slice (rdL ms38 x131 zHS).a (rdL ms38 x131 zHS).n (rdL ms38 x131 zHS).c) (O 103)::cnd (D 4) (int .i64 x176) (O 104)::cnd (D 5) (pointer (some (ad116_.add (x176.toNat*1)))) (O 105)::cnd (D 6) (int .i64 (rdL (rdL x199 x131 []) x176 0)) (O 106)::cnd (D 7) (int .i64 x200) (O 107)::cnd (D 8) (int .u8 (u8w x200)) (O 108)::cnd (D 9) (int .i64 r207) (O 109)::cnd (D 10) (int .i64 (i64w ((rdL (rdL x199 x131 []) x176 0)+r207))) (O 110)::O 111::O 112::O 113::O 114::O 115::O 116::O 117::O 118::O 119::oT O 12 (oT O 13 (O 140::O 141::O 142::O 143::[]))))))))∧St w0 [Cells b204 ((encA (encI .i16)) r203.1) 28,Rows2 44 kHS (RowO 2 (K.int .i64)) v8 ms38 x199,Cells b180 ((encA (encI .i16)) r179) 28] w) ?_ ⟨⟨⟨⟨⟨⟨⟨⟨⟨⟨⟨⟨trivial,?_⟩,?_⟩,?_⟩,?_⟩,?_⟩,?_⟩,?_⟩,?_⟩,?_⟩,?_⟩,?_⟩,?_⟩ ?_
     ·
      intro w hh hbw
      have hs:=hs.samew hh hbw
      exact ⟨fun i=>T.getD i undef,(by subst hT;rfl),hs⟩
     ·
      rintro D t w hD hp hcl ⟨O,ht,hs⟩ rest hk
      have q2_:=nz hcl 2 0 hD
      have q3_:=nz hcl 3 0 q2_
      have q5_:=nz hcl 5 0 q3_
      have q6_:=nz hcl 6 0 q5_
      have q10_:=nz hcl 10 0 q6_
      have q11_:=nz hcl 11 0 q10_
      simp only [hD,q2_,q3_,q5_,q6_,q10_,q11_,cq,oT] at ht hs
      subst ht
      refine Qaa (v:=v8) rfl rfl rfl (g_d rfl ?_)
      try dsimp only [Qae,Qaf]
      refine hk _ _ ⟨O,?_,hs.cast ?_⟩<;>simp only [oT,lq,cq,Nat.reduceBEq,q2_,q3_,q5_,q6_,q10_,q11_]
     ·
      rintro D t w hD hp hcl ⟨O,ht,hs⟩ rest hk
      have q2_:=nz hcl 2 1 hD
      have q3_:=nz hcl 3 0 q2_
      have q5_:=nz hcl 5 0 q3_
      have q6_:=nz hcl 6 0 q5_
      have q10_:=nz hcl 10 0 q6_
      have q11_:=nz hcl 11 0 q10_
      simp only [hD,q2_,q3_,q5_,q6_,q10_,q11_,cq,oT] at ht hs
      subst ht
      refine Qaa (v:=int .i64 x131) rfl rfl rfl (g_d rfl ?_)
      try dsimp only [Qae,Qaf]
      refine hk _ _ ⟨O,?_,hs.cast ?_⟩<;>simp only [oT,lq,cq,Nat.reduceBEq,q2_,q3_,q5_,q6_,q10_,q11_]
     ·
      rintro D t w hD hp hcl ⟨O,ht,hs⟩ rest hk
      obtain ⟨p0_,p1_,_⟩:=hp
      have q3_:=nz hcl 3 0 hD
      have q5_:=nz hcl 5 0 q3_
      have q6_:=nz hcl 6 0 q5_
      have q10_:=nz hcl 10 0 q6_
      have q11_:=nz hcl 11 0 q10_
      simp only [hD,p0_,p1_,q3_,q5_,q6_,q10_,q11_,cq,oT] at ht hs
      subst ht
      refine Qby (κ:=kHS) (m:=1) rfl (hs.r2row 1 rfl) rfl (fun _=>rfl) gd113.1 (hs.r2lt 1 rfl gd113.2) had114_ rfl rfl rfl rfl rfl (g_d rfl ?_)
      try dsimp only [Qae,Qaf]
      refine hk _ _ ⟨O,?_,hs.cast ?_⟩<;>simp only [oT,lq,cq,Nat.reduceBEq,p0_,p1_,q3_,q5_,q6_,q10_,q11_]
     ·
      rintro D t w hD hp hcl ⟨O,ht,hs⟩ rest hk
      obtain ⟨p2_,_⟩:=hp
      obtain ⟨p0_,p1_,_⟩:=(hcl.get 2 (by decide)) p2_
      have q5_:=nz hcl 5 0 hD
      have q6_:=nz hcl 6 0 q5_
      have q10_:=nz hcl 10 0 q6_
      have q11_:=nz hcl 11 0 q10_
      simp only [hD,p0_,p1_,p2_,q5_,q6_,q10_,q11_,cq,oT] at ht hs
      subst ht
      refine Qat rfl rfl (v:=slice (rdL ms38 x131 zHS).a (rdL ms38 x131 zHS).n (rdL ms38 x131 zHS).c) rfl rfl (fun _=>rfl) (cellsAt_of fkHS zHS (hs.r2row 1 rfl) had114_ gd113.1 (hs.r2lt 1 rfl gd113.2)) (g_d rfl ?_)
      try dsimp only [Qae,Qaf]
      refine hk _ _ ⟨O,?_,hs.cast ?_⟩<;>simp only [oT,lq,cq,Nat.reduceBEq,p0_,p1_,p2_,q5_,q6_,q10_,q11_]
     ·
      rintro D t w hD hp hcl ⟨O,ht,hs⟩ rest hk
      have q5_:=nz hcl 5 1 hD
      have q6_:=nz hcl 6 0 q5_
      have q10_:=nz hcl 10 0 q6_
      have q11_:=nz hcl 11 0 q10_
      simp only [hD,q5_,q6_,q10_,q11_,cq,oT] at ht hs
      subst ht
      refine Qaa (v:=int .i64 x176) rfl rfl rfl (g_d rfl ?_)
      try dsimp only [Qae,Qaf]
      refine hk _ _ ⟨O,?_,hs.cast ?_⟩<;>simp only [oT,lq,cq,Nat.reduceBEq,q5_,q6_,q10_,q11_]
     ·
      rintro D t w hD hp hcl ⟨O,ht,hs⟩ rest hk
      obtain ⟨p3_,p4_,_⟩:=hp
      obtain ⟨p2_,_⟩:=(hcl.get 3 (by decide)) p3_
      obtain ⟨p0_,p1_,_⟩:=(hcl.get 2 (by decide)) p2_
      have q6_:=nz hcl 6 0 hD
      have q10_:=nz hcl 10 0 q6_
      have q11_:=nz hcl 11 0 q10_
      simp only [hD,p0_,p1_,p2_,p3_,p4_,q6_,q10_,q11_,cq,oT] at ht hs
      subst ht
      refine Qby (κ:=(K.int .i64)) (m:=1) rfl (hs.r2rd 1 rfl gd113.1 gd113.2) rfl (fun _=>rfl) gd115.1 gd115.2 had116_ rfl rfl rfl rfl rfl (g_d rfl ?_)
      try dsimp only [Qae,Qaf]
      refine hk _ _ ⟨O,?_,hs.cast ?_⟩<;>simp only [oT,lq,cq,Nat.reduceBEq,p0_,p1_,p2_,p3_,p4_,q6_,q10_,q11_]
     ·
      rintro D t w hD hp hcl ⟨O,ht,hs⟩ rest hk
      obtain ⟨p5_,_⟩:=hp
      obtain ⟨p3_,p4_,_⟩:=(hcl.get 5 (by decide)) p5_
      obtain ⟨p2_,_⟩:=(hcl.get 3 (by decide)) p3_
      obtain ⟨p0_,p1_,_⟩:=(hcl.get 2 (by decide)) p2_
      have q10_:=nz hcl 10 0 hD
      have q11_:=nz hcl 11 0 q10_
      simp only [hD,p0_,p1_,p2_,p3_,p4_,p5_,q10_,q11_,cq,oT] at ht hs
      subst ht
      refine Qat rfl rfl (v:=int .i64 (rdL (rdL x199 x131 []) x176 0)) rfl rfl (fun _=>rfl) (cellsAt_of (fkI .i64) 0 (hs.r2rd 1 rfl gd113.1 gd113.2) had116_ gd115.1 gd115.2) (g_d rfl ?_)
      try dsimp only [Qae,Qaf]
      refine hk _ _ ⟨O,?_,hs.cast ?_⟩<;>simp only [oT,lq,cq,Nat.reduceBEq,p0_,p1_,p2_,p3_,p4_,p5_,q10_,q11_]
     ·
      rintro D t w hD hp hcl ⟨O,ht,hs⟩ rest hk
      have q8_:=nz hcl 8 0 hD
      have q9_:=nz hcl 9 0 q8_
      have q10_:=nz hcl 10 1 q9_
      have q11_:=nz hcl 11 0 q10_
      simp only [hD,q8_,q9_,q10_,q11_,cq,oT] at ht hs
      subst ht
      refine Qaa (v:=int .i64 x200) rfl rfl rfl (g_d rfl ?_)
      try dsimp only [Qae,Qaf]
      refine hk _ _ ⟨O,?_,hs.cast ?_⟩<;>simp only [oT,lq,cq,Nat.reduceBEq,q8_,q9_,q10_,q11_]
     ·
      rintro D t w hD hp hcl ⟨O,ht,hs⟩ rest hk
      obtain ⟨p7_,_⟩:=hp
      have q9_:=nz hcl 9 0 hD
      have q10_:=nz hcl 10 1 q9_
      have q11_:=nz hcl 11 0 q10_
      simp only [hD,p7_,q9_,q10_,q11_,cq,oT] at ht hs
      subst ht
      refine Qaa (v:=int .u8 (u8w x200)) rfl rfl rfl (g_d rfl ?_)
      try dsimp only [Qae,Qaf]
      refine hk _ _ ⟨O,?_,hs.cast ?_⟩<;>simp only [oT,lq,cq,Nat.reduceBEq,p7_,q9_,q10_,q11_]
     ·
      rintro D t w hD hp hcl ⟨O,ht,hs⟩ rest hk
      obtain ⟨p8_,_⟩:=hp
      obtain ⟨p7_,_⟩:=(hcl.get 8 (by decide)) p8_
      have q10_:=nz hcl 10 1 hD
      have q11_:=nz hcl 11 0 q10_
      simp only [hD,p7_,p8_,q10_,q11_,cq,oT] at ht hs
      subst ht
      refine QaB (args:=[int .u8 (u8w x200)]) rfl rfl (QaC rfl (callFunc_enter Tryz.func78 rfl rfl) rfl) (Qa1.calls (a1:=u8w x200) Hr207) ?_
      rintro _ w ⟨rfl,hs2⟩
      have hs:St _ [_,_,_] _:=hs.call hs2
      refine g_d rfl ?_
      try dsimp only [Qae,Qaf]
      refine hk _ _ ⟨O,?_,hs.cast ?_⟩<;>simp only [oT,lq,cq,Nat.reduceBEq,p7_,p8_,q10_,q11_]
     ·
      rintro D t w hD hp hcl ⟨O,ht,hs⟩ rest hk
      obtain ⟨p6_,p9_,_⟩:=hp
      obtain ⟨p8_,_⟩:=(hcl.get 9 (by decide)) p9_
      obtain ⟨p7_,_⟩:=(hcl.get 8 (by decide)) p8_
      obtain ⟨p5_,_⟩:=(hcl.get 6 (by decide)) p6_
      obtain ⟨p3_,p4_,_⟩:=(hcl.get 5 (by decide)) p5_
      obtain ⟨p2_,_⟩:=(hcl.get 3 (by decide)) p3_
      obtain ⟨p0_,p1_,_⟩:=(hcl.get 2 (by decide)) p2_
      have q11_:=nz hcl 11 0 hD
      simp only [hD,p0_,p1_,p2_,p3_,p4_,p5_,p6_,p7_,p8_,p9_,q11_,cq,oT] at ht hs
      subst ht
      refine Qaa (v:=int .i64 (i64w ((rdL (rdL x199 x131 []) x176 0)+r207))) rfl rfl rfl (g_d rfl ?_)
      try dsimp only [Qae,Qaf]
      refine hk _ _ ⟨O,?_,hs.cast ?_⟩<;>simp only [oT,lq,cq,Nat.reduceBEq,p0_,p1_,p2_,p3_,p4_,p5_,p6_,p7_,p8_,p9_,q11_]
     ·
      rintro D t w hD hp hcl ⟨O,ht,hs⟩ rest hk
      obtain ⟨p10_,p9_,p0_,p1_,p2_,p3_,p4_,p5_,p6_,p7_,p8_,_,_,_⟩:=hp
      simp only [hD,p0_,p1_,p2_,p3_,p4_,p5_,p6_,p7_,p8_,p9_,p10_,cq,oT] at ht hs
      subst ht
      refine Qaa (v:=int .i64 (i64w ((rdL (rdL x199 x131 []) x176 0)+r207))) rfl rfl rfl (g_d rfl ?_)
      try dsimp only [Qae,Qaf]
      refine hk _ _ ⟨O,?_,hs.cast ?_⟩<;>simp only [oT,lq,cq,Nat.reduceBEq,p0_,p1_,p2_,p3_,p4_,p5_,p6_,p7_,p8_,p9_,p10_]
     intro D t w hall hI
     obtain ⟨O,ht,hs⟩:=hI
     have p0_:=hall 0 (by decide)
     have p1_:=hall 1 (by decide)
     have p2_:=hall 2 (by decide)
     have p3_:=hall 3 (by decide)
     have p4_:=hall 4 (by decide)
     have p5_:=hall 5 (by decide)
     have p6_:=hall 6 (by decide)
     have p7_:=hall 7 (by decide)
     have p8_:=hall 8 (by decide)
     have p9_:=hall 9 (by decide)
     have p10_:=hall 10 (by decide)
     have p11_:=hall 11 (by decide)
     simp only [p0_,p1_,p2_,p3_,p4_,p5_,p6_,p7_,p8_,p9_,p10_,p11_,cq,oT] at ht hs
     subst ht
     refine Qad (Qag [0,1,2,3,4,5,6,7,8,9,10,11,12,13,14,15,16,17,18,19,20,21,22] rfl ?_)
     refine Qaa (v:=v8) rfl rfl rfl (g_d rfl ?_)
     refine Qaa (v:=int .i64 x131) rfl rfl rfl (g_d rfl ?_)
     refine Qaa (v:=int .i64 r203.2) rfl rfl rfl (g_d rfl ?_)
     refine Qaa (v:=int .i64 (i64w (x131+r203.2))) rfl rfl rfl (g_d rfl ?_)
     obtain ⟨g117,H⟩:=ite_get H
     refine Qbb fkHS zHS (hs.r2row 1 rfl) rfl (fun _=>rfl) g117.1 (hs.r2lt 1 rfl g117.2) rfl rfl rfl rfl rfl ?_
     intro p208 hp208 lp208 op208
     refine g_d rfl ?_
     try dsimp only [Qae,Qaf]
     refine Qat rfl rfl (v:=slice (rdL ms38 (i64w (x131+r203.2)) zHS).a (rdL ms38 (i64w (x131+r203.2)) zHS).n (rdL ms38 (i64w (x131+r203.2)) zHS).c) rfl rfl (fun _=>rfl) hp208 (g_d rfl ?_)
     refine Qaa (v:=int .i64 r206) rfl rfl rfl (g_d rfl ?_)
     obtain ⟨g118,H⟩:=ite_get H
     refine Qbb (fkI .i64) 0 (hs.r2rd 1 rfl g117.1 g117.2) rfl (fun _=>rfl) g118.1 g118.2 rfl rfl rfl rfl rfl ?_
     intro p209 hp209 lp209 op209
     refine g_d rfl ?_
     try dsimp only [Qae,Qaf]
     refine Qat rfl rfl (v:=int .i64 (rdL (rdL x199 (i64w (x131+r203.2)) []) r206 0)) rfl rfl (fun _=>rfl) hp209 (g_d rfl ?_)
     refine Qap (B:=decide ((rdL (rdL x199 (i64w (x131+r203.2)) []) r206 0)< 0)) rfl rfl rfl ?_ ?_
     ·
      intro hb
      rw [if_pos (b_dec_t hb)] at H
      refine g_d rfl ?_
      try dsimp only [Qae,Qaf]
      refine Qaa (v:=bool true) rfl rfl rfl (g_d rfl (Qac rfl rfl (g_d rfl (Qac rfl rfl (g_d rfl (Qac rfl rfl (g_d rfl ?_)))))))
      refine Qac rfl rfl (g_d rfl (Qac rfl rfl (g_d rfl (Qac rfl rfl (g_d rfl ?_)))))
      try dsimp only [Qae,Qaf]
      refine Qac rfl rfl (g_d rfl (Qac rfl rfl (g_d rfl (Qac rfl rfl (g_d rfl ?_)))))
      try dsimp only [Qae,Qaf]
      refine Qac rfl rfl (g_d rfl (Qac rfl rfl (g_d rfl ?_)))
      try dsimp only [Qae,Qaf]
      refine Qaa (v:=bool true) rfl rfl rfl (g_d rfl (Qab (Qah rfl (Qag [0,1,2,3,4,5,6,7,8,9] rfl ?_))))
      refine Qaa (v:=v8) rfl rfl rfl (g_d rfl ?_)
      refine Qaa (v:=int .i64 x131) rfl rfl rfl (g_d rfl ?_)
      refine Qaa (v:=int .i64 r203.2) rfl rfl rfl (g_d rfl ?_)
      refine Qaa (v:=int .i64 (i64w (x131+r203.2))) rfl rfl rfl (g_d rfl ?_)
      try dsimp only [Qae,Qaf]
      obtain ⟨g119,H⟩:=ite_get H
      refine Qbb fkHS zHS (hs.r2row 1 rfl) rfl (fun _=>rfl) g119.1 (hs.r2lt 1 rfl g119.2) rfl rfl rfl rfl rfl ?_
      intro p210 hp210 lp210 op210
      refine g_d rfl ?_
      refine Qat rfl rfl (v:=slice (rdL ms38 (i64w (x131+r203.2)) zHS).a (rdL ms38 (i64w (x131+r203.2)) zHS).n (rdL ms38 (i64w (x131+r203.2)) zHS).c) rfl rfl (fun _=>rfl) hp210 (g_d rfl ?_)
      try dsimp only [Qae,Qaf]
      refine Qaa (v:=int .i64 r206) rfl rfl rfl (g_d rfl ?_)
      refine Qaa (v:=int .i64 (i64w ((rdL (rdL x199 x131 []) x176 0)+r207))) rfl rfl rfl (g_d rfl ?_)
      obtain ⟨g120,H⟩:=ite_get H
      refine Qbb (fkI .i64) 0 (hs.r2rd 1 rfl g119.1 g119.2) rfl (fun _=>rfl) g120.1 g120.2 rfl rfl rfl rfl rfl ?_
      intro p211 hp211 lp211 op211
      refine g_d rfl ?_
      have hs:St _ [_,_,_] _:=hs.pull 1 rfl
      refine Qb4 (y:=i64w ((rdL (rdL x199 x131 []) x176 0)+r207)) (fkI .i64) g119.1 g119.2 g120.1 g120.2 op211 hs rfl rfl rfl rfl rfl (fun _=>rfl) ?_
      intro w hs
      refine g_n rfl (Qab ?_)
      refine QaE ?_
      have hs:=hs.pull 2 rfl
      have hs:=hs.pull 1 rfl
      have hs:St _ [_,_] _:=St.take (Γ':=[_]) hs
      exact ha _ _ ⟨stL x199 (i64w (x131+r203.2)) (stL (rdL x199 (i64w (x131+r203.2)) []) r206 (i64w ((rdL (rdL x199 x131 []) x176 0)+r207))),H,rfl,hs⟩
     intro hb
     rw [if_neg (b_dec_f hb)] at H
     refine g_d rfl ?_
     try dsimp only [Qae,Qaf]
     refine Qaa (v:=bool false) rfl rfl rfl (g_d rfl ?_)
     refine Qaa (v:=int .i64 (i64w ((rdL (rdL x199 x131 []) x176 0)+r207))) rfl rfl rfl (g_d rfl ?_)
     refine Qaa (v:=v8) rfl rfl rfl (g_d rfl ?_)
     refine Qaa (v:=int .i64 x131) rfl rfl rfl (g_d rfl ?_)
     refine Qaa (v:=int .i64 r203.2) rfl rfl rfl (g_d rfl ?_)
     refine Qaa (v:=int .i64 (i64w (x131+r203.2))) rfl rfl rfl (g_d rfl ?_)
     obtain ⟨g121,H⟩:=ite_get H
     refine Qbb fkHS zHS (hs.r2row 1 rfl) rfl (fun _=>rfl) g121.1 (hs.r2lt 1 rfl g121.2) rfl rfl rfl rfl rfl ?_
     intro p212 hp212 lp212 op212
     refine g_d rfl ?_
     try dsimp only [Qae,Qaf]
     refine Qat rfl rfl (v:=slice (rdL ms38 (i64w (x131+r203.2)) zHS).a (rdL ms38 (i64w (x131+r203.2)) zHS).n (rdL ms38 (i64w (x131+r203.2)) zHS).c) rfl rfl (fun _=>rfl) hp212 (g_d rfl ?_)
     refine Qaa (v:=int .i64 r206) rfl rfl rfl (g_d rfl ?_)
     obtain ⟨g122,H⟩:=ite_get H
     refine Qbb (fkI .i64) 0 (hs.r2rd 1 rfl g121.1 g121.2) rfl (fun _=>rfl) g122.1 g122.2 rfl rfl rfl rfl rfl ?_
     intro p213 hp213 lp213 op213
     refine g_d rfl ?_
     try dsimp only [Qae,Qaf]
     refine Qat rfl rfl (v:=int .i64 (rdL (rdL x199 (i64w (x131+r203.2)) []) r206 0)) rfl rfl (fun _=>rfl) hp213 (g_d rfl ?_)
     refine Qap (B:=decide ((i64w ((rdL (rdL x199 x131 []) x176 0)+r207))< (rdL (rdL x199 (i64w (x131+r203.2)) []) r206 0))) rfl rfl rfl ?_ ?_
     ·
      intro hb
      rw [if_pos (b_dec_t hb)] at H
      refine g_d rfl ?_
      try dsimp only [Qae,Qaf]
      refine Qaa (v:=bool true) rfl rfl rfl (g_d rfl (Qab (Qah rfl (Qag [0,1,2,3,4,5,6,7,8,9] rfl ?_))))
      refine Qaa (v:=v8) rfl rfl rfl (g_d rfl ?_)
      refine Qaa (v:=int .i64 x131) rfl rfl rfl (g_d rfl ?_)
      refine Qaa (v:=int .i64 r203.2) rfl rfl rfl (g_d rfl ?_)
      refine Qaa (v:=int .i64 (i64w (x131+r203.2))) rfl rfl rfl (g_d rfl ?_)
      try dsimp only [Qae,Qaf]
      obtain ⟨g123,H⟩:=ite_get H
      refine Qbb fkHS zHS (hs.r2row 1 rfl) rfl (fun _=>rfl) g123.1 (hs.r2lt 1 rfl g123.2) rfl rfl rfl rfl rfl ?_
      intro p214 hp214 lp214 op214
      refine g_d rfl ?_
      refine Qat rfl rfl (v:=slice (rdL ms38 (i64w (x131+r203.2)) zHS).a (rdL ms38 (i64w (x131+r203.2)) zHS).n (rdL ms38 (i64w (x131+r203.2)) zHS).c) rfl rfl (fun _=>rfl) hp214 (g_d rfl ?_)
      try dsimp only [Qae,Qaf]
      refine Qaa (v:=int .i64 r206) rfl rfl rfl (g_d rfl ?_)
      refine Qaa (v:=int .i64 (i64w ((rdL (rdL x199 x131 []) x176 0)+r207))) rfl rfl rfl (g_d rfl ?_)
      obtain ⟨g124,H⟩:=ite_get H
      refine Qbb (fkI .i64) 0 (hs.r2rd 1 rfl g123.1 g123.2) rfl (fun _=>rfl) g124.1 g124.2 rfl rfl rfl rfl rfl ?_
      intro p215 hp215 lp215 op215
      refine g_d rfl ?_
      have hs:St _ [_,_,_] _:=hs.pull 1 rfl
      refine Qb4 (y:=i64w ((rdL (rdL x199 x131 []) x176 0)+r207)) (fkI .i64) g123.1 g123.2 g124.1 g124.2 op215 hs rfl rfl rfl rfl rfl (fun _=>rfl) ?_
      intro w hs
      refine g_n rfl (Qab ?_)
      refine QaE ?_
      have hs:=hs.pull 2 rfl
      have hs:=hs.pull 1 rfl
      have hs:St _ [_,_] _:=St.take (Γ':=[_]) hs
      exact ha _ _ ⟨stL x199 (i64w (x131+r203.2)) (stL (rdL x199 (i64w (x131+r203.2)) []) r206 (i64w ((rdL (rdL x199 x131 []) x176 0)+r207))),H,rfl,hs⟩
     intro hb
     rw [if_neg (b_dec_f hb)] at H
     refine g_d rfl ?_
     try dsimp only [Qae,Qaf]
     refine Qaa (v:=bool false) rfl rfl rfl (g_d rfl (Qab (Qal rfl (Qay ?_))))
     refine QaE ?_
     have hs:=hs.pull 2 rfl
     have hs:=hs.pull 2 rfl
     have hs:St _ [_,_] _:=St.take (Γ':=[_]) hs
     exact ha _ _ ⟨x199,H,rfl,hs⟩
    intro hb
    rw [if_neg (b_dec_f hb)] at H
    refine g_d rfl (Qab (Qal rfl ?_))
    obtain rfl:=QsJ H
    subst Hx3_
    have hs:=hs.pull 0 rfl
    have hs:St _ [_] _:=St.take (Γ':=[_]) hs
    refine Qa7 rfl ?_
    exact ha3_ _ _ ⟨x199,Hr3_,rfl,hs⟩
   intro hb
   rw [if_neg (b_dec_f hb)] at H
   refine g_d rfl ?_
   try dsimp only [Qae,Qaf]
   refine Qab (Qal rfl ?_)
   obtain rfl:=QsJ H
   subst Hx2_
   have hs:=hs.pull 0 rfl
   have hs:St _ [_] _:=St.take (Γ':=[]) hs
   refine Qa7 rfl ?_
   exact ha2_ _ _ ⟨x175,Hr2_,rfl,hs⟩
  intro hb
  rw [if_neg (b_dec_f hb)] at H
  refine g_d rfl (Qab (Qal rfl ?_))
  obtain rfl:=QsJ H
  subst Hx1_
  have hs:=hs.pull 0 rfl
  have hs:St _ [_] _:=St.take (Γ':=[]) hs
  refine Qa7 rfl ?_
  exact ha1_ _ _ ⟨x130,Hr1_,rfl,hs⟩
 intro ha1_
 have hs:=hs.pull 0 rfl
 have hs:=hs.pull 1 rfl
 have hs:St _ [_,_] _:=St.take (Γ':=[]) hs
 refine QaL (I:=fun n_ t w=>∃ ms23:(List HS),∃ x24:(List (List Int)),∃ x25:Int,rounds (fun s=>Qaj.b0 N a4 r7 s.1 s.2) n_ (x24,x25)=some o1_∧Fr t (fun O=>(v2::O 1::int .i64 a4::O 3::pointer (some ⟨b5,0,none⟩)::O 5::O 6::int .i64 r7::v8::int .i64 x25::oT O 1 (oT O 2 (oT O 3 (oT O 4 (oT O 5 (oT O 6 (oT O 7 (oT O 8 (oT O 9 (oT O 10 (oT O 11 (oT O 12 (oT O 13 (O 140::O 141::O 142::O 143::[]))))))))))))):List Value))∧St w0 [Cells b5 ((encA (encI .i16)) a3) 28,Rows2 44 kHS (RowO 2 (K.int .i64)) v8 ms23 x24] w) N ⟨List.replicate ((i64w (a4+1))).toNat zHS,List.replicate ((i64w (a4+1))).toNat ([]:(List Int)),0,Ho,rfl,hs⟩ ?_ ?_
 ·
  rintro _ _ ⟨ms23,x24,x25,h,_⟩
  exact rounds_zero h
 intro n_ ih1_
 rintro t w ⟨ms23,x24,x25,Ho,hf,hs⟩
 obtain ⟨O,rfl⟩:=hf.open
 try dsimp only [oT]
 obtain ⟨x128_,H,Hx1_⟩:=rounds_succ Ho
 have H:Qaj.b0 N a4 r7 x24 x25=some x128_:=H
 unfold Qaj.b0 at H
 refine Qad (Qad (Qag [0,1,2] rfl ?_))
 refine Qaa (v:=int .i64 x25) rfl rfl rfl (g_d rfl ?_)
 refine Qaa (v:=int .i64 a4) rfl rfl rfl (g_d rfl ?_)
 refine Qap (B:=decide (x25≤a4)) rfl rfl rfl ?_ ?_
 ·
  intro hb
  rw [if_pos (b_dec_t hb)] at H
  refine g_d rfl (Qab (Qah rfl (Qay (Qad ?_))))
  refine Qbh (Qad (Qag [0,1,2,3,4,5] rfl ?_))
  refine Qaa (v:=v8) rfl rfl rfl (g_d rfl ?_)
  refine Qaa (v:=int .i64 x25) rfl rfl rfl (g_d rfl ?_)
  refine Qaa (v:=int .i64 r7) rfl rfl rfl (g_d rfl ?_)
  obtain ⟨g,H⟩:=ite_get H
  refine Qcg (κ:=(K.int .i64)) (z:=0) (zc:=((encI .i64) 0)) (zv:=(int .i64 0)) (B:=8) hs rfl rfl rfl rfl rfl g.1 rfl rfl rfl rfl rfl (fun _=>⟨rfl,rfl⟩) rfl (by decide) (by have:=g.2;omega) ?_
  intro v26 w hs
  refine g_d rfl ?_
  try dsimp only [Qae,Qaf]
  obtain ⟨g7,H⟩:=ite_get H
  refine Qbb fkHS zHS (hs.r2row 2 rfl) rfl (fun _=>rfl) g7.1 (hs.r2lt 2 rfl g7.2) rfl rfl rfl rfl rfl ?_
  intro p28 hp28 lp28 op28
  refine g_d rfl ?_
  obtain ⟨mh29,rfl⟩:=hs.hsOf 0 rfl
  have hs:St _ [_,_,_] _:=hs.pull 2 rfl
  refine Qb9 (I:=(RowO 2 (K.int .i64))) (h':=mh29) (x':=List.replicate (r7).toNat (0:Int)) fkHS g7.1 g7.2 op28 hs rfl rfl rfl rfl rfl (fun _=>rfl) ?_
  intro w hs
  refine g_n rfl (Qab (Qad (Qag [0] rfl ?_)))
  refine Qaa (v:=int .i64 0) rfl rfl rfl (g_d rfl ?_)
  try dsimp only [Qae,Qaf]
  refine Qab ?_
  obtain ⟨o2_,Ho,Hr2_⟩:=bind_get H
  refine Qax (J:=fun t w=>∃ x37:(List (List Int)),Qaj.a10 N x25 x37=some x128_∧Fr t (fun O=>(v2::O 1::int .i64 a4::O 3::pointer (some ⟨b5,0,none⟩)::O 5::O 6::int .i64 r7::v8::int .i64 x25::oT O 1 (oT O 2 (oT O 3 (oT O 4 (oT O 5 (oT O 6 (oT O 7 (oT O 8 (oT O 9 (oT O 10 (oT O 11 (oT O 12 (oT O 13 (O 140::O 141::O 142::O 143::[]))))))))))))):List Value))∧St w0 [Cells b5 ((encA (encI .i16)) a3) 28,Rows2 44 kHS (RowO 2 (K.int .i64)) v8 (stL ms23 x25 mh29) x37] w) ?_ ?_
  ·
   rintro t w ⟨x37,H,hf,hs⟩
   obtain ⟨O,rfl⟩:=hf.open
   try dsimp only [oT]
   unfold Qaj.a10 at H
   refine QaE (Qag [0,1,2] rfl ?_)
   refine Qaa (v:=int .i64 x25) rfl rfl rfl (g_d rfl ?_)
   refine Qaa (v:=int .i64 (i64w (x25+1))) rfl rfl rfl (g_d rfl ?_)
   try dsimp only [Qae,Qaf]
   refine Qaa (v:=int .i64 (i64w (x25+1))) rfl rfl rfl (g_d rfl (Qab ?_))
   obtain rfl:=QsJ H
   have hs:=hs.pull 1 rfl
   have hs:=hs.pull 1 rfl
   have hs:St _ [_,_] _:=St.take (Γ':=[]) hs
   exact ih1_ _ _ ⟨stL ms23 x25 mh29,x37,i64w (x25+1),Hx1_,rfl,hs⟩
  intro ha2_
  have hs:=hs.pull 0 rfl
  have hs:=hs.pull 1 rfl
  have hs:St _ [_,_] _:=St.take (Γ':=[]) hs
  refine QaL (I:=fun n_ t w=>∃ x33:(List (List Int)),∃ x34:Int,rounds (fun s=>Qaj.b10 N r7 x25 s.1 s.2) n_ (x33,x34)=some o2_∧Fr t (fun O=>(v2::O 1::int .i64 a4::O 3::pointer (some ⟨b5,0,none⟩)::O 5::O 6::int .i64 r7::v8::int .i64 x25::int .i64 x34::O 11::O 12::O 13::O 14::O 15::O 16::O 17::O 18::O 19::oT O 2 (oT O 3 (oT O 4 (oT O 5 (oT O 6 (oT O 7 (oT O 8 (oT O 9 (oT O 10 (oT O 11 (oT O 12 (oT O 13 (O 140::O 141::O 142::O 143::[])))))))))))):List Value))∧St w0 [Cells b5 ((encA (encI .i16)) a3) 28,Rows2 44 kHS (RowO 2 (K.int .i64)) v8 (stL ms23 x25 mh29) x33] w) N ⟨stL x24 x25 (List.replicate (r7).toNat (0:Int)),0,Ho,rfl,hs⟩ ?_ ?_
  ·
   rintro _ _ ⟨x33,x34,h,_⟩
   exact rounds_zero h
  intro n_ ih2_
  rintro t w ⟨x33,x34,Ho,hf,hs⟩
  obtain ⟨O,rfl⟩:=hf.open
  try dsimp only [oT]
  obtain ⟨x12_,H,Hx2_⟩:=rounds_succ Ho
  have H:Qaj.b10 N r7 x25 x33 x34=some x12_:=H
  unfold Qaj.b10 at H
  refine Qad (Qad (Qag [0,1,2] rfl ?_))
  refine Qaa (v:=int .i64 x34) rfl rfl rfl (g_d rfl ?_)
  refine Qaa (v:=int .i64 r7) rfl rfl rfl (g_d rfl ?_)
  refine Qap (B:=decide (x34< r7)) rfl rfl rfl ?_ ?_
  ·
   intro hb
   rw [if_pos (b_dec_t hb)] at H
   refine g_d rfl ?_
   try dsimp only [Qae,Qaf]
   refine Qab (Qah rfl (Qay (Qad ?_)))
   refine Qbh (Qag [0,1,2,3,4,5,6] rfl ?_)
   refine Qaa (v:=v8) rfl rfl rfl (g_d rfl ?_)
   refine Qaa (v:=int .i64 x25) rfl rfl rfl (g_d rfl ?_)
   obtain ⟨g10,H⟩:=ite_get H
   refine Qbb fkHS zHS (hs.r2row 1 rfl) rfl (fun _=>rfl) g10.1 (hs.r2lt 1 rfl g10.2) rfl rfl rfl rfl rfl ?_
   intro p35 hp35 lp35 op35
   refine g_d rfl ?_
   refine Qat rfl rfl (v:=slice (rdL (stL ms23 x25 mh29) x25 zHS).a (rdL (stL ms23 x25 mh29) x25 zHS).n (rdL (stL ms23 x25 mh29) x25 zHS).c) rfl rfl (fun _=>rfl) hp35 (g_d rfl ?_)
   try dsimp only [Qae,Qaf]
   refine Qaa (v:=int .i64 x34) rfl rfl rfl (g_d rfl ?_)
   obtain ⟨g11,H⟩:=ite_get H
   refine Qbb (fkI .i64) 0 (hs.r2rd 1 rfl g10.1 g10.2) rfl (fun _=>rfl) g11.1 g11.2 rfl rfl rfl rfl rfl ?_
   intro p36 hp36 lp36 op36
   refine g_d rfl ?_
   have hs:St _ [_,_] _:=hs.pull 1 rfl
   refine Qb4 (y:=(-1)) (fkI .i64) g10.1 g10.2 g11.1 g11.2 op36 hs rfl rfl rfl rfl rfl (fun _=>rfl) ?_
   intro w hs
   refine g_n rfl (Qab ?_)
   refine QaE (Qag [0,1,2] rfl ?_)
   refine Qaa (v:=int .i64 x34) rfl rfl rfl (g_d rfl ?_)
   refine Qaa (v:=int .i64 (i64w (x34+1))) rfl rfl rfl (g_d rfl ?_)
   try dsimp only [Qae,Qaf]
   refine Qaa (v:=int .i64 (i64w (x34+1))) rfl rfl rfl (g_d rfl (Qab ?_))
   obtain rfl:=QsJ H
   have hs:=hs.pull 0 rfl
   have hs:=hs.pull 1 rfl
   have hs:St _ [_,_] _:=St.take (Γ':=[]) hs
   exact ih2_ _ _ ⟨stL x33 x25 (stL (rdL x33 x25 []) x34 (-1)),i64w (x34+1),Hx2_,rfl,hs⟩
  intro hb
  rw [if_neg (b_dec_f hb)] at H
  refine g_d rfl (Qab (Qal rfl ?_))
  obtain rfl:=QsJ H
  subst Hx2_
  have hs:=hs.pull 1 rfl
  have hs:=hs.pull 1 rfl
  have hs:St _ [_,_] _:=St.take (Γ':=[]) hs
  refine Qa7 rfl ?_
  exact ha2_ _ _ ⟨x33,Hr2_,rfl,hs⟩
 intro hb
 rw [if_neg (b_dec_f hb)] at H
 refine g_d rfl ?_
 try dsimp only [Qae,Qaf]
 refine Qab (Qal rfl ?_)
 obtain rfl:=QsJ H
 subst Hx1_
 have hs:=hs.pull 1 rfl
 have hs:=hs.pull 1 rfl
 have hs:St _ [_,_] _:=St.take (Γ':=[]) hs
 refine Qa7 rfl ?_
 exact ha1_ _ _ ⟨ms23,x24,Hr1_,rfl,hs⟩
end Go.Proofs.YtgoninfjneepfaaGreatDoorX
