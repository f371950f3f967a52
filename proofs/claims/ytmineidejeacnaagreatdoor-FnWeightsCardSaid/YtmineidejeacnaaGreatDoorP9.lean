import Derived.Test.YtmineidejeacnaaGreatDoorP8
namespace Go.Proofs.YtmineidejeacnaaGreatDoorX
open Go Go.RowKit Go.Proofs
open Go.Value (int pointer bool agg slice string tuple)
set_option maxHeartbeats 8000000
set_option maxRecDepth 100000
set_option linter.unusedVariables false
set_option linter.unusedSimpArgs false
def Qat.post (w0:World) (r:((List Int)×Int)) (v:Value) (w:World):Prop:=∃ u1:Value,v=tuple #[u1,int .i64 r.2]∧St w0 [Row 49 (K.int .i8) u1 r.1] w
theorem Qat.calls {N:Nat} {a1:(List Int)} {a3:Int} {a4:Bool} {v2:Value} {w0:World} {Q:((List Int)×Int)→Prop} (hr0:RdRow (K.int .i16) w0 v2 a1) (H:Qat.f N a1 a3 a4 Q):
 Calls Tryz.prog 8 #[v2,int .i64 a3,bool a4] w0 fun e w=>∃ v,e= .returned v∧∃ r,Q r∧Qat.post w0 r v w:=by
 unfold Qat.f at H
 have hs:St w0 [] w0:=St.refl w0
 refine calls_of_g (n:=97) Tryz.func8 rfl rfl ?_
 show G _ _ _ _ (_::_::_::_::_::_::_::_::_::_::_::_::_::_::_::_::_::_::_::_::_::_::_::_::_::_::_::_::_::_::_::_::_::_::_::_::_::_::_::_::_::_::_::_::_::_::_::_::_::_::_::_::_::_::_::_::_::_::_::_::_::_::_::_::_::_::_::_::_::_::_::_::_::_::_::_::_::_::_::_::_::_::_::_::_::_::_::_::_::_::_::_::_::_::_::_::_::_::_::_::[]) _
 refine Qad (Qag [0,1] rfl ?_)
 refine Qaa (v:=slice none 0 0) rfl rfl rfl (g_d rfl ?_)
 refine Qaa (v:=int .i64 0) rfl rfl rfl (g_d rfl ?_)
 try dsimp only [Qae,Qaf]
 refine Qac (Qad (Qad (Qag [0,1,2,3] rfl ?_)))
 refine Qaa (v:=v2) rfl rfl rfl (g_d rfl ?_)
 refine Qaa (v:=int .i64 a3) rfl rfl rfl (g_d rfl ?_)
 obtain ⟨r5,Hr5,H⟩:=H
 refine Qaw (args:=[v2,int .i64 a3]) rfl rfl (Qax rfl (callFunc_enter Tryz.func32 rfl rfl) rfl) (Qbd.calls (a1:=a1) (a3:=a3) (hs.rd hr0) Hr5) ?_
 rintro _ w ⟨rfl,hs2⟩
 have hs:St _ [] _:=hs.call hs2
 refine g_d rfl ?_
 refine Qaa (v:=int .i64 r5) rfl rfl rfl (g_d rfl ?_)
 try dsimp only [Qae,Qaf]
 refine Qac (Qad (Qag [0,1] rfl ?_))
 refine Qaa (v:=int .i64 r5) rfl rfl rfl (g_d rfl ?_)
 refine Qas (B:=r5 !=0) rfl rfl rfl ?_ ?_
 ·
  intro hb
  rw [if_neg (b_bne_t hb)] at H
  refine g_d rfl (Qac (Qai rfl (Qad (Qag [0,1,2] rfl ?_))))
  refine Qaa (v:=int .i64 r5) rfl rfl rfl (g_d rfl ?_)
  refine Qaa (v:=slice none 0 0) rfl rfl rfl (g_d rfl ?_)
  try dsimp only [Qae,Qaf]
  refine Qaa (v:=int .i64 r5) rfl rfl rfl (g_d rfl (Qac ?_))
  refine Qaq Tryz.func8 (v:=tuple #[slice none 0 0,int .i64 r5]) (resN (l:=Tryz.f8.results.toList) (vs:=[slice none 0 0,int .i64 r5]) rfl ⟨rfl,rfl,trivial⟩ (by simp)) ?_
  have hs:=hs.nil 49 (K.int .i8)
  have hs:=hs.pull 0 rfl
  have hs:St _ [_] _:=St.take (Γ':=[]) hs
  exact ⟨_,rfl,_,H,(slice none 0 0),rfl,hs⟩
 intro hb
 rw [if_pos (b_bne_f hb)] at H
 refine g_d rfl (Qac (Qal rfl (Qay (Qad (Qag [0,1,2,3] rfl ?_)))))
 refine Qaa (v:=v2) rfl rfl rfl (g_d rfl ?_)
 refine Qaa (v:=bool a4) rfl rfl rfl (g_d rfl ?_)
 refine Qaw (args:=[v2,bool a4]) rfl rfl (Qax rfl (callFunc_enter Tryz.func33 rfl rfl) rfl) (Qak.calls (a1:=a1) (a3:=a4) (hs.rd hr0) H) ?_
 rintro v7 w ⟨r6,H,_,mm8,rfl,hs2⟩
 try dsimp only at H
 have hs:St _ [_] _:=hs.call hs2
 refine g_d rfl ?_
 try dsimp only [Qae,Qaf]
 refine Qaa (v:=v7) rfl rfl rfl (g_d rfl (Qac (Qad (Qag [0,1,2,3,4,5,6,7,8,9,10] rfl ?_))))
 refine Qaa (v:=v7) rfl rfl rfl (g_d rfl ?_)
 obtain ⟨g1,H⟩:=ite_getD H
 refine Qa6 fkHM none (hs.r2row 0 rfl) rfl (fun _=>rfl) g1.1 (hs.r2lt 0 rfl g1.2) rfl rfl rfl rfl rfl ?_
 intro p10 hp10 lp10 op10
 refine g_d rfl ?_
 try dsimp only [Qae,Qaf]
 refine QaA rfl rfl (v:=Value.map (rdL mm8 0 none)) rfl rfl (fun _=>rfl) hp10 (g_d rfl ?_)
 refine Qaa (v:=int .i64 a3) rfl rfl rfl (g_d rfl ?_)
 refine Qaa (v:=tuple #[agg (Qap (mGet ((rdL r6 0 none).getD []) a3 Qan)).toArray,bool (mIdx ((rdL r6 0 none).getD []) a3).isSome]) rfl rfl (QbQ (keyInt Tryz.underlying2) (a:=a3) (z:=Qan) (hs.r2mp 0 rfl g1.1 g1.2) rfl Tryz.underlying66 rfl rfl (fun _=>rfl)) (g_d rfl ?_)
 try dsimp only [Qae,Qaf]
 refine Qaa (v:=tuple #[agg (Qap (mGet ((rdL r6 0 none).getD []) a3 Qan)).toArray,bool (mIdx ((rdL r6 0 none).getD []) a3).isSome]) rfl rfl rfl (g_d rfl ?_)
 refine Qaa (v:=agg (Qap (mGet ((rdL r6 0 none).getD []) a3 Qan)).toArray) rfl rfl rfl (g_d rfl ?_)
 refine Qaa (v:=bool (mIdx ((rdL r6 0 none).getD []) a3).isSome) rfl rfl rfl (g_d rfl ?_)
 refine QbN hs rfl rfl (z:=(agg #[int .i64 0,int .i64 0])) (cs:=(Qap Qan)) rfl (fun _=>rfl) rfl ?_
 intro b11 w hs
 refine g_d rfl ?_
 refine QbK (n:=2) hs (Qa2.len _) rfl rfl (vs:=(Qap (mGet ((rdL r6 0 none).getD []) a3 Qan))) rfl rfl rfl (fun _=>rfl) (Qa2.len _) (Qa2.one _) ?_
 intro w hs
 refine g_n rfl ?_
 refine Qaa (v:=bool (mIdx ((rdL r6 0 none).getD []) a3).isSome) rfl rfl rfl (g_d rfl ?_)
 try dsimp only [Qae,Qaf]
 refine Qac (Qad (Qad (Qag [0,1] rfl ?_)))
 refine Qas (B:=(mIdx ((rdL r6 0 none).getD []) a3).isSome) rfl rfl rfl ?_ ?_
 ·
  intro hb
  rw [if_pos (b_var_t hb)] at H
  refine g_d rfl ?_
  refine Qaa (v:=bool false) rfl rfl rfl (g_d rfl ?_)
  try dsimp only [Qae,Qaf]
  refine Qac (Qal rfl (Qay (Qad ?_)))
  refine Qbz ?_
  intro T hT
  refine Qcg (n:=5) rfl [0,1,2,3,4] [0,2,3,1,4] rfl rfl (Inv:=fun D t w=>∃ v13:Value,∃ O:Nat→Value,t=(v2::int .i64 a3::bool a4::O 3::O 4::O 5::slice none 0 0::int .i64 0::int .i64 r5::v7::pointer (some ⟨b11,0,none⟩)::bool (mIdx ((rdL r6 0 none).getD []) a3).isSome::cnd (D 3) v13 (O 12)::cnd (D 4) (int .i64 ((mGet ((rdL r6 0 none).getD []) a3 Qan).QaW)) (O 13)::O 14::O 15::O 16::O 17::O 18::O 19::O 20::O 21::v2::int .i64 a3::int .i64 r5::int .i64 r5::bool false::O 27::v2::bool a4::v7::tuple #[agg (Qap (mGet ((rdL r6 0 none).getD []) a3 Qan)).toArray,bool (mIdx ((rdL r6 0 none).getD []) a3).isSome]::v7::pointer (some p10)::Value.map (rdL mm8 0 none)::int .i64 a3::tuple #[agg (Qap (mGet ((rdL r6 0 none).getD []) a3 Qan)).toArray,bool (mIdx ((rdL r6 0 none).getD []) a3).isSome]::agg (Qap (mGet ((rdL r6 0 none).getD []) a3 Qan)).toArray::bool (mIdx ((rdL r6 0 none).getD []) a3).isSome::bool true::bool false::cnd (D 0) v13 (O 41)::cnd (D 1) (pointer (some ⟨b11,1,none⟩)) (O 42)::cnd (D 2) (int .i64 ((mGet ((rdL r6 0 none).getD []) a3 Qan).QaW)) (O 43)::O 44::O 45::O 46::O 47::O 48::O 49::oT O 5 (oT O 6 (oT O 7 (oT O 8 (oT O 9 ([]))))))∧St w0 [Asc (D 0) (Row 49 (K.int .i8) v13 ([]:List Int)),Cells b11 (Qap (mGet ((rdL r6 0 none).getD []) a3 Qan)) 64,Rows2 66 kHM (MapO (int .i64) QaJ) v7 mm8 r6] w) ?_ ⟨⟨⟨⟨⟨trivial,?_⟩,?_⟩,?_⟩,?_⟩,?_⟩ ?_
  ·
   intro w hh hbw
   have hs:=hs.samew hh hbw
   have hs:=hs.emp
   exact ⟨undef,fun i=>T.getD i undef,(by subst hT;rfl),hs⟩
  ·
   rintro D t w hD hp hcl ⟨v13,O,ht,hs⟩ rest hk
   have q3_:=nz hcl 3 0 hD
   have q4_:=nz hcl 4 1 q3_
   simp only [hD,q3_,q4_,cq,oT] at ht hs
   subst ht
   refine QbJ (κ:=(K.int .i8)) hs rfl rfl rfl rfl (fun _=>rfl) ?_
   intro v13 w hs
   refine g_d rfl ?_
   try dsimp only [Qae,Qaf]
   have hs:=hs.fill 0 rfl
   refine hk _ _ ⟨v13,O,?_,hs.cast ?_⟩<;>simp only [oT,lq,cq,Nat.reduceBEq,q3_,q4_]
  ·
   rintro D t w hD hp hcl ⟨v13,O,ht,hs⟩ rest hk
   have q2_:=nz hcl 2 0 hD
   have q4_:=nz hcl 4 0 q2_
   simp only [hD,q2_,q4_,cq,oT] at ht hs
   subst ht
   refine Qaa (v:=pointer (some ⟨b11,1,none⟩)) rfl rfl rfl (g_d rfl ?_)
   try dsimp only [Qae,Qaf]
   refine hk _ _ ⟨v13,O,?_,hs.cast ?_⟩<;>simp only [oT,lq,cq,Nat.reduceBEq,q2_,q4_]
  ·
   rintro D t w hD hp hcl ⟨v13,O,ht,hs⟩ rest hk
   obtain ⟨p1_,_⟩:=hp
   have q4_:=nz hcl 4 0 hD
   simp only [hD,p1_,q4_,cq,oT] at ht hs
   subst ht
   refine QaA rfl rfl (v:=int .i64 ((mGet ((rdL r6 0 none).getD []) a3 Qan).QaW)) rfl rfl (fun _=>rfl) (cells_load (hs.cells 1 rfl) 1 1 rfl) (g_d rfl ?_)
   try dsimp only [Qae,Qaf]
   refine hk _ _ ⟨v13,O,?_,hs.cast ?_⟩<;>simp only [oT,lq,cq,Nat.reduceBEq,p1_,q4_]
  ·
   rintro D t w hD hp hcl ⟨v13,O,ht,hs⟩ rest hk
   obtain ⟨p0_,_,_⟩:=hp
   have q4_:=nz hcl 4 1 hD
   simp only [hD,p0_,q4_,cq,oT] at ht hs
   subst ht
   refine Qaa (v:=v13) rfl rfl rfl (g_d rfl ?_)
   try dsimp only [Qae,Qaf]
   refine hk _ _ ⟨v13,O,?_,hs.cast ?_⟩<;>simp only [oT,lq,cq,Nat.reduceBEq,p0_,q4_]
  ·
   rintro D t w hD hp hcl ⟨v13,O,ht,hs⟩ rest hk
   obtain ⟨p2_,p3_,p0_,p1_,_,_,_⟩:=hp
   simp only [hD,p0_,p1_,p2_,p3_,cq,oT] at ht hs
   subst ht
   refine Qaa (v:=int .i64 ((mGet ((rdL r6 0 none).getD []) a3 Qan).QaW)) rfl rfl rfl (g_d rfl ?_)
   try dsimp only [Qae,Qaf]
   refine hk _ _ ⟨v13,O,?_,hs.cast ?_⟩<;>simp only [oT,lq,cq,Nat.reduceBEq,p0_,p1_,p2_,p3_]
  intro D t w hall hI
  obtain ⟨v13,O,ht,hs⟩:=hI
  have p0_:=hall 0 (by decide)
  have p1_:=hall 1 (by decide)
  have p2_:=hall 2 (by decide)
  have p3_:=hall 3 (by decide)
  have p4_:=hall 4 (by decide)
  simp only [p0_,p1_,p2_,p3_,p4_,cq,oT] at ht hs
  subst ht
  refine Qad (Qad (Qag [0,1,2] rfl ?_))
  refine Qaa (v:=v2) rfl rfl rfl (g_d rfl ?_)
  refine Qba (hs.rd hr0) rfl rfl rfl rfl rfl (g_d rfl ?_)
  refine Qaa (v:=int .i64 0) rfl rfl rfl (g_d rfl (Qac ?_))
  have Ho:=H
  refine QaC (J:=fun t w=>∃ v47:Value,∃ x48:(List Int),Qat.a0 N x48 Q∧Fr t (fun O=>(oT O 0 (O 10::O 11::v47::O 13::O 14::O 15::O 16::O 17::O 18::O 19::oT O 2 (oT O 3 (oT O 4 (oT O 5 (oT O 6 (oT O 7 (oT O 8 (oT O 9 ([]))))))))):List Value))∧St w0 [Row 49 (K.int .i8) v47 x48] w) ?_ ?_
  ·
   rintro t w ⟨v47,x48,H,hf,hs⟩
   obtain ⟨O,rfl⟩:=hf.open
   try dsimp only [oT]
   unfold Qat.a0 at H
   refine Qad (Qag [0,1,2] rfl ?_)
   refine Qaa (v:=v47) rfl rfl rfl (g_d rfl ?_)
   refine Qaa (v:=v47) rfl rfl rfl (g_d rfl ?_)
   refine Qaa (v:=int .i64 0) rfl rfl rfl (g_d rfl ?_)
   try dsimp only [Qae,Qaf]
   refine Qac ?_
   refine Qaq Tryz.func8 (v:=tuple #[v47,int .i64 0]) (resN (l:=Tryz.f8.results.toList) (vs:=[v47,int .i64 0]) rfl ⟨rfl,rfl,trivial⟩ (by simp)) ?_
   have hs:=hs.pull 0 rfl
   have hs:St _ [_] _:=St.take (Γ':=[]) hs
   exact ⟨_,rfl,_,H,v47,rfl,hs⟩
  intro ha1_
  have hs:=hs.pull 0 rfl
  have hs:=hs.pull 2 rfl
  have hs:St _ [_,_] _:=St.take (Γ':=[_]) hs
  refine QaP (I:=fun n_ t w=>∃ x16:Int,∃ v18:Value,∃ x19:(List Int),∃ x20:Int,∃ x21:Int,roundsD (fun s=>Qat.b0 N a1 a4 r6 s.1 s.2.1 s.2.2.1 s.2.2.2) n_ (x16,x19,x20,x21) (Ex.finD (fun s=>Qat.a0 N s Q) Q)∧Fr t (fun O=>(O 0::int .i64 x16::bool a4::O 3::O 4::O 5::O 6::O 7::O 8::v7::O 10::O 11::v18::int .i64 x20::O 14::O 15::O 16::O 17::O 18::O 19::oT O 2 (oT O 3 (O 40::O 41::O 42::O 43::v2::int .i64 (a1.length:Int)::int .i64 x21::O 47::O 48::O 49::oT O 5 (oT O 6 (oT O 7 (oT O 8 (oT O 9 ([]))))))):List Value))∧St w0 [Rows2 66 kHM (MapO (int .i64) QaJ) v7 mm8 r6,Row 49 (K.int .i8) v18 x19] w) N ⟨a3,v13,([]:List Int),(mGet ((rdL r6 0 none).getD []) a3 Qan).QaW,0,Ho,rfl,hs⟩ ?_ ?_
  ·
   rintro _ _ ⟨x16,v18,x19,x20,x21,h,_⟩
   exact (h:False).elim
  intro n_ ih1_
  rintro t w ⟨x16,v18,x19,x20,x21,Ho,hf,hs⟩
  obtain ⟨O,rfl⟩:=hf.open
  try dsimp only [oT]
  obtain ⟨x6_,hQ1_,H⟩:=roundsD_succ Ho
  have H:Qat.b0 N a1 a4 r6 x16 x19 x20 x21 x6_:=H
  unfold Qat.b0 at H
  refine Qad (Qag [0] rfl ?_)
  refine Qas (B:=decide (x21< (a1.length:Int))) rfl rfl rfl ?_ ?_
  ·
   intro hb
   rw [if_pos (b_dec_t hb)] at H
   refine g_d rfl (Qac (Qad (Qai rfl (Qay (Qad ?_)))))
   refine Qbe (Qad (Qag [0,1,2,3,4] rfl ?_))
   refine Qaa (v:=int .i64 x21) rfl rfl rfl (g_d rfl ?_)
   obtain ⟨g2,H⟩:=ite_getD H
   refine Qa6 (fkI .i16) 0 (hs.rd hr0) rfl (fun _=>rfl) g2.1 g2.2 rfl rfl rfl rfl rfl ?_
   intro p22 hp22 lp22 op22
   refine g_d rfl ?_
   try dsimp only [Qae,Qaf]
   refine QaA rfl rfl (v:=int .i16 (rdL a1 x21 0)) rfl rfl (fun _=>rfl) hp22 (g_d rfl ?_)
   refine Qaa (v:=int .i64 x21) rfl rfl rfl (g_d rfl ?_)
   try dsimp only [Qae,Qaf]
   refine Qaa (v:=int .i16 (rdL a1 x21 0)) rfl rfl rfl (g_d rfl (Qac (Qad (Qag [0,1,2,3] rfl ?_))))
   refine Qaa (v:=bool a4) rfl rfl rfl (g_d rfl ?_)
   obtain ⟨r23,Hr23,H⟩:=H
   refine Qaw (args:=[bool a4]) rfl rfl (Qax rfl (callFunc_enter Tryz.func34 rfl rfl) rfl) (Qby.calls (a1:=a4) Hr23) ?_
   intro v24 w hs2
   have hs:St _ [_,_,_] _:=hs.call hs2
   refine g_d rfl ?_
   try dsimp only [Qae,Qaf]
   refine Qba (hs.row 0 rfl) rfl rfl rfl rfl rfl (g_d rfl ?_)
   refine Qaa (v:=int .i64 0) rfl rfl rfl (g_d rfl (Qac ?_))
   have Ho:=H
   refine QaC (J:=fun t w=>∃ x42:Int,∃ v43:Value,∃ x44:(List Int),∃ x46:Int,Qat.a2 N x21 x42 x44 x46 x6_∧Fr t (fun O=>(O 0::int .i64 x42::bool a4::O 3::O 4::O 5::O 6::O 7::O 8::v7::O 10::O 11::v43::int .i64 x46::O 14::O 15::O 16::O 17::O 18::O 19::oT O 2 (oT O 3 (O 40::O 41::O 42::O 43::v2::int .i64 (a1.length:Int)::int .i64 x21::O 47::O 48::O 49::oT O 5 (oT O 6 (oT O 7 (oT O 8 (oT O 9 ([]))))))):List Value))∧St w0 [Rows2 66 kHM (MapO (int .i64) QaJ) v7 mm8 r6,Row 49 (K.int .i8) v43 x44] w) ?_ ?_
   ·
    rintro t w ⟨x42,v43,x44,x46,H,hf,hs⟩
    obtain ⟨O,rfl⟩:=hf.open
    try dsimp only [oT]
    unfold Qat.a2 at H
    refine QaH (Qag [0,1] rfl ?_)
    refine Qaa (v:=int .i64 (i64w (x21+1))) rfl rfl rfl (g_d rfl ?_)
    refine Qaa (v:=int .i64 (i64w (x21+1))) rfl rfl rfl (g_d rfl (Qac ?_))
    have hs:=hs.pull 1 rfl
    have hs:=hs.pull 1 rfl
    have hs:St _ [_,_] _:=St.take (Γ':=[]) hs
    exact ih1_ _ _ ⟨x42,v43,x44,x46,i64w (x21+1),cast (congrFun hQ1_ _) H,rfl,hs⟩
   intro ha2_
   have hs:=hs.pull 0 rfl
   have hs:=hs.pull 2 rfl
   have hs:=hs.pull 2 rfl
   have hs:St _ [_,_,_] _:=St.take (Γ':=[]) hs
   refine QaP (I:=fun n_ t w=>∃ x26:Int,∃ v28:Value,∃ x29:(List Int),∃ x30:Int,∃ x31:Int,roundsD (fun s=>Qat.b2 N r23 x21 r6 a1 s.1 s.2.1 s.2.2.1 s.2.2.2) n_ (x26,x29,x30,x31) (Ex.finBD (fun s=>Qat.a2 N x21 s.1 s.2.1 s.2.2 x6_) x6_)∧Fr t (fun O=>(O 0::int .i64 x26::bool a4::O 3::O 4::O 5::O 6::O 7::O 8::v7::O 10::O 11::v28::int .i64 x30::int .i64 x21::int .i16 (rdL a1 x21 0)::O 16::O 17::O 18::O 19::oT O 2 (oT O 3 (O 40::O 41::O 42::O 43::v2::int .i64 (a1.length:Int)::int .i64 x21::O 47::O 48::O 49::O 50::O 51::v24::int .i64 (r23.length:Int)::int .i64 x31::O 55::O 56::O 57::O 58::O 59::oT O 6 (oT O 7 (oT O 8 (oT O 9 ([])))))):List Value))∧St w0 [Rows2 66 kHM (MapO (int .i64) QaJ) v7 mm8 r6,Row 49 (K.int .i8) v28 x29,Row 49 (K.int .i8) v24 r23] w) N ⟨x16,v18,x19,x20,0,Ho,rfl,hs⟩ ?_ ?_
   ·
    rintro _ _ ⟨x26,v28,x29,x30,x31,h,_⟩
    exact (h:False).elim
   intro n_ ih2_
   rintro t w ⟨x26,v28,x29,x30,x31,Ho,hf,hs⟩
   obtain ⟨O,rfl⟩:=hf.open
   try dsimp only [oT]
   obtain ⟨x5_,hQ2_,H⟩:=roundsD_succ Ho
   have H:Qat.b2 N r23 x21 r6 a1 x26 x29 x30 x31 x5_:=H
   unfold Qat.b2 at H
   refine Qad (Qag [0] rfl ?_)
   refine Qas (B:=decide (x31< (r23.length:Int))) rfl rfl rfl ?_ ?_
   ·
    intro hb
    rw [if_pos (b_dec_t hb)] at H
    refine g_d rfl (Qac (Qad (Qai rfl (Qay (Qad ?_)))))
    refine QaC (J:=(fun t w=>Qat.j4 N x26 x29 x30 x31 x5_∧Fr t (fun O=>(O 0::int .i64 x26::bool a4::O 3::O 4::O 5::O 6::O 7::O 8::v7::O 10::O 11::v28::int .i64 x30::int .i64 x21::int .i16 (rdL a1 x21 0)::O 16::O 17::O 18::O 19::oT O 2 (oT O 3 (O 40::O 41::O 42::O 43::v2::int .i64 (a1.length:Int)::int .i64 x21::O 47::O 48::O 49::O 50::O 51::v24::int .i64 (r23.length:Int)::int .i64 x31::O 55::O 56::O 57::O 58::O 59::oT O 6 (oT O 7 (oT O 8 (oT O 9 ([])))))):List Value))∧St w0 [Rows2 66 kHM (MapO (int .i64) QaJ) v7 mm8 r6,Row 49 (K.int .i8) v28 x29,Row 49 (K.int .i8) v24 r23] w)) ?_ ?_
    ·
     rintro t w ⟨H,hf,hs⟩
     obtain ⟨O,rfl⟩:=hf.open
     try dsimp only [oT]
     unfold Qat.j4 at H
     refine Qag [0,1] rfl ?_
     refine Qaa (v:=int .i64 (i64w (x31+1))) rfl rfl rfl (g_d rfl ?_)
     try dsimp only [Qae,Qaf]
     refine Qaa (v:=int .i64 (i64w (x31+1))) rfl rfl rfl (g_d rfl (Qac ?_))
     have hs:=hs.pull 2 rfl
     have hs:=hs.pull 2 rfl
     have hs:=hs.pull 2 rfl
     have hs:St _ [_,_,_] _:=St.take (Γ':=[]) hs
     exact ih2_ _ _ ⟨x26,v28,x29,x30,i64w (x31+1),cast (congrFun hQ2_ _) H,rfl,hs⟩
    intro ha
    refine Qad (Qag [0,1,2] rfl ?_)
    obtain ⟨g3,H⟩:=ite_getD H
    refine Qa6 (fkI .i8) 0 (hs.row 2 rfl) rfl (fun _=>rfl) g3.1 g3.2 rfl rfl rfl rfl rfl ?_
    intro p32 hp32 lp32 op32
    refine g_d rfl ?_
    try dsimp only [Qae,Qaf]
    refine QaA rfl rfl (v:=int .i8 (rdL r23 x31 0)) rfl rfl (fun _=>rfl) hp32 (g_d rfl ?_)
    refine Qaa (v:=int .i8 (rdL r23 x31 0)) rfl rfl rfl (g_d rfl ?_)
    try dsimp only [Qae,Qaf]
    refine Qac (Qad (Qag [0,1,2,3,4,5,6,7,8,9,10,11,12,13] rfl ?_))
    refine Qaa (v:=int .i64 x26) rfl rfl rfl (g_d rfl ?_)
    refine Qaa (v:=int .i8 (rdL r23 x31 0)) rfl rfl rfl (g_d rfl ?_)
    refine Qaa (v:=int .i64 (i64w (rdL r23 x31 0))) rfl rfl rfl (g_d rfl ?_)
    refine Qaa (v:=int .i16 (rdL a1 x21 0)) rfl rfl rfl (g_d rfl ?_)
    refine Qaa (v:=int .i64 (i64w (rdL a1 x21 0))) rfl rfl rfl (g_d rfl ?_)
    refine Qaa (v:=int .i64 (i64w ((i64w (rdL r23 x31 0))*(i64w (rdL a1 x21 0))))) rfl rfl rfl (g_d rfl ?_)
    refine Qaa (v:=int .i64 (i64w (x26 - (i64w ((i64w (rdL r23 x31 0))*(i64w (rdL a1 x21 0))))))) rfl rfl rfl (g_d rfl ?_)
    try dsimp only [Qae,Qaf]
    refine Qaa (v:=int .i8 (rdL r23 x31 0)) rfl rfl rfl (g_d rfl ?_)
    refine Qaa (v:=int .i64 (i64w (rdL r23 x31 0))) rfl rfl rfl (g_d rfl ?_)
    refine Qaa (v:=int .i8 (rdL r23 x31 0)) rfl rfl rfl (g_d rfl ?_)
    refine Qaa (v:=int .i64 (i64w (rdL r23 x31 0))) rfl rfl rfl (g_d rfl ?_)
    refine Qaa (v:=int .i64 (i64w ((i64w (rdL r23 x31 0))*(i64w (rdL r23 x31 0))))) rfl rfl rfl (g_d rfl ?_)
    refine Qaa (v:=int .i64 (i64w (x26 - (i64w ((i64w (rdL r23 x31 0))*(i64w (rdL a1 x21 0))))))) rfl rfl rfl (g_d rfl ?_)
    try dsimp only [Qae,Qaf]
    refine Qaa (v:=int .i64 (i64w ((i64w (rdL r23 x31 0))*(i64w (rdL r23 x31 0))))) rfl rfl rfl (g_d rfl (Qac (Qad (Qag [0,1,2,3,4,5,6,7,8,9,10,11,12] rfl ?_))))
    refine Qaa (v:=v7) rfl rfl rfl (g_d rfl ?_)
    refine Qaa (v:=int .i64 x21) rfl rfl rfl (g_d rfl ?_)
    refine Qaa (v:=int .i64 (i64w (x21+1))) rfl rfl rfl (g_d rfl ?_)
    try dsimp only [Qae,Qaf]
    obtain ⟨g4,H⟩:=ite_getD H
    refine Qa6 fkHM none (hs.r2row 0 rfl) rfl (fun _=>rfl) g4.1 (hs.r2lt 0 rfl g4.2) rfl rfl rfl rfl rfl ?_
    intro p33 hp33 lp33 op33
    refine g_d rfl ?_
    refine QaA rfl rfl (v:=Value.map (rdL mm8 (i64w (x21+1)) none)) rfl rfl (fun _=>rfl) hp33 (g_d rfl ?_)
    try dsimp only [Qae,Qaf]
    refine Qaa (v:=int .i64 (i64w (x26 - (i64w ((i64w (rdL r23 x31 0))*(i64w (rdL a1 x21 0))))))) rfl rfl rfl (g_d rfl ?_)
    refine Qaa (v:=tuple #[agg (Qap (mGet ((rdL r6 (i64w (x21+1)) none).getD []) (i64w (x26 - (i64w ((i64w (rdL r23 x31 0))*(i64w (rdL a1 x21 0)))))) Qan)).toArray,bool (mIdx ((rdL r6 (i64w (x21+1)) none).getD []) (i64w (x26 - (i64w ((i64w (rdL r23 x31 0))*(i64w (rdL a1 x21 0))))))).isSome]) rfl rfl (QbQ (keyInt Tryz.underlying2) (a:=i64w (x26 - (i64w ((i64w (rdL r23 x31 0))*(i64w (rdL a1 x21 0)))))) (z:=Qan) (hs.r2mp 0 rfl g4.1 g4.2) rfl Tryz.underlying66 rfl rfl (fun _=>rfl)) ?_
    refine g_d rfl ?_
    refine Qaa (v:=tuple #[agg (Qap (mGet ((rdL r6 (i64w (x21+1)) none).getD []) (i64w (x26 - (i64w ((i64w (rdL r23 x31 0))*(i64w (rdL a1 x21 0)))))) Qan)).toArray,bool (mIdx ((rdL r6 (i64w (x21+1)) none).getD []) (i64w (x26 - (i64w ((i64w (rdL r23 x31 0))*(i64w (rdL a1 x21 0))))))).isSome]) rfl rfl rfl (g_d rfl ?_)
    refine Qaa (v:=agg (Qap (mGet ((rdL r6 (i64w (x21+1)) none).getD []) (i64w (x26 - (i64w ((i64w (rdL r23 x31 0))*(i64w (rdL a1 x21 0)))))) Qan)).toArray) rfl rfl rfl (g_d rfl ?_)
    refine Qaa (v:=bool (mIdx ((rdL r6 (i64w (x21+1)) none).getD []) (i64w (x26 - (i64w ((i64w (rdL r23 x31 0))*(i64w (rdL a1 x21 0))))))).isSome) rfl rfl rfl (g_d rfl ?_)
    refine QbN hs rfl rfl (z:=(agg #[int .i64 0,int .i64 0])) (cs:=(Qap Qan)) rfl (fun _=>rfl) rfl ?_
    intro b34 w hs
    refine g_d rfl ?_
    try dsimp only [Qae,Qaf]
    refine QbK (n:=2) hs (Qa2.len _) rfl rfl (vs:=(Qap (mGet ((rdL r6 (i64w (x21+1)) none).getD []) (i64w (x26 - (i64w ((i64w (rdL r23 x31 0))*(i64w (rdL a1 x21 0)))))) Qan))) rfl rfl rfl (fun _=>rfl) (Qa2.len _) (Qa2.one _) ?_
    intro w hs
    refine g_n rfl ?_
    refine Qaa (v:=bool (mIdx ((rdL r6 (i64w (x21+1)) none).getD []) (i64w (x26 - (i64w ((i64w (rdL r23 x31 0))*(i64w (rdL a1 x21 0))))))).isSome) rfl rfl rfl (g_d rfl (Qac (Qad (Qag [0,1,2,3,4,5,6,7,8] rfl ?_))))
    refine Qas (B:=(mIdx ((rdL r6 (i64w (x21+1)) none).getD []) (i64w (x26 - (i64w ((i64w (rdL r23 x31 0))*(i64w (rdL a1 x21 0))))))).isSome) rfl rfl rfl ?_ ?_
    ·
     intro hb
     rw [if_pos (b_var_t hb)] at H
     refine g_d rfl ?_
     refine Qaa (v:=bool true) rfl rfl rfl (g_d rfl ?_)
     refine Qaa (v:=pointer (some ⟨b34,1,none⟩)) rfl rfl rfl (g_d rfl ?_)
     refine QaA rfl rfl (v:=int .i64 ((mGet ((rdL r6 (i64w (x21+1)) none).getD []) (i64w (x26 - (i64w ((i64w (rdL r23 x31 0))*(i64w (rdL a1 x21 0)))))) Qan).QaW)) rfl rfl (fun _=>rfl) (cells_load (hs.cells 0 rfl) 1 1 rfl) (g_d rfl ?_)
     try dsimp only [Qae,Qaf]
     refine Qaa (v:=int .i64 (i64w ((i64w (rdL r23 x31 0))*(i64w (rdL r23 x31 0))))) rfl rfl rfl (g_d rfl ?_)
     refine Qaa (v:=int .i64 (i64w (((mGet ((rdL r6 (i64w (x21+1)) none).getD []) (i64w (x26 - (i64w ((i64w (rdL r23 x31 0))*(i64w (rdL a1 x21 0)))))) Qan).QaW)+(i64w ((i64w (rdL r23 x31 0))*(i64w (rdL r23 x31 0))))))) rfl rfl rfl (g_d rfl ?_)
     refine Qaa (v:=int .i64 x30) rfl rfl rfl (g_d rfl ?_)
     refine Qas (B:=(i64w (((mGet ((rdL r6 (i64w (x21+1)) none).getD []) (i64w (x26 - (i64w ((i64w (rdL r23 x31 0))*(i64w (rdL a1 x21 0)))))) Qan).QaW)+(i64w ((i64w (rdL r23 x31 0))*(i64w (rdL r23 x31 0))))))==x30) rfl rfl rfl ?_ ?_
     ·
      intro hb
      rw [if_pos (b_beq_t hb)] at H
      refine g_d rfl ?_
      try dsimp only [Qae,Qaf]
      refine Qaa (v:=bool true) rfl rfl rfl (g_d rfl (Qac (Qai rfl (Qad (Qag [0,1,2,3,4,5,6,7,8,9,10] rfl ?_)))))
      refine Qaa (v:=v28) rfl rfl rfl (g_d rfl ?_)
      refine Qaa (v:=int .i8 (rdL r23 x31 0)) rfl rfl rfl (g_d rfl ?_)
      try dsimp only [Qae,Qaf]
      refine QbL (fkI .i8) (y:=rdL r23 x31 0) hs rfl rfl rfl rfl (fun _=>rfl) (zv:=(int .i8 0)) (fun _=>rfl) rfl (by decide) (by decide) rfl ?_
      intro v36 w hs
      refine g_d rfl ?_
      have hs:St _ [_,_,_,_,_] _:=hs.pull 3 rfl
      obtain ⟨g,H⟩:=ite_getD H
      refine QbI (fkI .i8) (zv:=(int .i8 0)) (B:=1) hs (hs.row 1 rfl) rfl rfl rfl rfl rfl rfl rfl rfl rfl (by decide) rfl rfl (by decide) (by omega) ?_
      intro v38 w hs
      refine g_d rfl ?_
      try dsimp only [Qae,Qaf]
      refine Qaa (v:=int .i64 (i64w (x26 - (i64w ((i64w (rdL r23 x31 0))*(i64w (rdL a1 x21 0))))))) rfl rfl rfl (g_d rfl ?_)
      refine Qaa (v:=int .i64 x30) rfl rfl rfl (g_d rfl ?_)
      refine Qaa (v:=int .i64 (i64w ((i64w (rdL r23 x31 0))*(i64w (rdL r23 x31 0))))) rfl rfl rfl (g_d rfl ?_)
      refine Qaa (v:=int .i64 (i64w (x30 - (i64w ((i64w (rdL r23 x31 0))*(i64w (rdL r23 x31 0))))))) rfl rfl rfl (g_d rfl ?_)
      refine Qaa (v:=v38) rfl rfl rfl (g_d rfl ?_)
      try dsimp only [Qae,Qaf]
      refine Qaa (v:=int .i64 (i64w (x26 - (i64w ((i64w (rdL r23 x31 0))*(i64w (rdL a1 x21 0))))))) rfl rfl rfl (g_d rfl ?_)
      refine Qaa (v:=int .i64 (i64w (x30 - (i64w ((i64w (rdL r23 x31 0))*(i64w (rdL r23 x31 0))))))) rfl rfl rfl (g_d rfl ?_)
      try dsimp only [Qae,Qaf]
      refine Qac ?_
      have hs:=hs.pull 0 rfl
      have hs:=hs.pull 3 rfl
      have hs:St _ [_,_] _:=St.take (Γ':=[_,_,_]) hs
      refine Qbc rfl ?_
      exact ha2_ _ _ ⟨i64w (x26 - (i64w ((i64w (rdL r23 x31 0))*(i64w (rdL a1 x21 0))))),v38,x29++([rdL r23 x31 0]),i64w (x30 - (i64w ((i64w (rdL r23 x31 0))*(i64w (rdL r23 x31 0))))),cast (congrFun hQ2_ _) H,rfl,hs⟩
     intro hb
     rw [if_neg (b_beq_f hb)] at H
     refine g_d rfl ?_
     try dsimp only [Qae,Qaf]
     refine Qaa (v:=bool false) rfl rfl rfl (g_d rfl (Qac (Qal rfl (Qay ?_))))
     refine QaH ?_
     have hs:=hs.pull 3 rfl
     have hs:=hs.pull 3 rfl
     have hs:=hs.pull 3 rfl
     have hs:St _ [_,_,_] _:=St.take (Γ':=[_]) hs
     exact ha _ _ ⟨H,rfl,hs⟩
    intro hb
    rw [if_neg (b_var_f hb)] at H
    refine g_d rfl ?_
    refine Qaa (v:=bool false) rfl rfl rfl (g_d rfl (Qab rfl rfl (g_d rfl (Qab rfl rfl (g_d rfl ?_)))))
    try dsimp only [Qae,Qaf]
    refine Qab rfl rfl (g_d rfl (Qab rfl rfl (g_d rfl (Qab rfl rfl (g_d rfl (Qab rfl rfl (g_d rfl ?_)))))))
    try dsimp only [Qae,Qaf]
    refine Qaa (v:=bool false) rfl rfl rfl (g_d rfl (Qac (Qal rfl (Qay ?_))))
    refine QaH ?_
    have hs:=hs.pull 3 rfl
    have hs:=hs.pull 3 rfl
    have hs:=hs.pull 3 rfl
    have hs:St _ [_,_,_] _:=St.take (Γ':=[_]) hs
    exact ha _ _ ⟨H,rfl,hs⟩
   intro hb
   rw [if_neg (b_dec_f hb)] at H
   refine g_d rfl ?_
   try dsimp only [Qae,Qaf]
   refine Qac (Qad (Qal rfl ?_))
   have hs:=hs.pull 1 rfl
   have hs:=hs.pull 1 rfl
   have hs:St _ [_,_] _:=St.take (Γ':=[_]) hs
   refine Qbc rfl ?_
   exact ha2_ _ _ ⟨x26,v28,x29,x30,cast (congrFun hQ2_ _) H,rfl,hs⟩
  intro hb
  rw [if_neg (b_dec_f hb)] at H
  refine g_d rfl ?_
  try dsimp only [Qae,Qaf]
  refine Qac (Qad (Qal rfl ?_))
  have hs:=hs.pull 1 rfl
  have hs:St _ [_] _:=St.take (Γ':=[_]) hs
  refine Qbc rfl ?_
  exact ha1_ _ _ ⟨v18,x19,cast (congrFun hQ1_ _) H,rfl,hs⟩
 intro hb
 rw [if_neg (b_var_f hb)] at H
 refine g_d rfl ?_
 refine Qaa (v:=bool true) rfl rfl rfl (g_d rfl (Qac (Qai rfl (Qad (Qag [0,1] rfl ?_)))))
 refine Qaa (v:=slice none 0 0) rfl rfl rfl (g_d rfl ?_)
 try dsimp only [Qae,Qaf]
 refine Qaa (v:=int .i64 6) rfl rfl rfl (g_d rfl (Qac ?_))
 refine Qaq Tryz.func8 (v:=tuple #[slice none 0 0,int .i64 6]) (resN (l:=Tryz.f8.results.toList) (vs:=[slice none 0 0,int .i64 6]) rfl ⟨rfl,rfl,trivial⟩ (by simp)) ?_
 have hs:=hs.nil 49 (K.int .i8)
 have hs:=hs.pull 0 rfl
 have hs:St _ [_] _:=St.take (Γ':=[_,_]) hs
 exact ⟨_,rfl,_,H,(slice none 0 0),rfl,hs⟩
def Qbg.post (w0:World) (r:Bool) (v:Value) (w:World):Prop:=v=bool r∧St w0 [] w
theorem Qbg.calls {N:Nat} {a1:Int} {a2:Int} {a3:Int} {w0:World} {r:Bool} (H:Qbg.f N a1 a2 a3=some r):
 Calls Tryz.prog 38 #[int .i64 a1,int .i64 a2,int .i64 a3] w0 fun e w=>∃ v,e= .returned v∧Qbg.post w0 r v w:=by
 unfold Qbg.f at H
 have hs:St w0 [] w0:=St.refl w0
 refine calls_of_g (n:=12) Tryz.func38 rfl rfl ?_
 show G _ _ _ _ [_,_,_,_,_,_,_,_,_,_,_,_,_,_,_] _
 refine Qad (Qag [0] rfl ?_)
 refine Qaa (v:=bool false) rfl rfl rfl (Qac (Qad (Qag [0,1,2,3,4,5,6,7,8] rfl ?_)))
 refine Qaa (v:=int .i64 a1) rfl rfl rfl ?_
 show G _ _ _ _ [_,_,_,_,_,_,_,_,_,_,_,_,_,_,_] _
 refine Qaa (v:=int .i64 a2) rfl rfl rfl ?_
 refine Qas (B:=decide (a1≥a2)) rfl rfl rfl ?_ ?_
 ·
  intro hb
  rw [if_pos (b_dec_t hb)] at H
  show G _ _ _ _ [_,_,_,_,_,_,_,_,_,_,_,_,_,_,_] _
  refine Qaa (v:=bool true) rfl rfl rfl ?_
  refine Qaa (v:=int .i64 a1) rfl rfl rfl ?_
  refine Qaa (v:=int .i64 a3) rfl rfl rfl ?_
  show G _ _ _ _ [_,_,_,_,_,_,_,_,_,_,_,_,_,_,_] _
  refine Qaa (v:=bool (decide (a1≤a3))) rfl rfl rfl ?_
  refine Qaa (v:=bool (decide (a1≤a3))) rfl rfl rfl ?_
  refine Qaa (v:=bool (decide (a1≤a3))) rfl rfl rfl ?_
  show G _ _ _ _ [_,_,_,_,_,_,_,_,_,_,_,_,_,_,_] _
  refine Qac ?_
  obtain rfl:=QsJ H
  refine Qaq Tryz.func38 (v:=bool (decide (a1≤a3))) (res1 rfl rfl) ?_
  have hs:St _ [] _:=St.take (Γ':=[]) hs
  exact ⟨_,rfl,rfl,hs⟩
 intro hb
 rw [if_neg (b_dec_f hb)] at H
 refine Qaa (v:=bool false) rfl rfl rfl ?_
 show G _ _ _ _ [_,_,_,_,_,_,_,_,_,_,_,_,_,_,_] _
 refine Qab rfl rfl (Qab rfl rfl (Qab rfl rfl ?_))
 show G _ _ _ _ [_,_,_,_,_,_,_,_,_,_,_,_,_,_,_] _
 refine Qaa (v:=bool false) rfl rfl rfl ?_
 refine Qaa (v:=bool false) rfl rfl rfl (Qac ?_)
 obtain rfl:=QsJ H
 refine Qaq Tryz.func38 (v:=bool false) (res1 rfl rfl) ?_
 have hs:St _ [] _:=St.take (Γ':=[]) hs
 exact ⟨_,rfl,rfl,hs⟩
def QaS.post (w0:World) (r:Int) (v:Value) (w:World):Prop:=v=int .i64 r∧St w0 [] w
theorem QaS.calls {N:Nat} {a1:(List Int)} {v2:Value} {w0:World} {r:Int} (hr0:RdRow (K.int .i16) w0 v2 a1) (H:QaS.f N a1=some r):
 Calls Tryz.prog 58 #[v2] w0 fun e w=>∃ v,e= .returned v∧QaS.post w0 r v w:=by
 unfold QaS.f at H
 have hs:St w0 [] w0:=St.refl w0
 refine calls_of_g (n:=18) Tryz.func58 rfl rfl ?_
 show G _ _ _ _ [_,_,_,_,_,_,_,_,_,_,_,_,_,_,_,_,_,_,_] _
 refine Qad (Qag [0] rfl ?_)
 refine Qaa (v:=int .i64 0) rfl rfl rfl (Qac (Qad (Qag [0] rfl ?_)))
 refine Qaa (v:=int .i64 0) rfl rfl rfl ?_
 show G _ _ _ _ [_,_,_,_,_,_,_,_,_,_,_,_,_,_,_,_,_,_,_] _
 refine Qac (Qad (Qad (Qag [0] rfl ?_)))
 refine Qaa (v:=int .i64 0) rfl rfl rfl (Qac ?_)
 obtain ⟨o1_,Ho,Hr1_⟩:=bind_get H
 refine QaC (J:=fun t w=>∃ x6:Int,QaS.a0 N x6=some r∧Fr t (fun O=>([O 0,O 1,O 2,int .i64 x6,O 4,O 5,O 6,O 7,O 8,O 9,O 10,O 11,O 12,O 13,O 14,O 15,O 16,O 17,O 18]:List Value))∧St w0 [] w) ?_ ?_
 ·
  rintro t w ⟨x6,H,hf,hs⟩
  obtain ⟨O,rfl⟩:=hf.open
  show G _ _ _ _ [_,_,_,_,_,_,_,_,_,_,_,_,_,_,_,_,_,_,_] _
  unfold QaS.a0 at H
  refine Qad (Qag [0,1] rfl ?_)
  refine Qaa (v:=int .i64 x6) rfl rfl rfl ?_
  show G _ _ _ _ [_,_,_,_,_,_,_,_,_,_,_,_,_,_,_,_,_,_,_] _
  refine Qaa (v:=int .i64 x6) rfl rfl rfl (Qac ?_)
  obtain rfl:=QsJ H
  refine Qaq Tryz.func58 (v:=int .i64 x6) (res1 rfl rfl) ?_
  have hs:St _ [] _:=St.take (Γ':=[]) hs
  exact ⟨_,rfl,rfl,hs⟩
 intro ha1_
 have hs:St _ [] _:=St.take (Γ':=[]) hs
 refine QaP (I:=fun n_ t w=>∃ x3:Int,∃ x4:Int,rounds (fun s=>QaS.b0 N a1 s.1 s.2) n_ (x3,x4)=some o1_∧Fr t (fun O=>([v2,O 1,O 2,int .i64 x3,int .i64 x4,O 5,O 6,O 7,O 8,O 9,O 10,O 11,O 12,O 13,O 14,O 15,O 16,O 17,O 18]:List Value))∧St w0 [] w) N ⟨0,0,Ho,rfl,hs⟩ ?_ ?_
 ·
  rintro _ _ ⟨x3,x4,h,_⟩
  exact rounds_zero h
 intro n_ ih1_
 rintro t w ⟨x3,x4,Ho,hf,hs⟩
 obtain ⟨O,rfl⟩:=hf.open
 show G _ _ _ _ [_,_,_,_,_,_,_,_,_,_,_,_,_,_,_,_,_,_,_] _
 obtain ⟨x2_,H,Hx1_⟩:=rounds_succ Ho
 have H:QaS.b0 N a1 x3 x4=some x2_:=H
 unfold QaS.b0 at H
 refine Qad (Qad (Qag [0,1,2,3] rfl ?_))
 refine Qaa (v:=int .i64 x4) rfl rfl rfl ?_
 refine Qaa (v:=v2) rfl rfl rfl ?_
 show G _ _ _ _ [_,_,_,_,_,_,_,_,_,_,_,_,_,_,_,_,_,_,_] _
 refine Qba (hs.rd hr0) rfl rfl rfl rfl rfl ?_
 refine Qas (B:=decide (x4< (a1.length:Int))) rfl rfl rfl ?_ ?_
 ·
  intro hb
  rw [if_pos (b_dec_t hb)] at H
  show G _ _ _ _ [_,_,_,_,_,_,_,_,_,_,_,_,_,_,_,_,_,_,_] _
  refine Qac (Qai rfl (Qay (Qad ?_)))
  refine Qbe (Qag [0,1,2,3,4,5,6,7] rfl ?_)
  refine Qaa (v:=int .i64 x3) rfl rfl rfl ?_
  refine Qaa (v:=v2) rfl rfl rfl ?_
  refine Qaa (v:=int .i64 x4) rfl rfl rfl ?_
  show G _ _ _ _ [_,_,_,_,_,_,_,_,_,_,_,_,_,_,_,_,_,_,_] _
  obtain ⟨g1,H⟩:=ite_get H
  refine Qa6 (fkI .i16) 0 (hs.rd hr0) rfl (fun _=>rfl) g1.1 g1.2 rfl rfl rfl rfl rfl ?_
  intro p5 hp5 lp5 op5
  refine QaA rfl rfl (v:=int .i16 (rdL a1 x4 0)) rfl rfl (fun _=>rfl) hp5 ?_
  refine Qaa (v:=int .i64 (i64w (rdL a1 x4 0))) rfl rfl rfl ?_
  show G _ _ _ _ [_,_,_,_,_,_,_,_,_,_,_,_,_,_,_,_,_,_,_] _
  refine Qaa (v:=int .i64 (i64w (x3+(i64w (rdL a1 x4 0))))) rfl rfl rfl ?_
  refine Qaa (v:=int .i64 (i64w (x3+(i64w (rdL a1 x4 0))))) rfl rfl rfl (Qac ?_)
  refine QaH (Qag [0,1,2] rfl ?_)
  refine Qaa (v:=int .i64 x4) rfl rfl rfl ?_
  show G _ _ _ _ [_,_,_,_,_,_,_,_,_,_,_,_,_,_,_,_,_,_,_] _
  refine Qaa (v:=int .i64 (i64w (x4+1))) rfl rfl rfl ?_
  refine Qaa (v:=int .i64 (i64w (x4+1))) rfl rfl rfl (Qac ?_)
  obtain rfl:=QsJ H
  have hs:St _ [] _:=St.take (Γ':=[]) hs
  exact ih1_ _ _ ⟨i64w (x3+(i64w (rdL a1 x4 0))),i64w (x4+1),Hx1_,rfl,hs⟩
 intro hb
 rw [if_neg (b_dec_f hb)] at H
 refine Qac (Qal rfl ?_)
 obtain rfl:=QsJ H
 subst Hx1_
 have hs:St _ [] _:=St.take (Γ':=[]) hs
 refine Qbc rfl ?_
 exact ha1_ _ _ ⟨x3,Hr1_,rfl,hs⟩
def QaU.post (w0:World) (r:Bool) (v:Value) (w:World):Prop:=v=bool r∧St w0 [] w
theorem QaU.calls {N:Nat} {a1:(List Int)} {v2:Value} {w0:World} {r:Bool} (hr0:RdRow (K.int .i16) w0 v2 a1) (H:QaU.f N a1=some r):
 Calls Tryz.prog 56 #[v2] w0 fun e w=>∃ v,e= .returned v∧QaU.post w0 r v w:=by
 unfold QaU.f at H
 have hs:St w0 [] w0:=St.refl w0
 refine calls_of_g (n:=37) Tryz.func56 rfl rfl ?_
 show G _ _ _ _ [_,_,_,_,_,_,_,_,_,_,_,_,_,_,_,_,_,_,_,_,_,_,_,_,_,_,_,_,_,_,_,_,_,_,_,_,_,_] _
 refine Qad (Qag [0] rfl ?_)
 refine Qaa (v:=bool false) rfl rfl rfl ?_
 show G _ _ _ _ [_,_,_,_,_,_,_,_,_,_,_,_,_,_,_,_,_,_,_,_,_,_,_,_,_,_,_,_,_,_,_,_,_,_,_,_,_,_] _
 refine Qac (Qad (Qad (Qag [0,1,2,3] rfl ?_)))
 refine Qaa (v:=v2) rfl rfl rfl ?_
 refine Qba (hs.rd hr0) rfl rfl rfl rfl rfl ?_
 obtain ⟨r3,Hr3,H⟩:=bind_get H
 refine Qaw (args:=[int .i64 (a1.length:Int),int .i64 1,int .i64 16]) rfl rfl (Qax rfl (callFunc_enter Tryz.func38 rfl rfl) rfl) (Qbg.calls (a1:=(a1.length:Int)) (a2:=1) (a3:=16) Hr3) ?_
 rintro _ w ⟨rfl,hs2⟩
 have hs:St _ [] _:=hs.call hs2
 cases r3 with
 |true=>
  rw [if_pos rfl] at H
  show G _ _ _ _ [_,_,_,_,_,_,_,_,_,_,_,_,_,_,_,_,_,_,_,_,_,_,_,_,_,_,_,_,_,_,_,_,_,_,_,_,_,_] _
  refine Qaa (v:=bool false) rfl rfl rfl (Qac (Qal rfl (Qay (Qad (Qad (Qag [0] rfl ?_))))))
  refine Qaa (v:=int .i64 0) rfl rfl rfl (Qac ?_)
  obtain ⟨o1_,Ho,Hr1_⟩:=bind_get H
  refine QaC (J:=fun t w=>QaU.a0 N a1=some r∧Fr t (fun O=>([v2,O 1,O 2,O 3,O 4,O 5,O 6,O 7,O 8,O 9,O 10,O 11,O 12,O 13,O 14,O 15,O 16,O 17,O 18,O 19,O 20,O 21,O 22,O 23,O 24,O 25,O 26,O 27,O 28,O 29,O 30,O 31,O 32,O 33,O 34,O 35,O 36,O 37]:List Value))∧St w0 [] w) ?_ ?_
  ·
   rintro t w ⟨H,hf,hs⟩
   obtain ⟨O,rfl⟩:=hf.open
   show G _ _ _ _ [_,_,_,_,_,_,_,_,_,_,_,_,_,_,_,_,_,_,_,_,_,_,_,_,_,_,_,_,_,_,_,_,_,_,_,_,_,_] _
   unfold QaU.a0 at H
   refine Qad (Qag [0,1,2,3] rfl ?_)
   refine Qaa (v:=v2) rfl rfl rfl ?_
   obtain ⟨r7,Hr7,H⟩:=bind_get H
   refine Qaw (args:=[v2]) rfl rfl (Qax rfl (callFunc_enter Tryz.func58 rfl rfl) rfl) (QaS.calls (a1:=a1) (hs.rd hr0) Hr7) ?_
   rintro _ w ⟨rfl,hs2⟩
   have hs:St _ [] _:=hs.call hs2
   refine Qaa (v:=bool (decide (r7≤2000))) rfl rfl rfl ?_
   refine Qaa (v:=bool (decide (r7≤2000))) rfl rfl rfl ?_
   show G _ _ _ _ [_,_,_,_,_,_,_,_,_,_,_,_,_,_,_,_,_,_,_,_,_,_,_,_,_,_,_,_,_,_,_,_,_,_,_,_,_,_] _
   refine Qac ?_
   obtain rfl:=QsJ H
   refine Qaq Tryz.func56 (v:=bool (decide (r7≤2000))) (res1 rfl rfl) ?_
   have hs:St _ [] _:=St.take (Γ':=[]) hs
   exact ⟨_,rfl,rfl,hs⟩
  intro ha1_
  have hs:St _ [] _:=St.take (Γ':=[]) hs
  refine QaP (I:=fun n_ t w=>∃ x4:Int,rounds (fun s=>QaU.b0 N a1 s) n_ x4=some o1_∧Fr t (fun O=>([v2,O 1,O 2,int .i64 x4,O 4,O 5,O 6,O 7,O 8,O 9,O 10,O 11,O 12,O 13,O 14,O 15,O 16,O 17,O 18,O 19,O 20,O 21,O 22,O 23,O 24,O 25,O 26,O 27,O 28,O 29,O 30,O 31,O 32,O 33,O 34,O 35,O 36,O 37]:List Value))∧St w0 [] w) N ⟨0,Ho,rfl,hs⟩ ?_ ?_
  ·
   rintro _ _ ⟨x4,h,_⟩
   exact rounds_zero h
  intro n_ ih1_
  rintro t w ⟨x4,Ho,hf,hs⟩
  obtain ⟨O,rfl⟩:=hf.open
  show G _ _ _ _ [_,_,_,_,_,_,_,_,_,_,_,_,_,_,_,_,_,_,_,_,_,_,_,_,_,_,_,_,_,_,_,_,_,_,_,_,_,_] _
  obtain ⟨x32_,H,Hx1_⟩:=rounds_succ Ho
  have H:QaU.b0 N a1 x4=some x32_:=H
  unfold QaU.b0 at H
  refine Qad (Qad (Qag [0,1,2,3] rfl ?_))
  refine Qaa (v:=int .i64 x4) rfl rfl rfl ?_
  refine Qaa (v:=v2) rfl rfl rfl ?_
  refine Qba (hs.rd hr0) rfl rfl rfl rfl rfl ?_
  show G _ _ _ _ [_,_,_,_,_,_,_,_,_,_,_,_,_,_,_,_,_,_,_,_,_,_,_,_,_,_,_,_,_,_,_,_,_,_,_,_,_,_] _
  refine Qas (B:=decide (x4< (a1.length:Int))) rfl rfl rfl ?_ ?_
  ·
   intro hb
   rw [if_pos (b_dec_t hb)] at H
   refine Qac (Qai rfl (Qay (Qad ?_)))
   refine QaC (J:=(fun t w=>∃ x6:Bool,QaU.j2 N x4 x6=some x32_∧Fr t (fun O=>([v2,O 1,O 2,int .i64 x4,O 4,O 5,O 6,O 7,O 8,O 9,O 10,O 11,O 12,O 13,O 14,O 15,O 16,O 17,O 18,O 19,int .i64 x4,bool x6,bool x6,O 23,O 24,O 25,O 26,O 27,O 28,O 29,O 30,O 31,O 32,bool false,O 34,O 35,O 36,O 37]:List Value))∧St w0 [] w)) ?_ ?_
   ·
    rintro t w ⟨x6,H,hf,hs⟩
    obtain ⟨O,rfl⟩:=hf.open
    show G _ _ _ _ [_,_,_,_,_,_,_,_,_,_,_,_,_,_,_,_,_,_,_,_,_,_,_,_,_,_,_,_,_,_,_,_,_,_,_,_,_,_] _
    unfold QaU.j2 at H
    refine Qag [0,1,2] rfl ?_
    refine Qaa (v:=int .i64 x4) rfl rfl rfl ?_
    refine Qaa (v:=int .i64 (i64w (x4+1))) rfl rfl rfl ?_
    refine Qaa (v:=int .i64 (i64w (x4+1))) rfl rfl rfl (Qac ?_)
    obtain rfl:=QsJ H
    have hs:St _ [] _:=St.take (Γ':=[]) hs
    exact ih1_ _ _ ⟨i64w (x4+1),Hx1_,rfl,hs⟩
   intro ha
   refine Qad ?_
   refine QbP (n:=21) rfl [0,1,2,3,4,5,6,7,8,9,10,11,12,13,14,15,16,17,18,19,20] [0,1,2,3,4,5,6,7,8,9,10,11,12,13,14,15,16,17,18,19,20] rfl rfl ?_
   intro rest w hh hbw hO
   have hs:=hs.samew hh hbw
   show G _ _ _ _ [_,_,_,_,_,_,_,_,_,_,_,_,_,_,_,_,_,_,_,_,_,_,_,_,_,_,_,_,_,_,_,_,_,_,_,_,_,_] _
   refine Qbz ?_
   intro T hT
   refine QbA (m0:=0) hO rfl 3 [0,1] [0,0,3,7,15,31,63,127,255,511,511,2047,4095,511,511,16895,57855,123391,262143,524287,1048575] (by decide+kernel) (fun D t w=>∃ O:Nat→Value,t=[v2,O 1,O 2,int .i64 x4,O 4,O 5,O 6,O 7,int .i64 x4,v2,int .i64 (a1.length:Int),bool true,O 12,O 13,cnd (D 0) v2 (O 14),cnd (D 1) (int .i64 x4) (O 15),O 16,O 17,O 18,O 19,O 20,O 21,O 22,O 23,O 24,O 25,O 26,O 27,O 28,O 29,O 30,O 31,O 32,O 33,O 34,O 35,O 36,O 37]∧St w0 [] w) ?_ ⟨?_,⟨?_,trivial⟩⟩ ?_
   ·exact ⟨fun i=>T.getD i undef,(by subst hT;rfl),hs⟩
   ·
    rintro D t w hD hp hcl ⟨O,ht,hs⟩ rest hk
    have hp:AllDone D []:=hp
    simp only [hD,cq,oT] at ht hs
    subst ht
    refine Qaa (v:=v2) rfl rfl rfl ?_
    show G _ _ _ _ [_,_,_,_,_,_,_,_,_,_,_,_,_,_,_,_,_,_,_,_,_,_,_,_,_,_,_,_,_,_,_,_,_,_,_,_,_,_] _
    refine hk _ _ ⟨O,?_,hs.cast ?_⟩<;>simp only [oT,lq,cq,Nat.reduceBEq]
   ·
    rintro D t w hD hp hcl ⟨O,ht,hs⟩ rest hk
    have hp:AllDone D []:=hp
    simp only [hD,cq,oT] at ht hs
    subst ht
    refine Qaa (v:=int .i64 x4) rfl rfl rfl ?_
    show G _ _ _ _ [_,_,_,_,_,_,_,_,_,_,_,_,_,_,_,_,_,_,_,_,_,_,_,_,_,_,_,_,_,_,_,_,_,_,_,_,_,_] _
    refine hk _ _ ⟨O,?_,hs.cast ?_⟩<;>simp only [oT,lq,cq,Nat.reduceBEq]
   intro D t w rest hall hO1_ hI
   obtain ⟨O,ht,hs⟩:=hI
   have p0_:=hall 0 (by decide) rfl
   have p1_:=hall 1 (by decide) rfl
   simp only [p0_,p1_,cq,oT] at ht hs
   subst ht
   obtain ⟨rest,rfl,hO2_⟩:=ord_one (m:=3) hO1_ rfl 2 (m':=7) (by decide+kernel) rfl
   clear hO1_
   obtain ⟨g3,H⟩:=ite_get H
   refine Qa6 (fkI .i16) 0 (hs.rd hr0) rfl (fun _=>rfl) g3.1 g3.2 rfl rfl rfl rfl rfl ?_
   intro p5 hp5 lp5 op5
   show G _ _ _ _ [_,_,_,_,_,_,_,_,_,_,_,_,_,_,_,_,_,_,_,_,_,_,_,_,_,_,_,_,_,_,_,_,_,_,_,_,_,_] _
   obtain ⟨rest,rfl,hO4_⟩:=ord_one (m:=7) hO2_ rfl 3 (m':=15) (by decide+kernel) rfl
   clear hO2_
   refine QaA rfl rfl (v:=int .i16 (rdL a1 x4 0)) rfl rfl (fun _=>rfl) hp5 ?_
   obtain ⟨rest,rfl,hO5_⟩:=ord_one (m:=15) hO4_ rfl 4 (m':=31) (by decide+kernel) rfl
   clear hO4_
   refine Qas (B:=decide ((rdL a1 x4 0)< 1)) rfl rfl rfl ?_ ?_
   ·
    intro hb
    rw [if_pos (b_dec_t hb)] at H
    obtain ⟨rest,rfl,hO6_⟩:=ord_one (m:=31) hO5_ rfl 5 (m':=63) (by decide+kernel) rfl
    clear hO5_
    refine Qaa (v:=bool true) rfl rfl rfl ?_
    obtain ⟨rest,rfl,hO7_⟩:=ord_one (m:=63) hO6_ rfl 6 (m':=127) (by decide+kernel) rfl
    clear hO6_
    refine Qab rfl rfl ?_
    obtain ⟨rest,rfl,hO8_⟩:=ord_one (m:=127) hO7_ rfl 7 (m':=255) (by decide+kernel) rfl
    clear hO7_
    refine Qab rfl rfl ?_
    show G _ _ _ _ [_,_,_,_,_,_,_,_,_,_,_,_,_,_,_,_,_,_,_,_,_,_,_,_,_,_,_,_,_,_,_,_,_,_,_,_,_,_] _
    obtain ⟨rest,rfl,hO9_⟩:=ord_one (m:=255) hO8_ rfl 8 (m':=511) (by decide+kernel) rfl
    clear hO8_
    refine Qab rfl rfl ?_
    refine Qbz ?_
    intro T hT
    refine QbA (m0:=511) hO9_ rfl 262143 [9,10,11,12,13,14,15,16,17] [0,0,3,7,15,31,63,127,255,511,511,2047,4095,511,511,16895,57855,123391,262143,524287,1048575] (by decide+kernel) (fun D t w=>∃ O:Nat→Value,t=[v2,O 1,O 2,int .i64 x4,O 4,O 5,O 6,O 7,int .i64 x4,v2,int .i64 (a1.length:Int),bool true,O 12,O 13,v2,int .i64 x4,pointer (some p5),int .i16 (rdL a1 x4 0),bool true,bool true,O 20,O 21,undef,cnd (D 9) undef (O 23),cnd (D 10) undef (O 24),cnd (D 11) undef (O 25),cnd (D 12) undef (O 26),cnd (D 13) undef (O 27),cnd (D 14) undef (O 28),cnd (D 15) undef (O 29),cnd (D 16) undef (O 30),cnd (D 17) undef (O 31),O 32,O 33,O 34,O 35,O 36,O 37]∧St w0 [] w) ?_ ⟨?_,⟨?_,⟨?_,⟨?_,⟨?_,⟨?_,⟨?_,⟨?_,⟨?_,trivial⟩⟩⟩⟩⟩⟩⟩⟩⟩ ?_
    ·exact ⟨fun i=>T.getD i undef,(by subst hT;rfl),hs⟩
    ·
     rintro D t w hD hp hcl ⟨O,ht,hs⟩ rest hk
     have hp:AllDone D [8]:=hp
     obtain ⟨p8_,_⟩:=hp
     have q11_:=ny hcl 11 0 hD
     have q12_:=ny hcl 12 0 q11_
     simp only [hD,q11_,q12_,cq,oT] at ht hs
     subst ht
     refine Qab rfl rfl ?_
     show G _ _ _ _ [_,_,_,_,_,_,_,_,_,_,_,_,_,_,_,_,_,_,_,_,_,_,_,_,_,_,_,_,_,_,_,_,_,_,_,_,_,_] _
     refine hk _ _ ⟨O,?_,hs.cast ?_⟩<;>simp only [oT,cq,Nat.reduceBEq,q11_,q12_]
    ·
     rintro D t w hD hp hcl ⟨O,ht,hs⟩ rest hk
     have hp:AllDone D [8]:=hp
     obtain ⟨p8_,_⟩:=hp
     have q11_:=ny hcl 11 1 hD
     have q12_:=ny hcl 12 0 q11_
     simp only [hD,q11_,q12_,cq,oT] at ht hs
     subst ht
     refine Qab rfl rfl ?_
     show G _ _ _ _ [_,_,_,_,_,_,_,_,_,_,_,_,_,_,_,_,_,_,_,_,_,_,_,_,_,_,_,_,_,_,_,_,_,_,_,_,_,_] _
     refine hk _ _ ⟨O,?_,hs.cast ?_⟩<;>simp only [oT,cq,Nat.reduceBEq,q11_,q12_]
    ·
     rintro D t w hD hp hcl ⟨O,ht,hs⟩ rest hk
     have hp:AllDone D [9,10,8]:=hp
     obtain ⟨p9_,p10_,p8_,_⟩:=hp
     have q12_:=ny hcl 12 0 hD
     simp only [hD,p9_,p10_,q12_,cq,oT] at ht hs
     subst ht
     refine Qab rfl rfl ?_
     show G _ _ _ _ [_,_,_,_,_,_,_,_,_,_,_,_,_,_,_,_,_,_,_,_,_,_,_,_,_,_,_,_,_,_,_,_,_,_,_,_,_,_] _
     refine hk _ _ ⟨O,?_,hs.cast ?_⟩<;>simp only [oT,cq,Nat.reduceBEq,p9_,p10_,q12_]
    ·
     rintro D t w hD hp hcl ⟨O,ht,hs⟩ rest hk
     have hp:AllDone D [11,8]:=hp
     obtain ⟨p11_,p8_,_⟩:=hp
     obtain ⟨p9_,p10_,_,_⟩:=(show D 11=true→AllDone D [9,10,8] from hcl 11 (by decide)) p11_
     simp only [hD,p9_,p10_,p11_,cq,oT] at ht hs
     subst ht
     refine Qab rfl rfl ?_
     show G _ _ _ _ [_,_,_,_,_,_,_,_,_,_,_,_,_,_,_,_,_,_,_,_,_,_,_,_,_,_,_,_,_,_,_,_,_,_,_,_,_,_] _
     refine hk _ _ ⟨O,?_,hs.cast ?_⟩<;>simp only [oT,cq,Nat.reduceBEq,p9_,p10_,p11_]
    ·
     rintro D t w hD hp hcl ⟨O,ht,hs⟩ rest hk
     have hp:AllDone D [8]:=hp
     obtain ⟨p8_,_⟩:=hp
     have q16_:=ny hcl 16 0 hD
     have q17_:=ny hcl 17 0 q16_
     simp only [hD,q16_,q17_,cq,oT] at ht hs
     subst ht
     refine Qab rfl rfl ?_
     show G _ _ _ _ [_,_,_,_,_,_,_,_,_,_,_,_,_,_,_,_,_,_,_,_,_,_,_,_,_,_,_,_,_,_,_,_,_,_,_,_,_,_] _
     refine hk _ _ ⟨O,?_,hs.cast ?_⟩<;>simp only [oT,cq,Nat.reduceBEq,q16_,q17_]
    ·
     rintro D t w hD hp hcl ⟨O,ht,hs⟩ rest hk
     have hp:AllDone D [8]:=hp
     obtain ⟨p8_,_⟩:=hp
     have q15_:=ny hcl 15 0 hD
     have q16_:=ny hcl 16 1 q15_
     have q17_:=ny hcl 17 0 q16_
     simp only [hD,q15_,q16_,q17_,cq,oT] at ht hs
     subst ht
     refine Qab rfl rfl ?_
     show G _ _ _ _ [_,_,_,_,_,_,_,_,_,_,_,_,_,_,_,_,_,_,_,_,_,_,_,_,_,_,_,_,_,_,_,_,_,_,_,_,_,_] _
     refine hk _ _ ⟨O,?_,hs.cast ?_⟩<;>simp only [oT,cq,Nat.reduceBEq,q15_,q16_,q17_]
    ·
     rintro D t w hD hp hcl ⟨O,ht,hs⟩ rest hk
     have hp:AllDone D [14,8]:=hp
     obtain ⟨p14_,p8_,_⟩:=hp
     have q16_:=ny hcl 16 1 hD
     have q17_:=ny hcl 17 0 q16_
     simp only [hD,p14_,q16_,q17_,cq,oT] at ht hs
     subst ht
     refine Qab rfl rfl ?_
     show G _ _ _ _ [_,_,_,_,_,_,_,_,_,_,_,_,_,_,_,_,_,_,_,_,_,_,_,_,_,_,_,_,_,_,_,_,_,_,_,_,_,_] _
     refine hk _ _ ⟨O,?_,hs.cast ?_⟩<;>simp only [oT,cq,Nat.reduceBEq,p14_,q16_,q17_]
    ·
     rintro D t w hD hp hcl ⟨O,ht,hs⟩ rest hk
     have hp:AllDone D [13,15,8]:=hp
     obtain ⟨p13_,p15_,p8_,_⟩:=hp
     obtain ⟨p14_,_,_⟩:=(show D 15=true→AllDone D [14,8] from hcl 15 (by decide)) p15_
     have q17_:=ny hcl 17 0 hD
     simp only [hD,p13_,p14_,p15_,q17_,cq,oT] at ht hs
     subst ht
     refine Qab rfl rfl ?_
     show G _ _ _ _ [_,_,_,_,_,_,_,_,_,_,_,_,_,_,_,_,_,_,_,_,_,_,_,_,_,_,_,_,_,_,_,_,_,_,_,_,_,_] _
     refine hk _ _ ⟨O,?_,hs.cast ?_⟩<;>simp only [oT,cq,Nat.reduceBEq,p13_,p14_,p15_,q17_]
    ·
     rintro D t w hD hp hcl ⟨O,ht,hs⟩ rest hk
     have hp:AllDone D [16,8]:=hp
     obtain ⟨p16_,p8_,_⟩:=hp
     obtain ⟨p13_,p15_,_,_⟩:=(show D 16=true→AllDone D [13,15,8] from hcl 16 (by decide)) p16_
     obtain ⟨p14_,_,_⟩:=(show D 15=true→AllDone D [14,8] from hcl 15 (by decide)) p15_
     simp only [hD,p13_,p14_,p15_,p16_,cq,oT] at ht hs
     subst ht
     refine Qab rfl rfl ?_
     show G _ _ _ _ [_,_,_,_,_,_,_,_,_,_,_,_,_,_,_,_,_,_,_,_,_,_,_,_,_,_,_,_,_,_,_,_,_,_,_,_,_,_] _
     refine hk _ _ ⟨O,?_,hs.cast ?_⟩<;>simp only [oT,cq,Nat.reduceBEq,p13_,p14_,p15_,p16_]
    intro D t w rest hall hO10_ hI
    obtain ⟨O,ht,hs⟩:=hI
    have p9_:=hall 9 (by decide) rfl
    have p10_:=hall 10 (by decide) rfl
    have p11_:=hall 11 (by decide) rfl
    have p12_:=hall 12 (by decide) rfl
    have p13_:=hall 13 (by decide) rfl
    have p14_:=hall 14 (by decide) rfl
    have p15_:=hall 15 (by decide) rfl
    have p16_:=hall 16 (by decide) rfl
    have p17_:=hall 17 (by decide) rfl
    simp only [p9_,p10_,p11_,p12_,p13_,p14_,p15_,p16_,p17_,cq,oT] at ht hs
    subst ht
    obtain ⟨rest,rfl,hO11_⟩:=ord_one (m:=262143) hO10_ rfl 18 (m':=524287) (by decide+kernel) rfl
    clear hO10_
    refine Qab rfl rfl ?_
    obtain ⟨rest,rfl,hO12_⟩:=ord_one (m:=524287) hO11_ rfl 19 (m':=1048575) (by decide+kernel) rfl
    clear hO11_
    refine Qab rfl rfl ?_
    obtain ⟨rest,rfl,hO13_⟩:=ord_one (m:=1048575) hO12_ rfl 20 (m':=2097151) (by decide+kernel) rfl
    clear hO12_
    refine Qaa (v:=bool true) rfl rfl rfl ?_
    show G _ _ _ _ [_,_,_,_,_,_,_,_,_,_,_,_,_,_,_,_,_,_,_,_,_,_,_,_,_,_,_,_,_,_,_,_,_,_,_,_,_,_] _
    obtain rfl:=ord_end hO13_ rfl (by decide+kernel)
    refine Qac (Qai rfl (Qad (Qag [0] rfl ?_)))
    refine Qaa (v:=bool false) rfl rfl rfl (Qac ?_)
    obtain rfl:=QsJ H
    subst Hx1_
    have H:=QsJ Hr1_
    subst H
    refine Qaq Tryz.func56 (v:=bool false) (res1 rfl rfl) ?_
    have hs:St _ [] _:=St.take (Γ':=[]) hs
    exact ⟨_,rfl,rfl,hs⟩
   intro hb
   rw [if_neg (b_dec_f hb)] at H
   obtain ⟨rest,rfl,hO14_⟩:=ord_one (m:=31) hO5_ rfl 5 (m':=63) (by decide+kernel) rfl
   clear hO5_
   refine Qaa (v:=bool false) rfl rfl rfl ?_
   obtain ⟨rest,rfl,hO15_⟩:=ord_one (m:=63) hO14_ rfl 6 (m':=127) (by decide+kernel) rfl
   clear hO14_
   refine Qaa (v:=int .i64 x4) rfl rfl rfl ?_
   obtain ⟨rest,rfl,hO16_⟩:=ord_one (m:=127) hO15_ rfl 7 (m':=255) (by decide+kernel) rfl
   clear hO15_
   refine Qas (B:=decide (x4>0)) rfl rfl rfl ?_ ?_
   ·
    intro hb
    rw [if_pos (b_dec_t hb)] at H
    obtain ⟨rest,rfl,hO17_⟩:=ord_one (m:=255) hO16_ rfl 8 (m':=511) (by decide+kernel) rfl
    clear hO16_
    refine Qaa (v:=bool true) rfl rfl rfl ?_
    obtain ⟨gd19,H⟩:=ite_get H
    obtain ⟨ad20_,ad20_N,ad20_C,had20_⟩:=sl_at (hs.rd hr0) gd19.1 gd19.2
    obtain ⟨gd21,H⟩:=ite_get H
    obtain ⟨ad22_,ad22_N,ad22_C,had22_⟩:=sl_at (hs.rd hr0) gd21.1 gd21.2
    refine Qbz ?_
    intro T hT
    refine QbA (m0:=511) hO17_ rfl 262143 [9,10,11,12,13,14,15,16,17] [0,0,3,7,15,31,63,127,255,511,511,2047,4095,511,511,16895,57855,123391,262143,524287,1048575] (by decide+kernel) (fun D t w=>∃ O:Nat→Value,t=[v2,O 1,O 2,int .i64 x4,O 4,O 5,O 6,O 7,int .i64 x4,v2,int .i64 (a1.length:Int),bool true,O 12,O 13,v2,int .i64 x4,pointer (some p5),int .i16 (rdL a1 x4 0),bool false,bool false,int .i64 x4,bool true,bool true,cnd (D 9) v2 (O 23),cnd (D 10) (int .i64 x4) (O 24),cnd (D 11) (pointer (some (ad20_.add (x4.toNat*1)))) (O 25),cnd (D 12) (int .i16 (rdL a1 x4 0)) (O 26),cnd (D 13) v2 (O 27),cnd (D 14) (int .i64 x4) (O 28),cnd (D 15) (int .i64 (i64w (x4 - 1))) (O 29),cnd (D 16) (pointer (some (ad22_.add ((i64w (x4 - 1)).toNat*1)))) (O 30),cnd (D 17) (int .i16 (rdL a1 (i64w (x4 - 1)) 0)) (O 31),O 32,O 33,O 34,O 35,O 36,O 37]∧St w0 [] w) ?_ ⟨?_,⟨?_,⟨?_,⟨?_,⟨?_,⟨?_,⟨?_,⟨?_,⟨?_,trivial⟩⟩⟩⟩⟩⟩⟩⟩⟩ ?_
    ·exact ⟨fun i=>T.getD i undef,(by subst hT;rfl),hs⟩
    ·
     rintro D t w hD hp hcl ⟨O,ht,hs⟩ rest hk
     have hp:AllDone D [8]:=hp
     obtain ⟨p8_,_⟩:=hp
     have q11_:=ny hcl 11 0 hD
     have q12_:=ny hcl 12 0 q11_
     simp only [hD,q11_,q12_,cq,oT] at ht hs
     subst ht
     refine Qaa (v:=v2) rfl rfl rfl ?_
     show G _ _ _ _ [_,_,_,_,_,_,_,_,_,_,_,_,_,_,_,_,_,_,_,_,_,_,_,_,_,_,_,_,_,_,_,_,_,_,_,_,_,_] _
     refine hk _ _ ⟨O,?_,hs.cast ?_⟩<;>simp only [oT,lq,cq,Nat.reduceBEq,q11_,q12_]
    ·
     rintro D t w hD hp hcl ⟨O,ht,hs⟩ rest hk
     have hp:AllDone D [8]:=hp
     obtain ⟨p8_,_⟩:=hp
     have q11_:=ny hcl 11 1 hD
     have q12_:=ny hcl 12 0 q11_
     simp only [hD,q11_,q12_,cq,oT] at ht hs
     subst ht
     refine Qaa (v:=int .i64 x4) rfl rfl rfl ?_
     show G _ _ _ _ [_,_,_,_,_,_,_,_,_,_,_,_,_,_,_,_,_,_,_,_,_,_,_,_,_,_,_,_,_,_,_,_,_,_,_,_,_,_] _
     refine hk _ _ ⟨O,?_,hs.cast ?_⟩<;>simp only [oT,lq,cq,Nat.reduceBEq,q11_,q12_]
    ·
     rintro D t w hD hp hcl ⟨O,ht,hs⟩ rest hk
     have hp:AllDone D [9,10,8]:=hp
     obtain ⟨p9_,p10_,p8_,_⟩:=hp
     have q12_:=ny hcl 12 0 hD
     simp only [hD,p9_,p10_,q12_,cq,oT] at ht hs
     subst ht
     refine QbG (κ:=(K.int .i16)) (m:=1) rfl (hs.rd hr0) rfl (fun _=>rfl) gd19.1 gd19.2 had20_ rfl rfl rfl rfl rfl ?_
     show G _ _ _ _ [_,_,_,_,_,_,_,_,_,_,_,_,_,_,_,_,_,_,_,_,_,_,_,_,_,_,_,_,_,_,_,_,_,_,_,_,_,_] _
     refine hk _ _ ⟨O,?_,hs.cast ?_⟩<;>simp only [oT,lq,cq,Nat.reduceBEq,p9_,p10_,q12_]
    ·
     rintro D t w hD hp hcl ⟨O,ht,hs⟩ rest hk
     have hp:AllDone D [11,8]:=hp
     obtain ⟨p11_,p8_,_⟩:=hp
     obtain ⟨p9_,p10_,_,_⟩:=(show D 11=true→AllDone D [9,10,8] from hcl 11 (by decide)) p11_
     simp only [hD,p9_,p10_,p11_,cq,oT] at ht hs
     subst ht
     refine QaA rfl rfl (v:=int .i16 (rdL a1 x4 0)) rfl rfl (fun _=>rfl) (cellsAt_of (fkI .i16) 0 (hs.rd hr0) had20_ gd19.1 gd19.2) ?_
     show G _ _ _ _ [_,_,_,_,_,_,_,_,_,_,_,_,_,_,_,_,_,_,_,_,_,_,_,_,_,_,_,_,_,_,_,_,_,_,_,_,_,_] _
     refine hk _ _ ⟨O,?_,hs.cast ?_⟩<;>simp only [oT,lq,cq,Nat.reduceBEq,p9_,p10_,p11_]
    ·
     rintro D t w hD hp hcl ⟨O,ht,hs⟩ rest hk
     have hp:AllDone D [8]:=hp
     obtain ⟨p8_,_⟩:=hp
     have q16_:=ny hcl 16 0 hD
     have q17_:=ny hcl 17 0 q16_
     simp only [hD,q16_,q17_,cq,oT] at ht hs
     subst ht
     refine Qaa (v:=v2) rfl rfl rfl ?_
     show G _ _ _ _ [_,_,_,_,_,_,_,_,_,_,_,_,_,_,_,_,_,_,_,_,_,_,_,_,_,_,_,_,_,_,_,_,_,_,_,_,_,_] _
     refine hk _ _ ⟨O,?_,hs.cast ?_⟩<;>simp only [oT,lq,cq,Nat.reduceBEq,q16_,q17_]
    ·
     rintro D t w hD hp hcl ⟨O,ht,hs⟩ rest hk
     have hp:AllDone D [8]:=hp
     obtain ⟨p8_,_⟩:=hp
     have q15_:=ny hcl 15 0 hD
     have q16_:=ny hcl 16 1 q15_
     have q17_:=ny hcl 17 0 q16_
     simp only [hD,q15_,q16_,q17_,cq,oT] at ht hs
     subst ht
     refine Qaa (v:=int .i64 x4) rfl rfl rfl ?_
     show G _ _ _ _ [_,_,_,_,_,_,_,_,_,_,_,_,_,_,_,_,_,_,_,_,_,_,_,_,_,_,_,_,_,_,_,_,_,_,_,_,_,_] _
     refine hk _ _ ⟨O,?_,hs.cast ?_⟩<;>simp only [oT,lq,cq,Nat.reduceBEq,q15_,q16_,q17_]
    ·
     rintro D t w hD hp hcl ⟨O,ht,hs⟩ rest hk
     have hp:AllDone D [14,8]:=hp
     obtain ⟨p14_,p8_,_⟩:=hp
     have q16_:=ny hcl 16 1 hD
     have q17_:=ny hcl 17 0 q16_
     simp only [hD,p14_,q16_,q17_,cq,oT] at ht hs
     subst ht
     refine Qaa (v:=int .i64 (i64w (x4 - 1))) rfl rfl rfl ?_
     show G _ _ _ _ [_,_,_,_,_,_,_,_,_,_,_,_,_,_,_,_,_,_,_,_,_,_,_,_,_,_,_,_,_,_,_,_,_,_,_,_,_,_] _
     refine hk _ _ ⟨O,?_,hs.cast ?_⟩<;>simp only [oT,lq,cq,Nat.reduceBEq,p14_,q16_,q17_]
    ·
     rintro D t w hD hp hcl ⟨O,ht,hs⟩ rest hk
     have hp:AllDone D [13,15,8]:=hp
     obtain ⟨p13_,p15_,p8_,_⟩:=hp
     obtain ⟨p14_,_,_⟩:=(show D 15=true→AllDone D [14,8] from hcl 15 (by decide)) p15_
     have q17_:=ny hcl 17 0 hD
     simp only [hD,p13_,p14_,p15_,q17_,cq,oT] at ht hs
     subst ht
     refine QbG (κ:=(K.int .i16)) (m:=1) rfl (hs.rd hr0) rfl (fun _=>rfl) gd21.1 gd21.2 had22_ rfl rfl rfl rfl rfl ?_
     show G _ _ _ _ [_,_,_,_,_,_,_,_,_,_,_,_,_,_,_,_,_,_,_,_,_,_,_,_,_,_,_,_,_,_,_,_,_,_,_,_,_,_] _
     refine hk _ _ ⟨O,?_,hs.cast ?_⟩<;>simp only [oT,lq,cq,Nat.reduceBEq,p13_,p14_,p15_,q17_]
    ·
     rintro D t w hD hp hcl ⟨O,ht,hs⟩ rest hk
     have hp:AllDone D [16,8]:=hp
     obtain ⟨p16_,p8_,_⟩:=hp
     obtain ⟨p13_,p15_,_,_⟩:=(show D 16=true→AllDone D [13,15,8] from hcl 16 (by decide)) p16_
     obtain ⟨p14_,_,_⟩:=(show D 15=true→AllDone D [14,8] from hcl 15 (by decide)) p15_
     simp only [hD,p13_,p14_,p15_,p16_,cq,oT] at ht hs
     subst ht
     refine QaA rfl rfl (v:=int .i16 (rdL a1 (i64w (x4 - 1)) 0)) rfl rfl (fun _=>rfl) (cellsAt_of (fkI .i16) 0 (hs.rd hr0) had22_ gd21.1 gd21.2) ?_
     show G _ _ _ _ [_,_,_,_,_,_,_,_,_,_,_,_,_,_,_,_,_,_,_,_,_,_,_,_,_,_,_,_,_,_,_,_,_,_,_,_,_,_] _
     refine hk _ _ ⟨O,?_,hs.cast ?_⟩<;>simp only [oT,lq,cq,Nat.reduceBEq,p13_,p14_,p15_,p16_]
    intro D t w rest hall hO18_ hI
    obtain ⟨O,ht,hs⟩:=hI
    have p9_:=hall 9 (by decide) rfl
    have p10_:=hall 10 (by decide) rfl
    have p11_:=hall 11 (by decide) rfl
    have p12_:=hall 12 (by decide) rfl
    have p13_:=hall 13 (by decide) rfl
    have p14_:=hall 14 (by decide) rfl
    have p15_:=hall 15 (by decide) rfl
    have p16_:=hall 16 (by decide) rfl
    have p17_:=hall 17 (by decide) rfl
    simp only [p9_,p10_,p11_,p12_,p13_,p14_,p15_,p16_,p17_,cq,oT] at ht hs
    subst ht
    obtain ⟨rest,rfl,hO23_⟩:=ord_one (m:=262143) hO18_ rfl 18 (m':=524287) (by decide+kernel) rfl
    clear hO18_
    refine Qaa (v:=bool (decide ((rdL a1 x4 0)< (rdL a1 (i64w (x4 - 1)) 0)))) rfl rfl rfl ?_
    obtain ⟨rest,rfl,hO24_⟩:=ord_one (m:=524287) hO23_ rfl 19 (m':=1048575) (by decide+kernel) rfl
    clear hO23_
    refine Qas (B:=decide ((rdL a1 x4 0)< (rdL a1 (i64w (x4 - 1)) 0))) rfl rfl rfl ?_ ?_
    ·
     intro hb
     rw [if_pos (b_dec_t hb)] at H
     obtain ⟨rest,rfl,hO25_⟩:=ord_one (m:=1048575) hO24_ rfl 20 (m':=2097151) (by decide+kernel) rfl
     clear hO24_
     refine Qaa (v:=bool true) rfl rfl rfl ?_
     show G _ _ _ _ [_,_,_,_,_,_,_,_,_,_,_,_,_,_,_,_,_,_,_,_,_,_,_,_,_,_,_,_,_,_,_,_,_,_,_,_,_,_] _
     obtain rfl:=ord_end hO25_ rfl (by decide+kernel)
     refine Qac (Qai rfl (Qad (Qag [0] rfl ?_)))
     refine Qaa (v:=bool false) rfl rfl rfl (Qac ?_)
     obtain rfl:=QsJ H
     subst Hx1_
     have H:=QsJ Hr1_
     subst H
     refine Qaq Tryz.func56 (v:=bool false) (res1 rfl rfl) ?_
     have hs:St _ [] _:=St.take (Γ':=[]) hs
     exact ⟨_,rfl,rfl,hs⟩
    intro hb
    rw [if_neg (b_dec_f hb)] at H
    show G _ _ _ _ [_,_,_,_,_,_,_,_,_,_,_,_,_,_,_,_,_,_,_,_,_,_,_,_,_,_,_,_,_,_,_,_,_,_,_,_,_,_] _
    obtain ⟨rest,rfl,hO26_⟩:=ord_one (m:=1048575) hO24_ rfl 20 (m':=2097151) (by decide+kernel) rfl
    clear hO24_
    refine Qaa (v:=bool false) rfl rfl rfl ?_
    obtain rfl:=ord_end hO26_ rfl (by decide+kernel)
    refine Qac (Qal rfl (Qay ?_))
    refine QaH ?_
    have hs:St _ [] _:=St.take (Γ':=[]) hs
    exact ha _ _ ⟨true,H,rfl,hs⟩
   intro hb
   rw [if_neg (b_dec_f hb)] at H
   show G _ _ _ _ [_,_,_,_,_,_,_,_,_,_,_,_,_,_,_,_,_,_,_,_,_,_,_,_,_,_,_,_,_,_,_,_,_,_,_,_,_,_] _
   obtain ⟨rest,rfl,hO27_⟩:=ord_one (m:=255) hO16_ rfl 8 (m':=511) (by decide+kernel) rfl
   clear hO16_
   refine Qaa (v:=bool false) rfl rfl rfl ?_
   refine Qbz ?_
   intro T hT
   refine QbA (m0:=511) hO27_ rfl 262143 [9,10,11,12,13,14,15,16,17] [0,0,3,7,15,31,63,127,255,511,511,2047,4095,511,511,16895,57855,123391,262143,524287,1048575] (by decide+kernel) (fun D t w=>∃ O:Nat→Value,t=[v2,O 1,O 2,int .i64 x4,O 4,O 5,O 6,O 7,int .i64 x4,v2,int .i64 (a1.length:Int),bool true,O 12,O 13,v2,int .i64 x4,pointer (some p5),int .i16 (rdL a1 x4 0),bool false,bool false,int .i64 x4,bool false,bool false,cnd (D 9) undef (O 23),cnd (D 10) undef (O 24),cnd (D 11) undef (O 25),cnd (D 12) undef (O 26),cnd (D 13) undef (O 27),cnd (D 14) undef (O 28),cnd (D 15) undef (O 29),cnd (D 16) undef (O 30),cnd (D 17) undef (O 31),O 32,O 33,O 34,O 35,O 36,O 37]∧St w0 [] w) ?_ ⟨?_,⟨?_,⟨?_,⟨?_,⟨?_,⟨?_,⟨?_,⟨?_,⟨?_,trivial⟩⟩⟩⟩⟩⟩⟩⟩⟩ ?_
   ·exact ⟨fun i=>T.getD i undef,(by subst hT;rfl),hs⟩
   ·
    rintro D t w hD hp hcl ⟨O,ht,hs⟩ rest hk
    have hp:AllDone D [8]:=hp
    obtain ⟨p8_,_⟩:=hp
    have q11_:=ny hcl 11 0 hD
    have q12_:=ny hcl 12 0 q11_
    simp only [hD,q11_,q12_,cq,oT] at ht hs
    subst ht
    refine Qab rfl rfl ?_
    show G _ _ _ _ [_,_,_,_,_,_,_,_,_,_,_,_,_,_,_,_,_,_,_,_,_,_,_,_,_,_,_,_,_,_,_,_,_,_,_,_,_,_] _
    refine hk _ _ ⟨O,?_,hs.cast ?_⟩<;>simp only [oT,cq,Nat.reduceBEq,q11_,q12_]
   ·
    rintro D t w hD hp hcl ⟨O,ht,hs⟩ rest hk
    have hp:AllDone D [8]:=hp
    obtain ⟨p8_,_⟩:=hp
    have q11_:=ny hcl 11 1 hD
    have q12_:=ny hcl 12 0 q11_
    simp only [hD,q11_,q12_,cq,oT] at ht hs
    subst ht
    refine Qab rfl rfl ?_
    show G _ _ _ _ [_,_,_,_,_,_,_,_,_,_,_,_,_,_,_,_,_,_,_,_,_,_,_,_,_,_,_,_,_,_,_,_,_,_,_,_,_,_] _
    refine hk _ _ ⟨O,?_,hs.cast ?_⟩<;>simp only [oT,cq,Nat.reduceBEq,q11_,q12_]
   ·
    rintro D t w hD hp hcl ⟨O,ht,hs⟩ rest hk
    have hp:AllDone D [9,10,8]:=hp
    obtain ⟨p9_,p10_,p8_,_⟩:=hp
    have q12_:=ny hcl 12 0 hD
    simp only [hD,p9_,p10_,q12_,cq,oT] at ht hs
    subst ht
    refine Qab rfl rfl ?_
    show G _ _ _ _ [_,_,_,_,_,_,_,_,_,_,_,_,_,_,_,_,_,_,_,_,_,_,_,_,_,_,_,_,_,_,_,_,_,_,_,_,_,_] _
    refine hk _ _ ⟨O,?_,hs.cast ?_⟩<;>simp only [oT,cq,Nat.reduceBEq,p9_,p10_,q12_]
   ·
    rintro D t w hD hp hcl ⟨O,ht,hs⟩ rest hk
    have hp:AllDone D [11,8]:=hp
    obtain ⟨p11_,p8_,_⟩:=hp
    obtain ⟨p9_,p10_,_,_⟩:=(show D 11=true→AllDone D [9,10,8] from hcl 11 (by decide)) p11_
    simp only [hD,p9_,p10_,p11_,cq,oT] at ht hs
    subst ht
    refine Qab rfl rfl ?_
    show G _ _ _ _ [_,_,_,_,_,_,_,_,_,_,_,_,_,_,_,_,_,_,_,_,_,_,_,_,_,_,_,_,_,_,_,_,_,_,_,_,_,_] _
    refine hk _ _ ⟨O,?_,hs.cast ?_⟩<;>simp only [oT,cq,Nat.reduceBEq,p9_,p10_,p11_]
   ·
    rintro D t w hD hp hcl ⟨O,ht,hs⟩ rest hk
    have hp:AllDone D [8]:=hp
    obtain ⟨p8_,_⟩:=hp
    have q16_:=ny hcl 16 0 hD
    have q17_:=ny hcl 17 0 q16_
    simp only [hD,q16_,q17_,cq,oT] at ht hs
    subst ht
    refine Qab rfl rfl ?_
    show G _ _ _ _ [_,_,_,_,_,_,_,_,_,_,_,_,_,_,_,_,_,_,_,_,_,_,_,_,_,_,_,_,_,_,_,_,_,_,_,_,_,_] _
    refine hk _ _ ⟨O,?_,hs.cast ?_⟩<;>simp only [oT,cq,Nat.reduceBEq,q16_,q17_]
   ·
    rintro D t w hD hp hcl ⟨O,ht,hs⟩ rest hk
    have hp:AllDone D [8]:=hp
    obtain ⟨p8_,_⟩:=hp
    have q15_:=ny hcl 15 0 hD
    have q16_:=ny hcl 16 1 q15_
    have q17_:=ny hcl 17 0 q16_
    simp only [hD,q15_,q16_,q17_,cq,oT] at ht hs
    subst ht
    refine Qab rfl rfl ?_
    show G _ _ _ _ [_,_,_,_,_,_,_,_,_,_,_,_,_,_,_,_,_,_,_,_,_,_,_,_,_,_,_,_,_,_,_,_,_,_,_,_,_,_] _
    refine hk _ _ ⟨O,?_,hs.cast ?_⟩<;>simp only [oT,cq,Nat.reduceBEq,q15_,q16_,q17_]
   ·
    rintro D t w hD hp hcl ⟨O,ht,hs⟩ rest hk
    have hp:AllDone D [14,8]:=hp
    obtain ⟨p14_,p8_,_⟩:=hp
    have q16_:=ny hcl 16 1 hD
    have q17_:=ny hcl 17 0 q16_
    simp only [hD,p14_,q16_,q17_,cq,oT] at ht hs
    subst ht
    refine Qab rfl rfl ?_
    show G _ _ _ _ [_,_,_,_,_,_,_,_,_,_,_,_,_,_,_,_,_,_,_,_,_,_,_,_,_,_,_,_,_,_,_,_,_,_,_,_,_,_] _
    refine hk _ _ ⟨O,?_,hs.cast ?_⟩<;>simp only [oT,cq,Nat.reduceBEq,p14_,q16_,q17_]
   ·
    rintro D t w hD hp hcl ⟨O,ht,hs⟩ rest hk
    have hp:AllDone D [13,15,8]:=hp
    obtain ⟨p13_,p15_,p8_,_⟩:=hp
    obtain ⟨p14_,_,_⟩:=(show D 15=true→AllDone D [14,8] from hcl 15 (by decide)) p15_
    have q17_:=ny hcl 17 0 hD
    simp only [hD,p13_,p14_,p15_,q17_,cq,oT] at ht hs
    subst ht
    refine Qab rfl rfl ?_
    show G _ _ _ _ [_,_,_,_,_,_,_,_,_,_,_,_,_,_,_,_,_,_,_,_,_,_,_,_,_,_,_,_,_,_,_,_,_,_,_,_,_,_] _
    refine hk _ _ ⟨O,?_,hs.cast ?_⟩<;>simp only [oT,cq,Nat.reduceBEq,p13_,p14_,p15_,q17_]
   ·
    rintro D t w hD hp hcl ⟨O,ht,hs⟩ rest hk
    have hp:AllDone D [16,8]:=hp
    obtain ⟨p16_,p8_,_⟩:=hp
    obtain ⟨p13_,p15_,_,_⟩:=(show D 16=true→AllDone D [13,15,8] from hcl 16 (by decide)) p16_
    obtain ⟨p14_,_,_⟩:=(show D 15=true→AllDone D [14,8] from hcl 15 (by decide)) p15_
    simp only [hD,p13_,p14_,p15_,p16_,cq,oT] at ht hs
    subst ht
    refine Qab rfl rfl ?_
    show G _ _ _ _ [_,_,_,_,_,_,_,_,_,_,_,_,_,_,_,_,_,_,_,_,_,_,_,_,_,_,_,_,_,_,_,_,_,_,_,_,_,_] _
    refine hk _ _ ⟨O,?_,hs.cast ?_⟩<;>simp only [oT,cq,Nat.reduceBEq,p13_,p14_,p15_,p16_]
   intro D t w rest hall hO28_ hI
   obtain ⟨O,ht,hs⟩:=hI
   have p9_:=hall 9 (by decide) rfl
   have p10_:=hall 10 (by decide) rfl
   have p11_:=hall 11 (by decide) rfl
   have p12_:=hall 12 (by decide) rfl
   have p13_:=hall 13 (by decide) rfl
   have p14_:=hall 14 (by decide) rfl
   have p15_:=hall 15 (by decide) rfl
   have p16_:=hall 16 (by decide) rfl
   have p17_:=hall 17 (by decide) rfl
   simp only [p9_,p10_,p11_,p12_,p13_,p14_,p15_,p16_,p17_,cq,oT] at ht hs
   subst ht
   obtain ⟨rest,rfl,hO29_⟩:=ord_one (m:=262143) hO28_ rfl 18 (m':=524287) (by decide+kernel) rfl
   clear hO28_
   refine Qab rfl rfl ?_
   obtain ⟨rest,rfl,hO30_⟩:=ord_one (m:=524287) hO29_ rfl 19 (m':=1048575) (by decide+kernel) rfl
   clear hO29_
   refine Qaa (v:=bool false) rfl rfl rfl ?_
   obtain ⟨rest,rfl,hO31_⟩:=ord_one (m:=1048575) hO30_ rfl 20 (m':=2097151) (by decide+kernel) rfl
   clear hO30_
   refine Qaa (v:=bool false) rfl rfl rfl ?_
   show G _ _ _ _ [_,_,_,_,_,_,_,_,_,_,_,_,_,_,_,_,_,_,_,_,_,_,_,_,_,_,_,_,_,_,_,_,_,_,_,_,_,_] _
   obtain rfl:=ord_end hO31_ rfl (by decide+kernel)
   refine Qac (Qal rfl (Qay ?_))
   refine QaH ?_
   have hs:St _ [] _:=St.take (Γ':=[]) hs
   exact ha _ _ ⟨false,H,rfl,hs⟩
  intro hb
  rw [if_neg (b_dec_f hb)] at H
  refine Qac (Qal rfl ?_)
  obtain rfl:=QsJ H
  subst Hx1_
  have hs:St _ [] _:=St.take (Γ':=[]) hs
  refine Qbc rfl ?_
  exact ha1_ _ _ ⟨Hr1_,rfl,hs⟩
 |false=>
  rw [if_neg Bool.false_ne_true] at H
  refine Qaa (v:=bool true) rfl rfl rfl ?_
  show G _ _ _ _ [_,_,_,_,_,_,_,_,_,_,_,_,_,_,_,_,_,_,_,_,_,_,_,_,_,_,_,_,_,_,_,_,_,_,_,_,_,_] _
  refine Qac (Qai rfl (Qad (Qag [0] rfl ?_)))
  refine Qaa (v:=bool false) rfl rfl rfl (Qac ?_)
  obtain rfl:=QsJ H
  refine Qaq Tryz.func56 (v:=bool false) (res1 rfl rfl) ?_
  have hs:St _ [] _:=St.take (Γ':=[]) hs
  exact ⟨_,rfl,rfl,hs⟩
def Qbr.post (w0:World) (r:Int) (v:Value) (w:World):Prop:=v=int .i64 r∧St w0 [] w
theorem Qbr.calls {N:Nat} {a1:(List Int)} {a3:Int} {v2:Value} {w0:World} {r:Int} (hr0:RdRow (K.int .i16) w0 v2 a1) (H:Qbr.f N a1 a3=some r):
 Calls Tryz.prog 35 #[v2,int .i64 a3] w0 fun e w=>∃ v,e= .returned v∧Qbr.post w0 r v w:=by
 unfold Qbr.f at H
 have hs:St w0 [] w0:=St.refl w0
 refine calls_of_g (n:=9) Tryz.func35 rfl rfl ?_
 show G _ _ _ _ [_,_,_,_,_,_,_,_,_,_,_] _
 refine Qad (Qag [0] rfl ?_)
 refine Qaa (v:=int .i64 0) rfl rfl rfl (Qac (Qad (Qad (Qag [0,1,2] rfl ?_))))
 refine Qaa (v:=v2) rfl rfl rfl ?_
 show G _ _ _ _ [_,_,_,_,_,_,_,_,_,_,_] _
 obtain ⟨r4,Hr4,H⟩:=bind_get H
 refine Qaw (args:=[v2]) rfl rfl (Qax rfl (callFunc_enter Tryz.func56 rfl rfl) rfl) (QaU.calls (a1:=a1) (hs.rd hr0) Hr4) ?_
 rintro _ w ⟨rfl,hs2⟩
 have hs:St _ [] _:=hs.call hs2
 cases r4 with
 |true=>
  rw [if_pos rfl] at H
  refine Qaa (v:=bool false) rfl rfl rfl ?_
  show G _ _ _ _ [_,_,_,_,_,_,_,_,_,_,_] _
  refine Qac (Qal rfl (Qay (Qad (Qad (Qag [0,1,2] rfl ?_)))))
  refine Qaa (v:=int .i64 a3) rfl rfl rfl ?_
  obtain ⟨r5,Hr5,H⟩:=bind_get H
  refine Qaw (args:=[int .i64 a3,int .i64 0,int .i64 2000]) rfl rfl (Qax rfl (callFunc_enter Tryz.func38 rfl rfl) rfl) (Qbg.calls (a1:=a3) (a2:=0) (a3:=2000) Hr5) ?_
  rintro _ w ⟨rfl,hs2⟩
  have hs:St _ [] _:=hs.call hs2
  cases r5 with
  |true=>
   rw [if_pos rfl] at H
   refine Qaa (v:=bool false) rfl rfl rfl ?_
   show G _ _ _ _ [_,_,_,_,_,_,_,_,_,_,_] _
   refine Qac (Qal rfl (Qay (Qad (Qag [0] rfl ?_))))
   refine Qaa (v:=int .i64 0) rfl rfl rfl (Qac ?_)
   obtain rfl:=QsJ H
   refine Qaq Tryz.func35 (v:=int .i64 0) (res1 rfl rfl) ?_
   have hs:St _ [] _:=St.take (Γ':=[]) hs
   exact ⟨_,rfl,rfl,hs⟩
  |false=>
   rw [if_neg Bool.false_ne_true] at H
   refine Qaa (v:=bool true) rfl rfl rfl ?_
   show G _ _ _ _ [_,_,_,_,_,_,_,_,_,_,_] _
   refine Qac (Qai rfl (Qad (Qag [0] rfl ?_)))
   refine Qaa (v:=int .i64 2) rfl rfl rfl (Qac ?_)
   obtain rfl:=QsJ H
   refine Qaq Tryz.func35 (v:=int .i64 2) (res1 rfl rfl) ?_
   have hs:St _ [] _:=St.take (Γ':=[]) hs
   exact ⟨_,rfl,rfl,hs⟩
 |false=>
  rw [if_neg Bool.false_ne_true] at H
  refine Qaa (v:=bool true) rfl rfl rfl (Qac (Qai rfl (Qad (Qag [0] rfl ?_))))
  refine Qaa (v:=int .i64 1) rfl rfl rfl ?_
  show G _ _ _ _ [_,_,_,_,_,_,_,_,_,_,_] _
  refine Qac ?_
  obtain rfl:=QsJ H
  refine Qaq Tryz.func35 (v:=int .i64 1) (res1 rfl rfl) ?_
  have hs:St _ [] _:=St.take (Γ':=[]) hs
  exact ⟨_,rfl,rfl,hs⟩
end Go.Proofs.YtmineidejeacnaaGreatDoorX
