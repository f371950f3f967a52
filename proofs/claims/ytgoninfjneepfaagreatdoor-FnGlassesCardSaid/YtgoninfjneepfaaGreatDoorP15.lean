import Derived.Test.YtgoninfjneepfaaGreatDoorP14
namespace Go.Proofs.YtgoninfjneepfaaGreatDoorX
open Go Go.RowKit Go.Proofs
open Go.Value (int pointer bool agg slice string tuple)
set_option maxHeartbeats 40000000
set_option maxRecDepth 100000
set_option linter.unusedVariables false
set_option linter.unusedSimpArgs false
def Qam.post (w0:World) (r:Bool) (v:Value) (w:World):Prop:=v=bool r∧St w0 [] w
theorem Qam.calls {N : Nat} {a1 : (List Int)} {a3 : (List Int)} {v2 : Value} {v4 : Value} {w0 : World} {Q : Bool → Prop} (htab : Lib.TabIs Tryz.prog w0 "internal/strconv.uint64pow10" .u64 Lib.pow10Tab) (hmax : CellI w0 0) (hsyn : CellE w0 1) (hrng : CellE w0 2) (hr0 : RdRow (K.int .u8) w0 v2 a1) (hr1 : RdRow (K.int .u8) w0 v4 a3) (H : Qam.f N a1 a3 Q) :
 Calls Tryz.prog 3 #[v2,v4] w0 fun e w=>∃ v,e= .returned v∧∃ r,Q r∧Qam.post w0 r v w:=by
 unfold Qam.f at H
 have hs:St w0 [] w0:=St.refl w0
 refine calls_of_g (n:=357) Tryz.func3 rfl rfl ?_
 show G _ _ _ _ (_::_::_::_::_::_::_::_::_::_::_::_::_::_::_::_::_::_::_::_::_::_::_::_::_::_::_::_::_::_::_::_::_::_::_::_::_::_::_::_::_::_::_::_::_::_::_::_::_::_::_::_::_::_::_::_::_::_::_::_::_::_::_::_::_::_::_::_::_::_::_::_::_::_::_::_::_::_::_::_::_::_::_::_::_::_::_::_::_::_::_::_::_::_::_::_::_::_::_::_::_::_::_::_::_::_::_::_::_::_::_::_::_::_::_::_::_::_::_::_::_::_::_::_::_::_::_::_::_::_::_::_::_::_::_::_::_::_::_::_::_::_::_::_::_::_::_::_::_::_::_::_::_::_::_::_::_::_::_::_::_::_::_::_::_::_::_::_::_::_::_::_::_::_::_::_::_::_::_::_::_::_::_::_::_::_::_::_::_::_::_::_::_::_::_::_::_::_::_::_::_::_::_::_::_::_::_::_::_::_::_::_::_::_::_::_::_::_::_::_::_::_::_::_::_::_::_::_::_::_::_::_::_::_::_::_::_::_::_::_::_::_::_::_::_::_::_::_::_::_::_::_::_::_::_::_::_::_::_::_::_::_::_::_::_::_::_::_::_::_::_::_::_::_::_::_::_::_::_::_::_::_::_::_::_::_::_::_::_::_::_::_::_::_::_::_::_::_::_::_::_::_::_::_::_::_::_::_::_::_::_::_::_::_::_::_::_::_::_::_::_::_::_::_::_::_::_::_::_::_::_::_::_::_::_::_::_::_::_::_::_::_::_::_::_::_::_::_::_::_::_::_::_::_::_::_::_::_::_::[]) _
 refine Qad (Qag [0] rfl ?_)
 refine Qaa (v:=bool false) rfl rfl rfl (g_d rfl (Qab (Qad (Qad (Qag [0,1,2] rfl ?_)))))
 refine Qaa (v:=v2) rfl rfl rfl (g_d rfl ?_)
 refine Qaa (v:=v4) rfl rfl rfl (g_d rfl ?_)
 obtain ⟨r5,Hr5,H⟩:=H
 refine QaB (args:=[v2,v4]) rfl rfl (QaC rfl (callFunc_enter Tryz.func4 rfl rfl) rfl) (QbC.calls (a1:=a1) (a3:=a3) (hs.rd hr0) (hs.rd hr1) Hr5) ?_
 rintro _ w ⟨rfl,hs2⟩
 have hs:St _ [] _:=hs.call hs2
 cases r5 with
 |true=>
  rw [if_pos rfl] at H
  refine g_d rfl (Qab (Qah rfl (Qad (Qag [0] rfl ?_))))
  refine Qaa (v:=bool true) rfl rfl rfl (g_d rfl ?_)
  try dsimp only [Qae,Qaf]
  refine Qab ?_
  refine Qas Tryz.func3 (v:=bool true) (res1 rfl rfl) ?_
  have hs:St _ [] _:=St.take (Γ':=[]) hs
  exact ⟨_,rfl,_,H,rfl,hs⟩
 |false=> as_aux_lemma =>
  rw [if_neg Bool.false_ne_true] at H
  refine g_d rfl ?_
  try dsimp only [Qae,Qaf]
  refine Qab (Qal rfl (Qay (Qad (Qag [0,1,2,3,4,5,6,7] rfl ?_))))
  refine Qaa (v:=v2) rfl rfl rfl (g_d rfl ?_)
  obtain ⟨r6,Hr6,H⟩:=H
  refine QaB (args:=[v2]) rfl rfl (QaC rfl (callFunc_enter Tryz.func5 rfl rfl) rfl) (Qbu.calls (a1:=a1) (hs.rd hr0) Hr6) ?_
  rintro _ w ⟨v7,rfl,hs2⟩
  have hs:St _ [_] _:=hs.call hs2
  refine g_d rfl ?_
  refine Qaa (v:=tuple #[v7,agg ((encA (encI .i16)) r6.2).toArray]) rfl rfl rfl (g_d rfl ?_)
  refine Qaa (v:=v7) rfl rfl rfl (g_d rfl ?_)
  refine Qaa (v:=agg ((encA (encI .i16)) r6.2).toArray) rfl rfl rfl (g_d rfl ?_)
  refine Qa8 hs rfl rfl (z:=(agg #[int .i16 0,int .i16 0,int .i16 0,int .i16 0])) (cs:=((encA (encI .i16)) (Ar.rep 4 0))) rfl (fun _=>rfl) rfl ?_
  intro b9 w hs
  refine g_d rfl ?_
  try dsimp only [Qae,Qaf]
  refine Qaa (v:=v7) rfl rfl rfl (g_d rfl ?_)
  refine QaH (n:=4) hs ((fkA (n:=4) (he:=(fkI .i16).len) (h1:=(fkI .i16).one)).len _) rfl rfl (vs:=((encA (encI .i16)) r6.2)) rfl rfl rfl (fun _=>rfl) ((fkA (n:=4) (he:=(fkI .i16).len) (h1:=(fkI .i16).one)).len _) ((fkA (n:=4) (he:=(fkI .i16).len) (h1:=(fkI .i16).one)).one _) ?_
  intro w hs
  refine g_n rfl (Qab (Qad (Qag [0,1,2,3,4,5,6,7] rfl ?_)))
  refine Qaa (v:=v4) rfl rfl rfl (g_d rfl ?_)
  refine Qaa (v:=v7) rfl rfl rfl (g_d rfl ?_)
  refine Qbc (hs.row 1 rfl) rfl rfl rfl rfl rfl (g_d rfl ?_)
  try dsimp only [Qae,Qaf]
  refine Qaa (v:=int .u64 (u64w (r6.1.length:Int))) rfl rfl rfl (g_d rfl ?_)
  obtain ⟨g1,H⟩:=ite_getD H
  refine Qaa (v:=int .i64 (shlI .i64 1 (u64w (r6.1.length:Int)))) rfl rfl (Qce rfl rfl rfl g1) (g_d rfl ?_)
  obtain ⟨r11,Hr11,H⟩:=H
  refine QaB (args:=[v4,int .i64 0,int .i64 (shlI .i64 1 (u64w (r6.1.length:Int)))]) rfl rfl (QaC rfl (callFunc_enter Tryz.func6 rfl rfl) rfl) (QbI.calls (a1:=a3) (a3:=0) (a4:=shlI .i64 1 (u64w (r6.1.length:Int))) (hs.rd hr1) Hr11) ?_
  rintro _ w ⟨rfl,hs2⟩
  have hs:St _ [_,_] _:=hs.call hs2
  refine g_d rfl ?_
  try dsimp only [Qae,Qaf]
  refine Qaa (v:=int .u8 (u8w r11)) rfl rfl rfl (g_d rfl ?_)
  refine Qaa (v:=int .u8 (u8w r11)) rfl rfl rfl (g_d rfl (Qab (Qad (Qag [0,1,2,3,4,5,6,7,8,9] rfl ?_))))
  refine Qaa (v:=v7) rfl rfl rfl (g_d rfl ?_)
  refine QaG rfl rfl (es:=((encA (encI .i16)) r6.2)) rfl rfl (fun _=>rfl) (n:=4) (fun _=>rfl) ((fkA (n:=4) (he:=(fkI .i16).len) (h1:=(fkI .i16).one)).len _) (cells_all (hs.cells 0 rfl)) (g_d rfl ?_)
  try dsimp only [Qae,Qaf]
  refine Qaa (v:=int .u8 (u8w r11)) rfl rfl rfl (g_d rfl ?_)
  obtain ⟨r12,Hr12,H⟩:=H
  refine QaB (args:=[v7,agg ((encA (encI .i16)) r6.2).toArray,int .u8 (u8w r11)]) rfl rfl (QaC rfl (callFunc_enter Tryz.func7 rfl rfl) rfl) (Qbf.calls (a1:=r6.1) (a3:=r6.2) (a4:=u8w r11) (hs.row 1 rfl) Hr12) ?_
  rintro _ w ⟨rfl,hs2⟩
  have hs:St _ [_,_] _:=hs.call hs2
  refine g_d rfl ?_
  refine Qaa (v:=tuple #[agg ((encA (encI .i16)) r12.1).toArray,int .i64 r12.2]) rfl rfl rfl (g_d rfl ?_)
  refine Qaa (v:=agg ((encA (encI .i16)) r12.1).toArray) rfl rfl rfl (g_d rfl ?_)
  refine Qaa (v:=int .i64 r12.2) rfl rfl rfl (g_d rfl ?_)
  refine Qa8 hs rfl rfl (z:=(agg #[int .i16 0,int .i16 0,int .i16 0,int .i16 0])) (cs:=((encA (encI .i16)) (Ar.rep 4 0))) rfl (fun _=>rfl) rfl ?_
  intro b13 w hs
  refine g_d rfl ?_
  try dsimp only [Qae,Qaf]
  refine QaH (n:=4) hs ((fkA (n:=4) (he:=(fkI .i16).len) (h1:=(fkI .i16).one)).len _) rfl rfl (vs:=((encA (encI .i16)) r12.1)) rfl rfl rfl (fun _=>rfl) ((fkA (n:=4) (he:=(fkI .i16).len) (h1:=(fkI .i16).one)).len _) ((fkA (n:=4) (he:=(fkI .i16).len) (h1:=(fkI .i16).one)).one _) ?_
  intro w hs
  refine g_n rfl ?_
  refine Qaa (v:=int .i64 r12.2) rfl rfl rfl (g_d rfl (Qab (Qad (Qag [0,1,2,3,4,5,6,7,8,9] rfl ?_))))
  refine Qaa (v:=v7) rfl rfl rfl (g_d rfl ?_)
  refine QaG rfl rfl (es:=((encA (encI .i16)) r6.2)) rfl rfl (fun _=>rfl) (n:=4) (fun _=>rfl) ((fkA (n:=4) (he:=(fkI .i16).len) (h1:=(fkI .i16).one)).len _) (cells_all (hs.cells 1 rfl)) (g_d rfl ?_)
  try dsimp only [Qae,Qaf]
  refine Qaa (v:=int .u8 (u8w r11)) rfl rfl rfl (g_d rfl ?_)
  obtain ⟨r15,Hr15,H⟩:=H
  refine QaB (args:=[v7,agg ((encA (encI .i16)) r6.2).toArray,int .u8 (u8w r11)]) rfl rfl (QaC rfl (callFunc_enter Tryz.func8 rfl rfl) rfl) (Qbo.calls (a1:=r6.1) (a3:=r6.2) (a4:=u8w r11) (hs.row 2 rfl) Hr15) ?_
  rintro _ w ⟨rfl,hs2⟩
  have hs:St _ [_,_,_] _:=hs.call hs2
  refine g_d rfl ?_
  refine Qaa (v:=tuple #[agg ((encA (encI .i16)) r15.1).toArray,int .i64 r15.2]) rfl rfl rfl (g_d rfl ?_)
  refine Qaa (v:=agg ((encA (encI .i16)) r15.1).toArray) rfl rfl rfl (g_d rfl ?_)
  refine Qaa (v:=int .i64 r15.2) rfl rfl rfl (g_d rfl ?_)
  refine Qa8 hs rfl rfl (z:=(agg #[int .i16 0,int .i16 0,int .i16 0,int .i16 0])) (cs:=((encA (encI .i16)) (Ar.rep 4 0))) rfl (fun _=>rfl) rfl ?_
  intro b16 w hs
  refine g_d rfl ?_
  try dsimp only [Qae,Qaf]
  refine QaH (n:=4) hs ((fkA (n:=4) (he:=(fkI .i16).len) (h1:=(fkI .i16).one)).len _) rfl rfl (vs:=((encA (encI .i16)) r15.1)) rfl rfl rfl (fun _=>rfl) ((fkA (n:=4) (he:=(fkI .i16).len) (h1:=(fkI .i16).one)).len _) ((fkA (n:=4) (he:=(fkI .i16).len) (h1:=(fkI .i16).one)).one _) ?_
  intro w hs
  refine g_n rfl ?_
  refine Qaa (v:=int .i64 r15.2) rfl rfl rfl (g_d rfl (Qab (Qad (Qag [0,1,2,3,4,5,6,7,8,9] rfl ?_))))
  refine Qaa (v:=v7) rfl rfl rfl (g_d rfl ?_)
  refine QaG rfl rfl (es:=((encA (encI .i16)) r15.1)) rfl rfl (fun _=>rfl) (n:=4) (fun _=>rfl) ((fkA (n:=4) (he:=(fkI .i16).len) (h1:=(fkI .i16).one)).len _) (cells_all (hs.cells 0 rfl)) (g_d rfl ?_)
  try dsimp only [Qae,Qaf]
  refine Qaa (v:=int .u8 (u8w r11)) rfl rfl rfl (g_d rfl ?_)
  obtain ⟨r18,Hr18,H⟩:=H
  refine QaB (args:=[v7,agg ((encA (encI .i16)) r15.1).toArray,int .u8 (u8w r11)]) rfl rfl (QaC rfl (callFunc_enter Tryz.func7 rfl rfl) rfl) (Qbf.calls (a1:=r6.1) (a3:=r15.1) (a4:=u8w r11) (hs.row 3 rfl) Hr18) ?_
  rintro _ w ⟨rfl,hs2⟩
  have hs:St _ [_,_,_,_] _:=hs.call hs2
  refine g_d rfl ?_
  refine Qaa (v:=tuple #[agg ((encA (encI .i16)) r18.1).toArray,int .i64 r18.2]) rfl rfl rfl (g_d rfl ?_)
  refine Qaa (v:=agg ((encA (encI .i16)) r18.1).toArray) rfl rfl rfl (g_d rfl ?_)
  refine Qaa (v:=int .i64 r18.2) rfl rfl rfl (g_d rfl ?_)
  refine Qa8 hs rfl rfl (z:=(agg #[int .i16 0,int .i16 0,int .i16 0,int .i16 0])) (cs:=((encA (encI .i16)) (Ar.rep 4 0))) rfl (fun _=>rfl) rfl ?_
  intro b19 w hs
  refine g_d rfl ?_
  try dsimp only [Qae,Qaf]
  refine QaH (n:=4) hs ((fkA (n:=4) (he:=(fkI .i16).len) (h1:=(fkI .i16).one)).len _) rfl rfl (vs:=((encA (encI .i16)) r18.1)) rfl rfl rfl (fun _=>rfl) ((fkA (n:=4) (he:=(fkI .i16).len) (h1:=(fkI .i16).one)).len _) ((fkA (n:=4) (he:=(fkI .i16).len) (h1:=(fkI .i16).one)).one _) ?_
  intro w hs
  refine g_n rfl ?_
  refine Qaa (v:=int .i64 r18.2) rfl rfl rfl (g_d rfl (Qab (Qad (Qag [0,1,2,3,4,5,6,7,8,9,10,11] rfl ?_))))
  refine Qaa (v:=v7) rfl rfl rfl (g_d rfl ?_)
  refine QaG rfl rfl (es:=((encA (encI .i16)) r6.2)) rfl rfl (fun _=>rfl) (n:=4) (fun _=>rfl) ((fkA (n:=4) (he:=(fkI .i16).len) (h1:=(fkI .i16).one)).len _) (cells_all (hs.cells 3 rfl)) (g_d rfl ?_)
  try dsimp only [Qae,Qaf]
  obtain ⟨r21,Hr21,H⟩:=H
  refine QaB (args:=[v7,agg ((encA (encI .i16)) r6.2).toArray]) rfl rfl (QaC rfl (callFunc_enter Tryz.func10 rfl rfl) rfl) (Qbi.calls (a1:=r6.1) (a3:=r6.2) (hs.tab htab) (hs.row 4 rfl) Hr21) ?_
  rintro _ w ⟨rfl,hs2⟩
  have hs:St _ [_,_,_,_,_] _:=hs.call hs2
  refine g_d rfl ?_
  obtain ⟨r22,Hr22,H⟩:=H
  refine QaB (args:=[string r21]) rfl rfl (QaC rfl (callFunc_enter Tryz.func9 rfl rfl) rfl) (Qbn.calls (a1:=r21) (hs.tab htab) (hs.cellI hmax) (hs.cellE hsyn) (hs.cellE hrng) Hr22) ?_
  rintro _ w ⟨v23,rfl,hs2⟩
  have hs:St _ [_,_,_,_,_,_] _:=hs.call hs2
  refine g_d rfl ?_
  try dsimp only [Qae,Qaf]
  refine Qaa (v:=tuple #[v23,agg ((encA (encI .i16)) r22.2.1).toArray,int .i64 r22.2.2]) rfl rfl rfl (g_d rfl ?_)
  refine Qaa (v:=v23) rfl rfl rfl (g_d rfl ?_)
  refine Qaa (v:=agg ((encA (encI .i16)) r22.2.1).toArray) rfl rfl rfl (g_d rfl ?_)
  refine Qaa (v:=int .i64 r22.2.2) rfl rfl rfl (g_d rfl ?_)
  refine Qa8 hs rfl rfl (z:=(agg #[int .i16 0,int .i16 0,int .i16 0,int .i16 0])) (cs:=((encA (encI .i16)) (Ar.rep 4 0))) rfl (fun _=>rfl) rfl ?_
  intro b25 w hs
  refine g_d rfl ?_
  refine Qaa (v:=v23) rfl rfl rfl (g_d rfl ?_)
  try dsimp only [Qae,Qaf]
  refine QaH (n:=4) hs ((fkA (n:=4) (he:=(fkI .i16).len) (h1:=(fkI .i16).one)).len _) rfl rfl (vs:=((encA (encI .i16)) r22.2.1)) rfl rfl rfl (fun _=>rfl) ((fkA (n:=4) (he:=(fkI .i16).len) (h1:=(fkI .i16).one)).len _) ((fkA (n:=4) (he:=(fkI .i16).len) (h1:=(fkI .i16).one)).one _) ?_
  intro w hs
  refine g_n rfl ?_
  refine Qaa (v:=int .i64 r22.2.2) rfl rfl rfl (g_d rfl (Qab (Qad (Qad (Qag [0,1,2,3,4,5,6,7,8,9,10,11,12,13,14,15,16,17,18,19,20,21,22,23,24,25,26,27,28,29,30,31,32,33,34,35,36,37,38,39,40,41,42,43,44,45,46,47,48,49,50,51,52,53] rfl ?_)))))
  refine Qaa (v:=int .i64 r12.2) rfl rfl rfl (g_d rfl ?_)
  refine Qaa (v:=int .i64 r15.2) rfl rfl rfl (g_d rfl ?_)
  refine Qap (B:=r12.2 !=r15.2) rfl rfl rfl ?_ ?_
  ·
   intro hb
   rw [if_neg (b_bne_t hb)] at H
   refine g_d rfl ?_
   try dsimp only [Qae,Qaf]
   refine Qaa (v:=bool true) rfl rfl rfl (g_d rfl (Qac rfl rfl (g_d rfl (Qac rfl rfl (g_d rfl ?_)))))
   refine Qaa (v:=bool true) rfl rfl rfl (g_d rfl ?_)
   try dsimp only [Qae,Qaf]
   refine Qaa (v:=bool true) rfl rfl rfl (g_d rfl (Qac rfl rfl (g_d rfl (Qac rfl rfl (g_d rfl ?_)))))
   try dsimp only [Qae,Qaf]
   refine Qac rfl rfl (g_d rfl ?_)
   refine Qaa (v:=bool true) rfl rfl rfl (g_d rfl ?_)
   try dsimp only [Qae,Qaf]
   refine Qaa (v:=bool true) rfl rfl rfl (g_d rfl (Qac rfl rfl (g_d rfl (Qac rfl rfl (g_d rfl ?_)))))
   refine Qaa (v:=bool true) rfl rfl rfl (g_d rfl ?_)
   try dsimp only [Qae,Qaf]
   refine Qaa (v:=bool true) rfl rfl rfl (g_d rfl (Qac rfl rfl (g_d rfl (Qac rfl rfl (g_d rfl ?_)))))
   try dsimp only [Qae,Qaf]
   refine Qac rfl rfl (g_d rfl ?_)
   refine Qaa (v:=bool true) rfl rfl rfl (g_d rfl ?_)
   try dsimp only [Qae,Qaf]
   refine Qaa (v:=bool true) rfl rfl rfl (g_d rfl (Qac rfl rfl (g_d rfl (Qac rfl rfl (g_d rfl ?_)))))
   refine Qaa (v:=bool true) rfl rfl rfl (g_d rfl ?_)
   try dsimp only [Qae,Qaf]
   refine Qaa (v:=bool true) rfl rfl rfl (g_d rfl (Qac rfl rfl (g_d rfl (Qac rfl rfl (g_d rfl (Qac rfl rfl (g_d rfl ?_)))))))
   refine Qac rfl rfl (g_d rfl ?_)
   try dsimp only [Qae,Qaf]
   refine Qac rfl rfl (g_d rfl ?_)
   refine Qaa (v:=bool true) rfl rfl rfl (g_d rfl ?_)
   try dsimp only [Qae,Qaf]
   refine Qaa (v:=bool true) rfl rfl rfl (g_d rfl (Qac rfl rfl (g_d rfl (Qac rfl rfl (g_d rfl ?_)))))
   try dsimp only [Qae,Qaf]
   refine Qac rfl rfl (g_d rfl ?_)
   refine Qaa (v:=bool true) rfl rfl rfl (g_d rfl ?_)
   try dsimp only [Qae,Qaf]
   refine Qaa (v:=bool true) rfl rfl rfl (g_d rfl (Qac rfl rfl (g_d rfl (Qac rfl rfl (g_d rfl (Qac rfl rfl (g_d rfl ?_)))))))
   try dsimp only [Qae,Qaf]
   refine Qaa (v:=bool true) rfl rfl rfl (g_d rfl ?_)
   refine Qaa (v:=bool true) rfl rfl rfl (g_d rfl (Qac rfl rfl (g_d rfl (Qac rfl rfl (g_d rfl ?_)))))
   try dsimp only [Qae,Qaf]
   refine Qac rfl rfl (g_d rfl (Qac rfl rfl (g_d rfl ?_)))
   try dsimp only [Qae,Qaf]
   refine Qaa (v:=bool true) rfl rfl rfl (g_d rfl ?_)
   refine Qaa (v:=bool true) rfl rfl rfl (g_d rfl (Qac rfl rfl (g_d rfl (Qac rfl rfl (g_d rfl ?_)))))
   try dsimp only [Qae,Qaf]
   refine Qac rfl rfl (g_d rfl (Qac rfl rfl (g_d rfl ?_)))
   try dsimp only [Qae,Qaf]
   refine Qaa (v:=bool true) rfl rfl rfl (g_d rfl (Qab (Qah rfl (Qad (Qag [0] rfl ?_)))))
   refine Qaa (v:=bool false) rfl rfl rfl (g_d rfl ?_)
   try dsimp only [Qae,Qaf]
   refine Qab ?_
   refine Qas Tryz.func3 (v:=bool false) (res1 rfl rfl) ?_
   have hs:St _ [] _:=St.take (Γ':=[_,_,_,_,_,_,_]) hs
   exact ⟨_,rfl,_,H,rfl,hs⟩
  intro hb
  rw [if_pos (b_bne_f hb)] at H
  refine g_d rfl ?_
  try dsimp only [Qae,Qaf]
  refine Qaa (v:=bool false) rfl rfl rfl (g_d rfl ?_)
  refine Qaa (v:=int .i64 r12.2) rfl rfl rfl (g_d rfl ?_)
  refine Qaa (v:=bool (r12.2 !=0)) rfl rfl rfl (g_d rfl ?_)
  refine Qap (B:=r12.2 !=0) rfl rfl rfl ?_ ?_
  ·
   intro hb
   rw [if_neg (b_bne_t hb)] at H
   refine g_d rfl ?_
   refine Qaa (v:=bool true) rfl rfl rfl (g_d rfl (Qac rfl rfl (g_d rfl ?_)))
   try dsimp only [Qae,Qaf]
   refine Qac rfl rfl (g_d rfl (Qac rfl rfl (g_d rfl ?_)))
   try dsimp only [Qae,Qaf]
   refine Qaa (v:=bool true) rfl rfl rfl (g_d rfl ?_)
   refine Qaa (v:=bool true) rfl rfl rfl (g_d rfl (Qac rfl rfl (g_d rfl (Qac rfl rfl (g_d rfl ?_)))))
   try dsimp only [Qae,Qaf]
   refine Qaa (v:=bool true) rfl rfl rfl (g_d rfl ?_)
   refine Qaa (v:=bool true) rfl rfl rfl (g_d rfl (Qac rfl rfl (g_d rfl ?_)))
   try dsimp only [Qae,Qaf]
   refine Qac rfl rfl (g_d rfl (Qac rfl rfl (g_d rfl ?_)))
   try dsimp only [Qae,Qaf]
   refine Qaa (v:=bool true) rfl rfl rfl (g_d rfl ?_)
   refine Qaa (v:=bool true) rfl rfl rfl (g_d rfl (Qac rfl rfl (g_d rfl (Qac rfl rfl (g_d rfl ?_)))))
   try dsimp only [Qae,Qaf]
   refine Qaa (v:=bool true) rfl rfl rfl (g_d rfl ?_)
   refine Qaa (v:=bool true) rfl rfl rfl (g_d rfl (Qac rfl rfl (g_d rfl (Qac rfl rfl (g_d rfl ?_)))))
   try dsimp only [Qae,Qaf]
   refine Qac rfl rfl (g_d rfl (Qac rfl rfl (g_d rfl (Qac rfl rfl (g_d rfl ?_)))))
   try dsimp only [Qae,Qaf]
   refine Qaa (v:=bool true) rfl rfl rfl (g_d rfl ?_)
   refine Qaa (v:=bool true) rfl rfl rfl (g_d rfl (Qac rfl rfl (g_d rfl ?_)))
   try dsimp only [Qae,Qaf]
   refine Qac rfl rfl (g_d rfl (Qac rfl rfl (g_d rfl ?_)))
   try dsimp only [Qae,Qaf]
   refine Qaa (v:=bool true) rfl rfl rfl (g_d rfl ?_)
   refine Qaa (v:=bool true) rfl rfl rfl (g_d rfl (Qac rfl rfl (g_d rfl (Qac rfl rfl (g_d rfl ?_)))))
   try dsimp only [Qae,Qaf]
   refine Qac rfl rfl (g_d rfl ?_)
   refine Qaa (v:=bool true) rfl rfl rfl (g_d rfl ?_)
   try dsimp only [Qae,Qaf]
   refine Qaa (v:=bool true) rfl rfl rfl (g_d rfl (Qac rfl rfl (g_d rfl (Qac rfl rfl (g_d rfl (Qac rfl rfl (g_d rfl ?_)))))))
   try dsimp only [Qae,Qaf]
   refine Qac rfl rfl (g_d rfl ?_)
   refine Qaa (v:=bool true) rfl rfl rfl (g_d rfl ?_)
   try dsimp only [Qae,Qaf]
   refine Qaa (v:=bool true) rfl rfl rfl (g_d rfl (Qac rfl rfl (g_d rfl (Qac rfl rfl (g_d rfl (Qac rfl rfl (g_d rfl ?_)))))))
   try dsimp only [Qae,Qaf]
   refine Qac rfl rfl (g_d rfl ?_)
   refine Qaa (v:=bool true) rfl rfl rfl (g_d rfl ?_)
   try dsimp only [Qae,Qaf]
   refine Qab (Qah rfl (Qad (Qag [0] rfl ?_)))
   refine Qaa (v:=bool false) rfl rfl rfl (g_d rfl (Qab ?_))
   refine Qas Tryz.func3 (v:=bool false) (res1 rfl rfl) ?_
   have hs:St _ [] _:=St.take (Γ':=[_,_,_,_,_,_,_]) hs
   exact ⟨_,rfl,_,H,rfl,hs⟩
  intro hb
  rw [if_pos (b_bne_f hb)] at H
  refine g_d rfl ?_
  try dsimp only [Qae,Qaf]
  refine Qaa (v:=bool false) rfl rfl rfl (g_d rfl ?_)
  refine QaG rfl rfl (es:=((encA (encI .i16)) r12.1)) rfl rfl (fun _=>rfl) (n:=4) (fun _=>rfl) ((fkA (n:=4) (he:=(fkI .i16).len) (h1:=(fkI .i16).one)).len _) (cells_all (hs.cells 4 rfl)) (g_d rfl ?_)
  refine QaG rfl rfl (es:=((encA (encI .i16)) r15.1)) rfl rfl (fun _=>rfl) (n:=4) (fun _=>rfl) ((fkA (n:=4) (he:=(fkI .i16).len) (h1:=(fkI .i16).one)).len _) (cells_all (hs.cells 3 rfl)) (g_d rfl ?_)
  try dsimp only [Qae,Qaf]
  refine Qaa (v:=bool (!decide (r12.1=r15.1))) rfl rfl (Qcd rfl rfl rfl QbQ (QbR _ _ _)) (g_d rfl ?_)
  refine Qap (B:=!decide (r12.1=r15.1)) rfl rfl rfl ?_ ?_
  ·
   intro hb
   rw [if_neg (b_ndec_t hb)] at H
   refine g_d rfl ?_
   try dsimp only [Qae,Qaf]
   refine Qaa (v:=bool true) rfl rfl rfl (g_d rfl (Qac rfl rfl (g_d rfl (Qac rfl rfl (g_d rfl ?_)))))
   refine Qaa (v:=bool true) rfl rfl rfl (g_d rfl ?_)
   try dsimp only [Qae,Qaf]
   refine Qaa (v:=bool true) rfl rfl rfl (g_d rfl (Qac rfl rfl (g_d rfl (Qac rfl rfl (g_d rfl ?_)))))
   try dsimp only [Qae,Qaf]
   refine Qac rfl rfl (g_d rfl ?_)
   refine Qaa (v:=bool true) rfl rfl rfl (g_d rfl ?_)
   try dsimp only [Qae,Qaf]
   refine Qaa (v:=bool true) rfl rfl rfl (g_d rfl (Qac rfl rfl (g_d rfl (Qac rfl rfl (g_d rfl ?_)))))
   refine Qaa (v:=bool true) rfl rfl rfl (g_d rfl ?_)
   try dsimp only [Qae,Qaf]
   refine Qaa (v:=bool true) rfl rfl rfl (g_d rfl (Qac rfl rfl (g_d rfl (Qac rfl rfl (g_d rfl (Qac rfl rfl (g_d rfl ?_)))))))
   refine Qac rfl rfl (g_d rfl ?_)
   try dsimp only [Qae,Qaf]
   refine Qac rfl rfl (g_d rfl ?_)
   refine Qaa (v:=bool true) rfl rfl rfl (g_d rfl ?_)
   try dsimp only [Qae,Qaf]
   refine Qaa (v:=bool true) rfl rfl rfl (g_d rfl (Qac rfl rfl (g_d rfl (Qac rfl rfl (g_d rfl ?_)))))
   try dsimp only [Qae,Qaf]
   refine Qac rfl rfl (g_d rfl ?_)
   refine Qaa (v:=bool true) rfl rfl rfl (g_d rfl ?_)
   try dsimp only [Qae,Qaf]
   refine Qaa (v:=bool true) rfl rfl rfl (g_d rfl (Qac rfl rfl (g_d rfl (Qac rfl rfl (g_d rfl (Qac rfl rfl (g_d rfl ?_)))))))
   try dsimp only [Qae,Qaf]
   refine Qaa (v:=bool true) rfl rfl rfl (g_d rfl ?_)
   refine Qaa (v:=bool true) rfl rfl rfl (g_d rfl (Qac rfl rfl (g_d rfl (Qac rfl rfl (g_d rfl ?_)))))
   try dsimp only [Qae,Qaf]
   refine Qac rfl rfl (g_d rfl (Qac rfl rfl (g_d rfl ?_)))
   try dsimp only [Qae,Qaf]
   refine Qaa (v:=bool true) rfl rfl rfl (g_d rfl ?_)
   refine Qaa (v:=bool true) rfl rfl rfl (g_d rfl (Qac rfl rfl (g_d rfl (Qac rfl rfl (g_d rfl ?_)))))
   try dsimp only [Qae,Qaf]
   refine Qac rfl rfl (g_d rfl (Qac rfl rfl (g_d rfl ?_)))
   try dsimp only [Qae,Qaf]
   refine Qaa (v:=bool true) rfl rfl rfl (g_d rfl (Qab (Qah rfl (Qad (Qag [0] rfl ?_)))))
   refine Qaa (v:=bool false) rfl rfl rfl (g_d rfl ?_)
   try dsimp only [Qae,Qaf]
   refine Qab ?_
   refine Qas Tryz.func3 (v:=bool false) (res1 rfl rfl) ?_
   have hs:St _ [] _:=St.take (Γ':=[_,_,_,_,_,_,_]) hs
   exact ⟨_,rfl,_,H,rfl,hs⟩
  as_aux_lemma =>
   intro hb
   rw [if_pos (b_ndec_f hb)] at H
   refine g_d rfl ?_
   try dsimp only [Qae,Qaf]
   refine Qaa (v:=bool false) rfl rfl rfl (g_d rfl ?_)
   refine Qaa (v:=int .i64 r18.2) rfl rfl rfl (g_d rfl ?_)
   refine Qaa (v:=bool (r18.2 !=0)) rfl rfl rfl (g_d rfl ?_)
   refine Qap (B:=r18.2 !=0) rfl rfl rfl ?_ ?_
   ·
    intro hb
    rw [if_neg (b_bne_t hb)] at H
    refine g_d rfl ?_
    refine Qaa (v:=bool true) rfl rfl rfl (g_d rfl (Qac rfl rfl (g_d rfl ?_)))
    try dsimp only [Qae,Qaf]
    refine Qac rfl rfl (g_d rfl (Qac rfl rfl (g_d rfl ?_)))
    try dsimp only [Qae,Qaf]
    refine Qaa (v:=bool true) rfl rfl rfl (g_d rfl ?_)
    refine Qaa (v:=bool true) rfl rfl rfl (g_d rfl (Qac rfl rfl (g_d rfl (Qac rfl rfl (g_d rfl ?_)))))
    try dsimp only [Qae,Qaf]
    refine Qaa (v:=bool true) rfl rfl rfl (g_d rfl ?_)
    refine Qaa (v:=bool true) rfl rfl rfl (g_d rfl (Qac rfl rfl (g_d rfl (Qac rfl rfl (g_d rfl ?_)))))
    try dsimp only [Qae,Qaf]
    refine Qac rfl rfl (g_d rfl (Qac rfl rfl (g_d rfl (Qac rfl rfl (g_d rfl ?_)))))
    try dsimp only [Qae,Qaf]
    refine Qaa (v:=bool true) rfl rfl rfl (g_d rfl ?_)
    refine Qaa (v:=bool true) rfl rfl rfl (g_d rfl (Qac rfl rfl (g_d rfl ?_)))
    try dsimp only [Qae,Qaf]
    refine Qac rfl rfl (g_d rfl (Qac rfl rfl (g_d rfl ?_)))
    try dsimp only [Qae,Qaf]
    refine Qaa (v:=bool true) rfl rfl rfl (g_d rfl ?_)
    refine Qaa (v:=bool true) rfl rfl rfl (g_d rfl (Qac rfl rfl (g_d rfl (Qac rfl rfl (g_d rfl ?_)))))
    try dsimp only [Qae,Qaf]
    refine Qac rfl rfl (g_d rfl ?_)
    refine Qaa (v:=bool true) rfl rfl rfl (g_d rfl ?_)
    try dsimp only [Qae,Qaf]
    refine Qaa (v:=bool true) rfl rfl rfl (g_d rfl (Qac rfl rfl (g_d rfl (Qac rfl rfl (g_d rfl (Qac rfl rfl (g_d rfl ?_)))))))
    try dsimp only [Qae,Qaf]
    refine Qac rfl rfl (g_d rfl ?_)
    refine Qaa (v:=bool true) rfl rfl rfl (g_d rfl ?_)
    try dsimp only [Qae,Qaf]
    refine Qaa (v:=bool true) rfl rfl rfl (g_d rfl (Qac rfl rfl (g_d rfl (Qac rfl rfl (g_d rfl (Qac rfl rfl (g_d rfl ?_)))))))
    try dsimp only [Qae,Qaf]
    refine Qac rfl rfl (g_d rfl ?_)
    refine Qaa (v:=bool true) rfl rfl rfl (g_d rfl ?_)
    try dsimp only [Qae,Qaf]
    refine Qab (Qah rfl (Qad (Qag [0] rfl ?_)))
    refine Qaa (v:=bool false) rfl rfl rfl (g_d rfl (Qab ?_))
    refine Qas Tryz.func3 (v:=bool false) (res1 rfl rfl) ?_
    have hs:St _ [] _:=St.take (Γ':=[_,_,_,_,_,_,_]) hs
    exact ⟨_,rfl,_,H,rfl,hs⟩
   intro hb
   rw [if_pos (b_bne_f hb)] at H
   refine g_d rfl ?_
   try dsimp only [Qae,Qaf]
   refine Qaa (v:=bool false) rfl rfl rfl (g_d rfl ?_)
   refine QaG rfl rfl (es:=((encA (encI .i16)) r18.1)) rfl rfl (fun _=>rfl) (n:=4) (fun _=>rfl) ((fkA (n:=4) (he:=(fkI .i16).len) (h1:=(fkI .i16).one)).len _) (cells_all (hs.cells 2 rfl)) (g_d rfl ?_)
   refine QaG rfl rfl (es:=((encA (encI .i16)) r6.2)) rfl rfl (fun _=>rfl) (n:=4) (fun _=>rfl) ((fkA (n:=4) (he:=(fkI .i16).len) (h1:=(fkI .i16).one)).len _) (cells_all (hs.cells 5 rfl)) (g_d rfl ?_)
   try dsimp only [Qae,Qaf]
   refine Qaa (v:=bool (!decide (r18.1=r6.2))) rfl rfl (Qcd rfl rfl rfl QbQ (QbR _ _ _)) (g_d rfl ?_)
   refine Qap (B:=!decide (r18.1=r6.2)) rfl rfl rfl ?_ ?_
   ·
    intro hb
    rw [if_neg (b_ndec_t hb)] at H
    refine g_d rfl ?_
    try dsimp only [Qae,Qaf]
    refine Qaa (v:=bool true) rfl rfl rfl (g_d rfl (Qac rfl rfl (g_d rfl (Qac rfl rfl (g_d rfl ?_)))))
    refine Qaa (v:=bool true) rfl rfl rfl (g_d rfl ?_)
    try dsimp only [Qae,Qaf]
    refine Qaa (v:=bool true) rfl rfl rfl (g_d rfl (Qac rfl rfl (g_d rfl (Qac rfl rfl (g_d rfl (Qac rfl rfl (g_d rfl ?_)))))))
    refine Qac rfl rfl (g_d rfl ?_)
    try dsimp only [Qae,Qaf]
    refine Qac rfl rfl (g_d rfl ?_)
    refine Qaa (v:=bool true) rfl rfl rfl (g_d rfl ?_)
    try dsimp only [Qae,Qaf]
    refine Qaa (v:=bool true) rfl rfl rfl (g_d rfl (Qac rfl rfl (g_d rfl (Qac rfl rfl (g_d rfl ?_)))))
    try dsimp only [Qae,Qaf]
    refine Qac rfl rfl (g_d rfl ?_)
    refine Qaa (v:=bool true) rfl rfl rfl (g_d rfl ?_)
    try dsimp only [Qae,Qaf]
    refine Qaa (v:=bool true) rfl rfl rfl (g_d rfl (Qac rfl rfl (g_d rfl (Qac rfl rfl (g_d rfl (Qac rfl rfl (g_d rfl ?_)))))))
    try dsimp only [Qae,Qaf]
    refine Qaa (v:=bool true) rfl rfl rfl (g_d rfl ?_)
    refine Qaa (v:=bool true) rfl rfl rfl (g_d rfl (Qac rfl rfl (g_d rfl (Qac rfl rfl (g_d rfl ?_)))))
    try dsimp only [Qae,Qaf]
    refine Qac rfl rfl (g_d rfl (Qac rfl rfl (g_d rfl ?_)))
    try dsimp only [Qae,Qaf]
    refine Qaa (v:=bool true) rfl rfl rfl (g_d rfl ?_)
    refine Qaa (v:=bool true) rfl rfl rfl (g_d rfl (Qac rfl rfl (g_d rfl (Qac rfl rfl (g_d rfl ?_)))))
    try dsimp only [Qae,Qaf]
    refine Qac rfl rfl (g_d rfl (Qac rfl rfl (g_d rfl ?_)))
    try dsimp only [Qae,Qaf]
    refine Qaa (v:=bool true) rfl rfl rfl (g_d rfl (Qab (Qah rfl (Qad (Qag [0] rfl ?_)))))
    refine Qaa (v:=bool false) rfl rfl rfl (g_d rfl ?_)
    try dsimp only [Qae,Qaf]
    refine Qab ?_
    refine Qas Tryz.func3 (v:=bool false) (res1 rfl rfl) ?_
    have hs:St _ [] _:=St.take (Γ':=[_,_,_,_,_,_,_]) hs
    exact ⟨_,rfl,_,H,rfl,hs⟩
   intro hb
   rw [if_pos (b_ndec_f hb)] at H
   refine g_d rfl ?_
   try dsimp only [Qae,Qaf]
   refine Qaa (v:=bool false) rfl rfl rfl (g_d rfl ?_)
   refine Qaa (v:=int .i64 r22.2.2) rfl rfl rfl (g_d rfl ?_)
   refine Qaa (v:=bool (r22.2.2 !=0)) rfl rfl rfl (g_d rfl ?_)
   refine Qap (B:=r22.2.2 !=0) rfl rfl rfl ?_ ?_
   ·
    intro hb
    rw [if_neg (b_bne_t hb)] at H
    refine g_d rfl ?_
    refine Qaa (v:=bool true) rfl rfl rfl (g_d rfl (Qac rfl rfl (g_d rfl (Qac rfl rfl (g_d rfl ?_)))))
    try dsimp only [Qae,Qaf]
    refine Qac rfl rfl (g_d rfl (Qac rfl rfl (g_d rfl (Qac rfl rfl (g_d rfl ?_)))))
    try dsimp only [Qae,Qaf]
    refine Qaa (v:=bool true) rfl rfl rfl (g_d rfl ?_)
    refine Qaa (v:=bool true) rfl rfl rfl (g_d rfl (Qac rfl rfl (g_d rfl ?_)))
    try dsimp only [Qae,Qaf]
    refine Qac rfl rfl (g_d rfl (Qac rfl rfl (g_d rfl ?_)))
    try dsimp only [Qae,Qaf]
    refine Qaa (v:=bool true) rfl rfl rfl (g_d rfl ?_)
    refine Qaa (v:=bool true) rfl rfl rfl (g_d rfl (Qac rfl rfl (g_d rfl (Qac rfl rfl (g_d rfl ?_)))))
    try dsimp only [Qae,Qaf]
    refine Qac rfl rfl (g_d rfl ?_)
    refine Qaa (v:=bool true) rfl rfl rfl (g_d rfl ?_)
    try dsimp only [Qae,Qaf]
    refine Qaa (v:=bool true) rfl rfl rfl (g_d rfl (Qac rfl rfl (g_d rfl (Qac rfl rfl (g_d rfl (Qac rfl rfl (g_d rfl ?_)))))))
    try dsimp only [Qae,Qaf]
    refine Qac rfl rfl (g_d rfl ?_)
    refine Qaa (v:=bool true) rfl rfl rfl (g_d rfl ?_)
    try dsimp only [Qae,Qaf]
    refine Qaa (v:=bool true) rfl rfl rfl (g_d rfl (Qac rfl rfl (g_d rfl (Qac rfl rfl (g_d rfl (Qac rfl rfl (g_d rfl ?_)))))))
    try dsimp only [Qae,Qaf]
    refine Qac rfl rfl (g_d rfl ?_)
    refine Qaa (v:=bool true) rfl rfl rfl (g_d rfl ?_)
    try dsimp only [Qae,Qaf]
    refine Qab (Qah rfl (Qad (Qag [0] rfl ?_)))
    refine Qaa (v:=bool false) rfl rfl rfl (g_d rfl (Qab ?_))
    refine Qas Tryz.func3 (v:=bool false) (res1 rfl rfl) ?_
    have hs:St _ [] _:=St.take (Γ':=[_,_,_,_,_,_,_]) hs
    exact ⟨_,rfl,_,H,rfl,hs⟩
   intro hb
   rw [if_pos (b_bne_f hb)] at H
   refine g_d rfl ?_
   try dsimp only [Qae,Qaf]
   refine Qaa (v:=bool false) rfl rfl rfl (g_d rfl ?_)
   refine Qaa (v:=v23) rfl rfl rfl (g_d rfl ?_)
   refine Qbc (hs.row 1 rfl) rfl rfl rfl rfl rfl (g_d rfl ?_)
   refine Qaa (v:=v7) rfl rfl rfl (g_d rfl ?_)
   refine Qbc (hs.row 6 rfl) rfl rfl rfl rfl rfl (g_d rfl ?_)
   try dsimp only [Qae,Qaf]
   refine Qaa (v:=bool ((r22.1.length:Int) !=(r6.1.length:Int))) rfl rfl rfl (g_d rfl ?_)
   refine Qap (B:=(r22.1.length:Int) !=(r6.1.length:Int)) rfl rfl rfl ?_ ?_
   ·
    intro hb
    rw [if_neg (b_bne_t hb)] at H
    refine g_d rfl ?_
    try dsimp only [Qae,Qaf]
    refine Qaa (v:=bool true) rfl rfl rfl (g_d rfl (Qac rfl rfl (g_d rfl (Qac rfl rfl (g_d rfl ?_)))))
    try dsimp only [Qae,Qaf]
    refine Qac rfl rfl (g_d rfl ?_)
    refine Qaa (v:=bool true) rfl rfl rfl (g_d rfl ?_)
    try dsimp only [Qae,Qaf]
    refine Qaa (v:=bool true) rfl rfl rfl (g_d rfl (Qac rfl rfl (g_d rfl (Qac rfl rfl (g_d rfl (Qac rfl rfl (g_d rfl ?_)))))))
    try dsimp only [Qae,Qaf]
    refine Qaa (v:=bool true) rfl rfl rfl (g_d rfl ?_)
    refine Qaa (v:=bool true) rfl rfl rfl (g_d rfl (Qac rfl rfl (g_d rfl (Qac rfl rfl (g_d rfl ?_)))))
    try dsimp only [Qae,Qaf]
    refine Qac rfl rfl (g_d rfl (Qac rfl rfl (g_d rfl ?_)))
    try dsimp only [Qae,Qaf]
    refine Qaa (v:=bool true) rfl rfl rfl (g_d rfl ?_)
    refine Qaa (v:=bool true) rfl rfl rfl (g_d rfl (Qac rfl rfl (g_d rfl (Qac rfl rfl (g_d rfl ?_)))))
    try dsimp only [Qae,Qaf]
    refine Qac rfl rfl (g_d rfl (Qac rfl rfl (g_d rfl ?_)))
    try dsimp only [Qae,Qaf]
    refine Qaa (v:=bool true) rfl rfl rfl (g_d rfl (Qab (Qah rfl (Qad (Qag [0] rfl ?_)))))
    refine Qaa (v:=bool false) rfl rfl rfl (g_d rfl ?_)
    try dsimp only [Qae,Qaf]
    refine Qab ?_
    refine Qas Tryz.func3 (v:=bool false) (res1 rfl rfl) ?_
    have hs:St _ [] _:=St.take (Γ':=[_,_,_,_,_,_,_]) hs
    exact ⟨_,rfl,_,H,rfl,hs⟩
   intro hb
   rw [if_pos (b_bne_f hb)] at H
   refine g_d rfl ?_
   try dsimp only [Qae,Qaf]
   refine Qaa (v:=bool false) rfl rfl rfl (g_d rfl ?_)
   refine QaG rfl rfl (es:=((encA (encI .i16)) r22.2.1)) rfl rfl (fun _=>rfl) (n:=4) (fun _=>rfl) ((fkA (n:=4) (he:=(fkI .i16).len) (h1:=(fkI .i16).one)).len _) (cells_all (hs.cells 0 rfl)) (g_d rfl ?_)
   refine QaG rfl rfl (es:=((encA (encI .i16)) r6.2)) rfl rfl (fun _=>rfl) (n:=4) (fun _=>rfl) ((fkA (n:=4) (he:=(fkI .i16).len) (h1:=(fkI .i16).one)).len _) (cells_all (hs.cells 5 rfl)) (g_d rfl ?_)
   try dsimp only [Qae,Qaf]
   refine Qaa (v:=bool (!decide (r22.2.1=r6.2))) rfl rfl (Qcd rfl rfl rfl QbQ (QbR _ _ _)) (g_d rfl ?_)
   refine Qap (B:=!decide (r22.2.1=r6.2)) rfl rfl rfl ?_ ?_
   ·
    intro hb
    rw [if_neg (b_ndec_t hb)] at H
    refine g_d rfl ?_
    refine Qaa (v:=bool true) rfl rfl rfl (g_d rfl (Qac rfl rfl (g_d rfl (Qac rfl rfl (g_d rfl ?_)))))
    try dsimp only [Qae,Qaf]
    refine Qac rfl rfl (g_d rfl ?_)
    refine Qaa (v:=bool true) rfl rfl rfl (g_d rfl ?_)
    try dsimp only [Qae,Qaf]
    refine Qaa (v:=bool true) rfl rfl rfl (g_d rfl (Qac rfl rfl (g_d rfl (Qac rfl rfl (g_d rfl (Qac rfl rfl (g_d rfl ?_)))))))
    try dsimp only [Qae,Qaf]
    refine Qac rfl rfl (g_d rfl ?_)
    refine Qaa (v:=bool true) rfl rfl rfl (g_d rfl ?_)
    try dsimp only [Qae,Qaf]
    refine Qaa (v:=bool true) rfl rfl rfl (g_d rfl (Qac rfl rfl (g_d rfl (Qac rfl rfl (g_d rfl (Qac rfl rfl (g_d rfl ?_)))))))
    try dsimp only [Qae,Qaf]
    refine Qac rfl rfl (g_d rfl ?_)
    refine Qaa (v:=bool true) rfl rfl rfl (g_d rfl ?_)
    try dsimp only [Qae,Qaf]
    refine Qab (Qah rfl (Qad (Qag [0] rfl ?_)))
    refine Qaa (v:=bool false) rfl rfl rfl (g_d rfl (Qab ?_))
    refine Qas Tryz.func3 (v:=bool false) (res1 rfl rfl) ?_
    have hs:St _ [] _:=St.take (Γ':=[_,_,_,_,_,_,_]) hs
    exact ⟨_,rfl,_,H,rfl,hs⟩
   intro hb
   rw [if_pos (b_ndec_f hb)] at H
   refine g_d rfl ?_
   try dsimp only [Qae,Qaf]
   refine Qaa (v:=bool false) rfl rfl rfl (g_d rfl ?_)
   refine Qaa (v:=v7) rfl rfl rfl (g_d rfl ?_)
   obtain ⟨r27,Hr27,H⟩:=H
   refine QaB (args:=[v7]) rfl rfl (QaC rfl (callFunc_enter Tryz.func11 rfl rfl) rfl) (Qa9.calls (a1:=r6.1) (hs.row 6 rfl) Hr27) ?_
   rintro _ w ⟨rfl,hs2⟩
   have hs:St _ [_,_,_,_,_,_,_] _:=hs.call hs2
   refine g_d rfl ?_
   refine Qaa (v:=bool (!r27)) rfl rfl rfl (g_d rfl ?_)
   try dsimp only [Qae,Qaf]
   refine Qap (B:=!r27) rfl rfl rfl ?_ ?_
   ·
    intro hb
    rw [if_neg (b_not_t hb)] at H
    refine g_d rfl ?_
    refine Qaa (v:=bool true) rfl rfl rfl (g_d rfl (Qac rfl rfl (g_d rfl (Qac rfl rfl (g_d rfl ?_)))))
    try dsimp only [Qae,Qaf]
    refine Qac rfl rfl (g_d rfl (Qac rfl rfl (g_d rfl ?_)))
    try dsimp only [Qae,Qaf]
    refine Qaa (v:=bool true) rfl rfl rfl (g_d rfl ?_)
    refine Qaa (v:=bool true) rfl rfl rfl (g_d rfl (Qac rfl rfl (g_d rfl (Qac rfl rfl (g_d rfl ?_)))))
    try dsimp only [Qae,Qaf]
    refine Qac rfl rfl (g_d rfl (Qac rfl rfl (g_d rfl ?_)))
    try dsimp only [Qae,Qaf]
    refine Qaa (v:=bool true) rfl rfl rfl (g_d rfl (Qab (Qah rfl (Qad (Qag [0] rfl ?_)))))
    refine Qaa (v:=bool false) rfl rfl rfl (g_d rfl ?_)
    try dsimp only [Qae,Qaf]
    refine Qab ?_
    refine Qas Tryz.func3 (v:=bool false) (res1 rfl rfl) ?_
    have hs:St _ [] _:=St.take (Γ':=[_,_,_,_,_,_,_]) hs
    exact ⟨_,rfl,_,H,rfl,hs⟩
   intro hb
   as_aux_lemma =>
    rw [if_pos (b_not_f hb)] at H
    refine g_d rfl ?_
    refine Qaa (v:=bool false) rfl rfl rfl (g_d rfl ?_)
    refine Qaa (v:=v7) rfl rfl rfl (g_d rfl ?_)
    refine QaG rfl rfl (es:=((encA (encI .i16)) r6.2)) rfl rfl (fun _=>rfl) (n:=4) (fun _=>rfl) ((fkA (n:=4) (he:=(fkI .i16).len) (h1:=(fkI .i16).one)).len _) (cells_all (hs.cells 5 rfl)) (g_d rfl ?_)
    try dsimp only [Qae,Qaf]
    obtain ⟨r28,Hr28,H⟩:=H
    refine QaB (args:=[v7,agg ((encA (encI .i16)) r6.2).toArray]) rfl rfl (QaC rfl (callFunc_enter Tryz.func12 rfl rfl) rfl) (QaM.calls (a1:=r6.1) (a3:=r6.2) (hs.row 6 rfl) Hr28) ?_
    rintro _ w ⟨rfl,hs2⟩
    have hs:St _ [_,_,_,_,_,_,_] _:=hs.call hs2
    refine g_d rfl ?_
    refine Qaa (v:=bool (!r28)) rfl rfl rfl (g_d rfl ?_)
    try dsimp only [Qae,Qaf]
    refine Qap (B:=!r28) rfl rfl rfl ?_ ?_
    ·
     intro hb
     rw [if_neg (b_not_t hb)] at H
     refine g_d rfl ?_
     refine Qaa (v:=bool true) rfl rfl rfl (g_d rfl (Qac rfl rfl (g_d rfl (Qac rfl rfl (g_d rfl ?_)))))
     try dsimp only [Qae,Qaf]
     refine Qac rfl rfl (g_d rfl (Qac rfl rfl (g_d rfl ?_)))
     try dsimp only [Qae,Qaf]
     refine Qaa (v:=bool true) rfl rfl rfl (g_d rfl (Qab (Qah rfl (Qad (Qag [0] rfl ?_)))))
     refine Qaa (v:=bool false) rfl rfl rfl (g_d rfl ?_)
     try dsimp only [Qae,Qaf]
     refine Qab ?_
     refine Qas Tryz.func3 (v:=bool false) (res1 rfl rfl) ?_
     have hs:St _ [] _:=St.take (Γ':=[_,_,_,_,_,_,_]) hs
     exact ⟨_,rfl,_,H,rfl,hs⟩
    intro hb
    rw [if_pos (b_not_f hb)] at H
    refine g_d rfl ?_
    refine Qaa (v:=bool false) rfl rfl rfl (g_d rfl ?_)
    refine Qaa (v:=v7) rfl rfl rfl (g_d rfl ?_)
    refine QaG rfl rfl (es:=((encA (encI .i16)) r15.1)) rfl rfl (fun _=>rfl) (n:=4) (fun _=>rfl) ((fkA (n:=4) (he:=(fkI .i16).len) (h1:=(fkI .i16).one)).len _) (cells_all (hs.cells 3 rfl)) (g_d rfl ?_)
    try dsimp only [Qae,Qaf]
    obtain ⟨r29,Hr29,H⟩:=H
    refine QaB (args:=[v7,agg ((encA (encI .i16)) r15.1).toArray]) rfl rfl (QaC rfl (callFunc_enter Tryz.func12 rfl rfl) rfl) (QaM.calls (a1:=r6.1) (a3:=r15.1) (hs.row 6 rfl) Hr29) ?_
    rintro _ w ⟨rfl,hs2⟩
    have hs:St _ [_,_,_,_,_,_,_] _:=hs.call hs2
    cases r29 with
    |true=>
     rw [if_pos rfl] at H
     refine g_d rfl ?_
     try dsimp only [Qae,Qaf]
     refine Qaa (v:=bool false) rfl rfl rfl (g_d rfl ?_)
     refine Qaa (v:=bool false) rfl rfl rfl (g_d rfl ?_)
     try dsimp only [Qae,Qaf]
     refine Qab (Qal rfl (Qay (Qad (Qad (Qag [0] rfl ?_)))))
     refine Qaa (v:=int .i64 0) rfl rfl rfl (g_d rfl (Qab ?_))
     have Ho:=H
     refine Qax (J:=fun t w=>Qam.a0 N r6 r15 a3 Q∧Fr t (fun O=>(O 0::v4::O 2::O 3::O 4::v7::pointer (some ⟨b9,0,none⟩)::O 7::O 8::O 9::pointer (some ⟨b16,0,none⟩)::O 11::O 12::O 13::O 14::O 15::O 16::O 17::O 18::O 19::oT O 2 (oT O 3 (oT O 4 (oT O 5 (oT O 6 (oT O 7 (oT O 8 (oT O 9 (oT O 10 (oT O 11 (oT O 12 (oT O 13 (oT O 14 (oT O 15 (oT O 16 (oT O 17 (oT O 18 (oT O 19 (oT O 20 (oT O 21 (oT O 22 (oT O 23 (oT O 24 (oT O 25 (oT O 26 (oT O 27 (oT O 28 (oT O 29 (oT O 30 (oT O 31 (oT O 32 (oT O 33 (oT O 34 (O 350::O 351::O 352::O 353::O 354::O 355::O 356::O 357::O 358::[]))))))))))))))))))))))))))))))))):List Value))∧St w0 [Row 26 (K.int .i16) v7 r6.1,Cells b9 ((encA (encI .i16)) r6.2) 28,Cells b16 ((encA (encI .i16)) r15.1) 28] w) ?_ ?_
     · as_aux_lemma =>
      rintro t w ⟨H,hf,hs⟩
      obtain ⟨O,rfl⟩:=hf.open
      try dsimp only [oT]
      unfold Qam.a0 at H
      refine Qad (Qag [0,1,2,3,4,5,6,7,8,9,10] rfl ?_)
      refine Qaa (v:=v7) rfl rfl rfl (g_d rfl ?_)
      refine QaG rfl rfl (es:=((encA (encI .i16)) r15.1)) rfl rfl (fun _=>rfl) (n:=4) (fun _=>rfl) ((fkA (n:=4) (he:=(fkI .i16).len) (h1:=(fkI .i16).one)).len _) (cells_all (hs.cells 2 rfl)) (g_d rfl ?_)
      try dsimp only [Qae,Qaf]
      obtain ⟨r32,Hr32,H⟩:=H
      refine QaB (args:=[v7,agg ((encA (encI .i16)) r15.1).toArray]) rfl rfl (QaC rfl (callFunc_enter Tryz.func13 rfl rfl) rfl) (Qbr.calls (a1:=r6.1) (a3:=r15.1) (hs.row 0 rfl) Hr32) ?_
      rintro _ w ⟨rfl,hs2⟩
      have hs:St _ [_,_,_] _:=hs.call hs2
      refine g_d rfl ?_
      refine Qaa (v:=tuple #[agg ((encA (encI .i16)) r32.1).toArray,int .i64 r32.2.1,int .i64 r32.2.2]) rfl rfl rfl (g_d rfl ?_)
      refine Qaa (v:=agg ((encA (encI .i16)) r32.1).toArray) rfl rfl rfl (g_d rfl ?_)
      refine Qaa (v:=int .i64 r32.2.1) rfl rfl rfl (g_d rfl ?_)
      refine Qaa (v:=int .i64 r32.2.2) rfl rfl rfl (g_d rfl ?_)
      refine Qa8 hs rfl rfl (z:=(agg #[int .i16 0,int .i16 0,int .i16 0,int .i16 0])) (cs:=((encA (encI .i16)) (Ar.rep 4 0))) rfl (fun _=>rfl) rfl ?_
      intro b33 w hs
      refine g_d rfl ?_
      try dsimp only [Qae,Qaf]
      refine QaH (n:=4) hs ((fkA (n:=4) (he:=(fkI .i16).len) (h1:=(fkI .i16).one)).len _) rfl rfl (vs:=((encA (encI .i16)) r32.1)) rfl rfl rfl (fun _=>rfl) ((fkA (n:=4) (he:=(fkI .i16).len) (h1:=(fkI .i16).one)).len _) ((fkA (n:=4) (he:=(fkI .i16).len) (h1:=(fkI .i16).one)).one _) ?_
      intro w hs
      refine g_n rfl ?_
      refine Qaa (v:=int .i64 r32.2.1) rfl rfl rfl (g_d rfl ?_)
      refine Qaa (v:=int .i64 r32.2.2) rfl rfl rfl (g_d rfl ?_)
      try dsimp only [Qae,Qaf]
      refine Qab (Qad (Qag [0,1,2,3,4,5,6,7,8,9,10] rfl ?_))
      refine Qaa (v:=v7) rfl rfl rfl (g_d rfl ?_)
      refine QaG rfl rfl (es:=((encA (encI .i16)) r15.1)) rfl rfl (fun _=>rfl) (n:=4) (fun _=>rfl) ((fkA (n:=4) (he:=(fkI .i16).len) (h1:=(fkI .i16).one)).len _) (cells_all (hs.cells 3 rfl)) (g_d rfl ?_)
      obtain ⟨r35,Hr35,H⟩:=H
      refine QaB (args:=[v7,agg ((encA (encI .i16)) r15.1).toArray]) rfl rfl (QaC rfl (callFunc_enter Tryz.func14 rfl rfl) rfl) (Qbs.calls (a1:=r6.1) (a3:=r15.1) (hs.row 1 rfl) Hr35) ?_
      rintro _ w ⟨rfl,hs2⟩
      have hs:St _ [_,_,_,_] _:=hs.call hs2
      refine g_d rfl ?_
      try dsimp only [Qae,Qaf]
      refine Qaa (v:=tuple #[agg ((encA (encI .i16)) r35.1).toArray,int .i64 r35.2.1,int .i64 r35.2.2]) rfl rfl rfl (g_d rfl ?_)
      refine Qaa (v:=agg ((encA (encI .i16)) r35.1).toArray) rfl rfl rfl (g_d rfl ?_)
      refine Qaa (v:=int .i64 r35.2.1) rfl rfl rfl (g_d rfl ?_)
      refine Qaa (v:=int .i64 r35.2.2) rfl rfl rfl (g_d rfl ?_)
      refine Qa8 hs rfl rfl (z:=(agg #[int .i16 0,int .i16 0,int .i16 0,int .i16 0])) (cs:=((encA (encI .i16)) (Ar.rep 4 0))) rfl (fun _=>rfl) rfl ?_
      intro b36 w hs
      refine g_d rfl ?_
      refine QaH (n:=4) hs ((fkA (n:=4) (he:=(fkI .i16).len) (h1:=(fkI .i16).one)).len _) rfl rfl (vs:=((encA (encI .i16)) r35.1)) rfl rfl rfl (fun _=>rfl) ((fkA (n:=4) (he:=(fkI .i16).len) (h1:=(fkI .i16).one)).len _) ((fkA (n:=4) (he:=(fkI .i16).len) (h1:=(fkI .i16).one)).one _) ?_
      intro w hs
      refine g_n rfl ?_
      refine Qaa (v:=int .i64 r35.2.1) rfl rfl rfl (g_d rfl ?_)
      try dsimp only [Qae,Qaf]
      refine Qaa (v:=int .i64 r35.2.2) rfl rfl rfl (g_d rfl (Qab (Qad (Qag [0,1,2,3,4,5,6,7] rfl ?_))))
      refine Qaa (v:=v7) rfl rfl rfl (g_d rfl ?_)
      refine QaG rfl rfl (es:=((encA (encI .i16)) r15.1)) rfl rfl (fun _=>rfl) (n:=4) (fun _=>rfl) ((fkA (n:=4) (he:=(fkI .i16).len) (h1:=(fkI .i16).one)).len _) (cells_all (hs.cells 4 rfl)) (g_d rfl ?_)
      try dsimp only [Qae,Qaf]
      obtain ⟨r38,Hr38,H⟩:=H
      refine QaB (args:=[v7,agg ((encA (encI .i16)) r15.1).toArray]) rfl rfl (QaC rfl (callFunc_enter Tryz.func15 rfl rfl) rfl) (Qbz.calls (a1:=r6.1) (a3:=r15.1) (hs.row 2 rfl) Hr38) ?_
      rintro _ w ⟨rfl,hs2⟩
      have hs:St _ [_,_,_,_,_] _:=hs.call hs2
      refine g_d rfl ?_
      refine Qaa (v:=tuple #[int .i64 r38.1,int .i64 r38.2]) rfl rfl rfl (g_d rfl ?_)
      refine Qaa (v:=int .i64 r38.1) rfl rfl rfl (g_d rfl ?_)
      refine Qaa (v:=int .i64 r38.2) rfl rfl rfl (g_d rfl ?_)
      refine Qaa (v:=int .i64 r38.1) rfl rfl rfl (g_d rfl ?_)
      try dsimp only [Qae,Qaf]
      refine Qaa (v:=int .i64 r38.2) rfl rfl rfl (g_d rfl (Qab (Qad (Qad (Qag [0,1,2,3,4,5,6,7,8,9,10,11,12,13,14,15,16,17,18,19,20,21,22,23] rfl ?_)))))
      refine Qaa (v:=int .i64 r32.2.2) rfl rfl rfl (g_d rfl ?_)
      refine Qaa (v:=int .i64 r35.2.2) rfl rfl rfl (g_d rfl ?_)
      refine Qap (B:=r32.2.2 !=r35.2.2) rfl rfl rfl ?_ ?_
      ·
       intro hb
       rw [if_neg (b_bne_t hb)] at H
       refine g_d rfl ?_
       try dsimp only [Qae,Qaf]
       refine Qaa (v:=bool true) rfl rfl rfl (g_d rfl (Qac rfl rfl (g_d rfl (Qac rfl rfl (g_d rfl ?_)))))
       try dsimp only [Qae,Qaf]
       refine Qac rfl rfl (g_d rfl ?_)
       refine Qaa (v:=bool true) rfl rfl rfl (g_d rfl ?_)
       try dsimp only [Qae,Qaf]
       refine Qaa (v:=bool true) rfl rfl rfl (g_d rfl (Qac rfl rfl (g_d rfl (Qac rfl rfl (g_d rfl (Qac rfl rfl (g_d rfl ?_)))))))
       refine Qaa (v:=bool true) rfl rfl rfl (g_d rfl ?_)
       try dsimp only [Qae,Qaf]
       refine Qaa (v:=bool true) rfl rfl rfl (g_d rfl (Qac rfl rfl (g_d rfl (Qac rfl rfl (g_d rfl ?_)))))
       refine Qaa (v:=bool true) rfl rfl rfl (g_d rfl ?_)
       try dsimp only [Qae,Qaf]
       refine Qaa (v:=bool true) rfl rfl rfl (g_d rfl (Qac rfl rfl (g_d rfl (Qac rfl rfl (g_d rfl (Qac rfl rfl (g_d rfl ?_)))))))
       refine Qac rfl rfl (g_d rfl ?_)
       try dsimp only [Qae,Qaf]
       refine Qac rfl rfl (g_d rfl ?_)
       refine Qaa (v:=bool true) rfl rfl rfl (g_d rfl ?_)
       try dsimp only [Qae,Qaf]
       refine Qab (Qah rfl (Qad (Qag [0] rfl ?_)))
       refine Qaa (v:=bool false) rfl rfl rfl (g_d rfl (Qab ?_))
       refine Qas Tryz.func3 (v:=bool false) (res1 rfl rfl) ?_
       have hs:St _ [] _:=St.take (Γ':=[_,_,_,_,_]) hs
       exact ⟨_,rfl,_,H,rfl,hs⟩
      intro hb
      rw [if_pos (b_bne_f hb)] at H
      refine g_d rfl ?_
      try dsimp only [Qae,Qaf]
      refine Qaa (v:=bool false) rfl rfl rfl (g_d rfl ?_)
      refine QaG rfl rfl (es:=((encA (encI .i16)) r32.1)) rfl rfl (fun _=>rfl) (n:=4) (fun _=>rfl) ((fkA (n:=4) (he:=(fkI .i16).len) (h1:=(fkI .i16).one)).len _) (cells_all (hs.cells 1 rfl)) (g_d rfl ?_)
      refine QaG rfl rfl (es:=((encA (encI .i16)) r35.1)) rfl rfl (fun _=>rfl) (n:=4) (fun _=>rfl) ((fkA (n:=4) (he:=(fkI .i16).len) (h1:=(fkI .i16).one)).len _) (cells_all (hs.cells 0 rfl)) (g_d rfl ?_)
      try dsimp only [Qae,Qaf]
      refine Qaa (v:=bool (!decide (r32.1=r35.1))) rfl rfl (Qcd rfl rfl rfl QbQ (QbR _ _ _)) (g_d rfl ?_)
      refine Qap (B:=!decide (r32.1=r35.1)) rfl rfl rfl ?_ ?_
      ·
       intro hb
       rw [if_neg (b_ndec_t hb)] at H
       refine g_d rfl ?_
       try dsimp only [Qae,Qaf]
       refine Qaa (v:=bool true) rfl rfl rfl (g_d rfl (Qac rfl rfl (g_d rfl (Qac rfl rfl (g_d rfl (Qac rfl rfl (g_d rfl ?_)))))))
       refine Qaa (v:=bool true) rfl rfl rfl (g_d rfl ?_)
       try dsimp only [Qae,Qaf]
       refine Qaa (v:=bool true) rfl rfl rfl (g_d rfl (Qac rfl rfl (g_d rfl (Qac rfl rfl (g_d rfl ?_)))))
       refine Qaa (v:=bool true) rfl rfl rfl (g_d rfl ?_)
       try dsimp only [Qae,Qaf]
       refine Qaa (v:=bool true) rfl rfl rfl (g_d rfl (Qac rfl rfl (g_d rfl (Qac rfl rfl (g_d rfl (Qac rfl rfl (g_d rfl ?_)))))))
       refine Qac rfl rfl (g_d rfl ?_)
       try dsimp only [Qae,Qaf]
       refine Qac rfl rfl (g_d rfl ?_)
       refine Qaa (v:=bool true) rfl rfl rfl (g_d rfl ?_)
       try dsimp only [Qae,Qaf]
       refine Qab (Qah rfl (Qad (Qag [0] rfl ?_)))
       refine Qaa (v:=bool false) rfl rfl rfl (g_d rfl (Qab ?_))
       refine Qas Tryz.func3 (v:=bool false) (res1 rfl rfl) ?_
       have hs:St _ [] _:=St.take (Γ':=[_,_,_,_,_]) hs
       exact ⟨_,rfl,_,H,rfl,hs⟩
      intro hb
      rw [if_pos (b_ndec_f hb)] at H
      refine g_d rfl ?_
      try dsimp only [Qae,Qaf]
      refine Qaa (v:=bool false) rfl rfl rfl (g_d rfl ?_)
      refine Qaa (v:=int .i64 r32.2.1) rfl rfl rfl (g_d rfl ?_)
      refine Qaa (v:=int .i64 r35.2.1) rfl rfl rfl (g_d rfl ?_)
      refine Qaa (v:=bool (r32.2.1 !=r35.2.1)) rfl rfl rfl (g_d rfl ?_)
      refine Qap (B:=r32.2.1 !=r35.2.1) rfl rfl rfl ?_ ?_
      ·
       intro hb
       rw [if_neg (b_bne_t hb)] at H
       refine g_d rfl ?_
       try dsimp only [Qae,Qaf]
       refine Qaa (v:=bool true) rfl rfl rfl (g_d rfl (Qac rfl rfl (g_d rfl (Qac rfl rfl (g_d rfl ?_)))))
       refine Qaa (v:=bool true) rfl rfl rfl (g_d rfl ?_)
       try dsimp only [Qae,Qaf]
       refine Qaa (v:=bool true) rfl rfl rfl (g_d rfl (Qac rfl rfl (g_d rfl (Qac rfl rfl (g_d rfl (Qac rfl rfl (g_d rfl ?_)))))))
       refine Qac rfl rfl (g_d rfl ?_)
       try dsimp only [Qae,Qaf]
       refine Qac rfl rfl (g_d rfl ?_)
       refine Qaa (v:=bool true) rfl rfl rfl (g_d rfl ?_)
       try dsimp only [Qae,Qaf]
       refine Qab (Qah rfl (Qad (Qag [0] rfl ?_)))
       refine Qaa (v:=bool false) rfl rfl rfl (g_d rfl (Qab ?_))
       refine Qas Tryz.func3 (v:=bool false) (res1 rfl rfl) ?_
       have hs:St _ [] _:=St.take (Γ':=[_,_,_,_,_]) hs
       exact ⟨_,rfl,_,H,rfl,hs⟩
      intro hb
      rw [if_pos (b_bne_f hb)] at H
      refine g_d rfl ?_
      try dsimp only [Qae,Qaf]
      refine Qaa (v:=bool false) rfl rfl rfl (g_d rfl ?_)
      refine Qaa (v:=int .i64 r38.2) rfl rfl rfl (g_d rfl ?_)
      refine Qaa (v:=bool (r38.2 !=0)) rfl rfl rfl (g_d rfl ?_)
      refine Qap (B:=r38.2 !=0) rfl rfl rfl ?_ ?_
      ·
       intro hb
       rw [if_neg (b_bne_t hb)] at H
       refine g_d rfl ?_
       try dsimp only [Qae,Qaf]
       refine Qaa (v:=bool true) rfl rfl rfl (g_d rfl (Qac rfl rfl (g_d rfl (Qac rfl rfl (g_d rfl (Qac rfl rfl (g_d rfl ?_)))))))
       refine Qac rfl rfl (g_d rfl ?_)
       try dsimp only [Qae,Qaf]
       refine Qac rfl rfl (g_d rfl ?_)
       refine Qaa (v:=bool true) rfl rfl rfl (g_d rfl ?_)
       try dsimp only [Qae,Qaf]
       refine Qab (Qah rfl (Qad (Qag [0] rfl ?_)))
       refine Qaa (v:=bool false) rfl rfl rfl (g_d rfl (Qab ?_))
       refine Qas Tryz.func3 (v:=bool false) (res1 rfl rfl) ?_
       have hs:St _ [] _:=St.take (Γ':=[_,_,_,_,_]) hs
       exact ⟨_,rfl,_,H,rfl,hs⟩
      intro hb
      rw [if_pos (b_bne_f hb)] at H
      refine g_d rfl ?_
      try dsimp only [Qae,Qaf]
      refine Qaa (v:=bool false) rfl rfl rfl (g_d rfl ?_)
      refine Qaa (v:=int .i64 r32.2.2) rfl rfl rfl (g_d rfl ?_)
      refine Qaa (v:=bool (r32.2.2==0)) rfl rfl rfl (g_d rfl ?_)
      refine Qaa (v:=int .i64 r38.1) rfl rfl rfl (g_d rfl ?_)
      refine Qaa (v:=bool (decide (r38.1>0))) rfl rfl rfl (g_d rfl ?_)
      try dsimp only [Qae,Qaf]
      refine Qap (B:=(r32.2.2==0) !=(decide (r38.1>0))) rfl rfl rfl ?_ ?_
      ·
       intro hb
       rw [if_neg (b_bne_t hb)] at H
       refine g_d rfl ?_
       refine Qaa (v:=bool true) rfl rfl rfl (g_d rfl ?_)
       try dsimp only [Qae,Qaf]
       refine Qab (Qah rfl (Qad (Qag [0] rfl ?_)))
       refine Qaa (v:=bool false) rfl rfl rfl (g_d rfl (Qab ?_))
       refine Qas Tryz.func3 (v:=bool false) (res1 rfl rfl) ?_
       have hs:St _ [] _:=St.take (Γ':=[_,_,_,_,_]) hs
       exact ⟨_,rfl,_,H,rfl,hs⟩
      intro hb
      rw [if_pos (b_bne_f hb)] at H
      refine g_d rfl ?_
      refine Qaa (v:=bool false) rfl rfl rfl (g_d rfl ?_)
      try dsimp only [Qae,Qaf]
      refine Qab (Qal rfl (Qay (Qad (Qad ?_))))
      refine Qb1 (J:=(fun t w=>Qam.j2 N a3 r6 Q∧Fr t (fun O=>(O 0::v4::O 2::O 3::O 4::v7::pointer (some ⟨b9,0,none⟩)::O 7::O 8::O 9::oT O 1 (oT O 2 (oT O 3 (oT O 4 (oT O 5 (oT O 6 (oT O 7 (oT O 8 (oT O 9 (oT O 10 (oT O 11 (oT O 12 (oT O 13 (oT O 14 (oT O 15 (oT O 16 (oT O 17 (oT O 18 (oT O 19 (oT O 20 (oT O 21 (oT O 22 (oT O 23 (oT O 24 (oT O 25 (oT O 26 (oT O 27 (oT O 28 (oT O 29 (oT O 30 (oT O 31 (oT O 32 (oT O 33 (oT O 34 (O 350::O 351::O 352::O 353::O 354::O 355::O 356::O 357::O 358::[])))))))))))))))))))))))))))))))))):List Value))∧St w0 [Row 26 (K.int .i16) v7 r6.1,Cells b9 ((encA (encI .i16)) r6.2) 28] w)) ?_ ?_
      · as_aux_lemma =>
       rintro t w ⟨H,hf,hs⟩
       obtain ⟨O,rfl⟩:=hf.open
       try dsimp only [oT]
       unfold Qam.j2 at H
       refine Qad (Qag [0,1,2] rfl ?_)
       refine Qaa (v:=v4) rfl rfl rfl (g_d rfl ?_)
       obtain ⟨r46,Hr46,H⟩:=H
       refine QaB (args:=[v4,int .i64 1,int .i64 24]) rfl rfl (QaC rfl (callFunc_enter Tryz.func6 rfl rfl) rfl) (QbI.calls (a1:=a3) (a3:=1) (a4:=24) (hs.rd hr1) Hr46) ?_
       rintro _ w ⟨rfl,hs2⟩
       have hs:St _ [_,_] _:=hs.call hs2
       refine g_d rfl ?_
       try dsimp only [Qae,Qaf]
       refine Qaa (v:=int .i64 r46) rfl rfl rfl (g_d rfl (Qab (Qad (Qag [0,1,2,3,4,5,6,7] rfl ?_))))
       refine Qaa (v:=v7) rfl rfl rfl (g_d rfl ?_)
       refine QaG rfl rfl (es:=((encA (encI .i16)) r6.2)) rfl rfl (fun _=>rfl) (n:=4) (fun _=>rfl) ((fkA (n:=4) (he:=(fkI .i16).len) (h1:=(fkI .i16).one)).len _) (cells_all (hs.cells 1 rfl)) (g_d rfl ?_)
       try dsimp only [Qae,Qaf]
       obtain ⟨r47,Hr47,H⟩:=H
       refine QaB (args:=[v7,agg ((encA (encI .i16)) r6.2).toArray]) rfl rfl (QaC rfl (callFunc_enter Tryz.func16 rfl rfl) rfl) (QaP.calls (a1:=r6.1) (a3:=r6.2) (hs.row 0 rfl) Hr47) ?_
       rintro _ w ⟨rfl,hs2⟩
       have hs:St _ [_,_] _:=hs.call hs2
       refine g_d rfl ?_
       refine Qaa (v:=tuple #[int .i64 r47.1,int .i64 r47.2]) rfl rfl rfl (g_d rfl ?_)
       refine Qaa (v:=int .i64 r47.1) rfl rfl rfl (g_d rfl ?_)
       refine Qaa (v:=int .i64 r47.2) rfl rfl rfl (g_d rfl ?_)
       refine Qaa (v:=int .i64 r47.1) rfl rfl rfl (g_d rfl ?_)
       try dsimp only [Qae,Qaf]
       refine Qaa (v:=int .i64 r47.2) rfl rfl rfl (g_d rfl (Qab (Qad (Qag [0,1,2,3,4,5,6,7,8] rfl ?_))))
       refine Qaa (v:=v7) rfl rfl rfl (g_d rfl ?_)
       refine QaG rfl rfl (es:=((encA (encI .i16)) r6.2)) rfl rfl (fun _=>rfl) (n:=4) (fun _=>rfl) ((fkA (n:=4) (he:=(fkI .i16).len) (h1:=(fkI .i16).one)).len _) (cells_all (hs.cells 1 rfl)) (g_d rfl ?_)
       try dsimp only [Qae,Qaf]
       refine Qaa (v:=int .i64 r46) rfl rfl rfl (g_d rfl ?_)
       refine QaB (args:=[v7,agg ((encA (encI .i16)) r6.2).toArray,int .i64 r46]) rfl rfl (QaC rfl (callFunc_enter Tryz.func17 rfl rfl) rfl) (QbG.calls (a1:=r6.1) (a3:=r6.2) (a4:=r46) (hs.row 0 rfl) H) ?_
       rintro _ w ⟨r48,H,v49,rfl,hs2⟩
       try dsimp only at H
       have hs:St _ [_,_,_] _:=hs.call hs2
       refine g_d rfl ?_
       refine Qaa (v:=tuple #[v49,int .i64 r48.2]) rfl rfl rfl (g_d rfl ?_)
       refine Qaa (v:=v49) rfl rfl rfl (g_d rfl ?_)
       refine Qaa (v:=int .i64 r48.2) rfl rfl rfl (g_d rfl ?_)
       refine Qaa (v:=v49) rfl rfl rfl (g_d rfl ?_)
       try dsimp only [Qae,Qaf]
       refine Qaa (v:=int .i64 r48.2) rfl rfl rfl (g_d rfl (Qab (Qad (Qag [0,1,2,3,4,5,6,7,8] rfl ?_))))
       refine Qaa (v:=v7) rfl rfl rfl (g_d rfl ?_)
       refine QaG rfl rfl (es:=((encA (encI .i16)) r6.2)) rfl rfl (fun _=>rfl) (n:=4) (fun _=>rfl) ((fkA (n:=4) (he:=(fkI .i16).len) (h1:=(fkI .i16).one)).len _) (cells_all (hs.cells 2 rfl)) (g_d rfl ?_)
       try dsimp only [Qae,Qaf]
       refine Qaa (v:=int .i64 r46) rfl rfl rfl (g_d rfl ?_)
       obtain ⟨r51,Hr51,H⟩:=H
       refine QaB (args:=[v7,agg ((encA (encI .i16)) r6.2).toArray,int .i64 r46]) rfl rfl (QaC rfl (callFunc_enter Tryz.func18 rfl rfl) rfl) (Qbv.calls (a1:=r6.1) (a3:=r6.2) (a4:=r46) (hs.row 1 rfl) Hr51) ?_
       rintro _ w ⟨v52,rfl,hs2⟩
       have hs:St _ [_,_,_,_] _:=hs.call hs2
       refine g_d rfl ?_
       refine Qaa (v:=tuple #[v52,int .i64 r51.2]) rfl rfl rfl (g_d rfl ?_)
       refine Qaa (v:=v52) rfl rfl rfl (g_d rfl ?_)
       refine Qaa (v:=int .i64 r51.2) rfl rfl rfl (g_d rfl ?_)
       refine Qaa (v:=v52) rfl rfl rfl (g_d rfl ?_)
       try dsimp only [Qae,Qaf]
       refine Qaa (v:=int .i64 r51.2) rfl rfl rfl (g_d rfl (Qab (Qad (Qag [0,1,2,3,4,5,6,7,8] rfl ?_))))
       refine Qaa (v:=v7) rfl rfl rfl (g_d rfl ?_)
       refine QaG rfl rfl (es:=((encA (encI .i16)) r6.2)) rfl rfl (fun _=>rfl) (n:=4) (fun _=>rfl) ((fkA (n:=4) (he:=(fkI .i16).len) (h1:=(fkI .i16).one)).len _) (cells_all (hs.cells 3 rfl)) (g_d rfl ?_)
       try dsimp only [Qae,Qaf]
       refine Qaa (v:=int .i64 r46) rfl rfl rfl (g_d rfl ?_)
       refine QaB (args:=[v7,agg ((encA (encI .i16)) r6.2).toArray,int .i64 r46]) rfl rfl (QaC rfl (callFunc_enter Tryz.func19 rfl rfl) rfl) (QbF.calls (a1:=r6.1) (a3:=r6.2) (a4:=r46) (hs.row 2 rfl) H) ?_
       rintro _ w ⟨r54,H,v55,rfl,hs2⟩
       try dsimp only at H
       have hs:St _ [_,_,_,_,_] _:=hs.call hs2
       refine g_d rfl ?_
       refine Qaa (v:=tuple #[v55,int .i64 r54.2]) rfl rfl rfl (g_d rfl ?_)
       refine Qaa (v:=v55) rfl rfl rfl (g_d rfl ?_)
       refine Qaa (v:=int .i64 r54.2) rfl rfl rfl (g_d rfl ?_)
       refine Qaa (v:=v55) rfl rfl rfl (g_d rfl ?_)
       try dsimp only [Qae,Qaf]
       refine Qaa (v:=int .i64 r54.2) rfl rfl rfl (g_d rfl (Qab (Qad (Qad (Qag [0,1,2,3,4,5,6,7,8,9,10,11,12,13,14,15,16,17,18,19,20,21,22,23,24,25,26,27,28,29,30,31,32,33,34,35,36,37,38,39,40,41,42,43,44,45] rfl ?_)))))
       refine Qaa (v:=int .i64 r47.2) rfl rfl rfl (g_d rfl ?_)
       refine Qap (B:=r47.2 !=0) rfl rfl rfl ?_ ?_
       ·
        intro hb
        rw [if_neg (b_bne_t hb)] at H
        refine g_d rfl ?_
        refine Qaa (v:=bool true) rfl rfl rfl (g_d rfl (Qac rfl rfl (g_d rfl (Qac rfl rfl (g_d rfl ?_)))))
        try dsimp only [Qae,Qaf]
        refine Qaa (v:=bool true) rfl rfl rfl (g_d rfl ?_)
        refine Qaa (v:=bool true) rfl rfl rfl (g_d rfl (Qac rfl rfl (g_d rfl (Qac rfl rfl (g_d rfl (Qac rfl rfl (g_d rfl ?_)))))))
        try dsimp only [Qae,Qaf]
        refine Qaa (v:=bool true) rfl rfl rfl (g_d rfl ?_)
        refine Qaa (v:=bool true) rfl rfl rfl (g_d rfl (Qac rfl rfl (g_d rfl (Qac rfl rfl (g_d rfl ?_)))))
        try dsimp only [Qae,Qaf]
        refine Qaa (v:=bool true) rfl rfl rfl (g_d rfl ?_)
        refine Qaa (v:=bool true) rfl rfl rfl (g_d rfl (Qac rfl rfl (g_d rfl (Qac rfl rfl (g_d rfl (Qac rfl rfl (g_d rfl ?_)))))))
        try dsimp only [Qae,Qaf]
        refine Qac rfl rfl (g_d rfl ?_)
        refine Qaa (v:=bool true) rfl rfl rfl (g_d rfl ?_)
        try dsimp only [Qae,Qaf]
        refine Qaa (v:=bool true) rfl rfl rfl (g_d rfl (Qac rfl rfl (g_d rfl (Qac rfl rfl (g_d rfl ?_)))))
        refine Qaa (v:=bool true) rfl rfl rfl (g_d rfl ?_)
        try dsimp only [Qae,Qaf]
        refine Qaa (v:=bool true) rfl rfl rfl (g_d rfl (Qac rfl rfl (g_d rfl (Qac rfl rfl (g_d rfl (Qac rfl rfl (g_d rfl ?_)))))))
        try dsimp only [Qae,Qaf]
        refine Qaa (v:=bool true) rfl rfl rfl (g_d rfl ?_)
        refine Qaa (v:=bool true) rfl rfl rfl (g_d rfl (Qac rfl rfl (g_d rfl (Qac rfl rfl (g_d rfl ?_)))))
        try dsimp only [Qae,Qaf]
        refine Qac rfl rfl (g_d rfl (Qac rfl rfl (g_d rfl ?_)))
        try dsimp only [Qae,Qaf]
        refine Qaa (v:=bool true) rfl rfl rfl (g_d rfl ?_)
        refine Qaa (v:=bool true) rfl rfl rfl (g_d rfl (Qac rfl rfl (g_d rfl (Qac rfl rfl (g_d rfl ?_)))))
        try dsimp only [Qae,Qaf]
        refine Qac rfl rfl (g_d rfl (Qac rfl rfl (g_d rfl (Qac rfl rfl (g_d rfl ?_)))))
        try dsimp only [Qae,Qaf]
        refine Qac rfl rfl (g_d rfl (Qac rfl rfl (g_d rfl (Qac rfl rfl (g_d rfl ?_)))))
        try dsimp only [Qae,Qaf]
        refine Qaa (v:=bool true) rfl rfl rfl (g_d rfl (Qab (Qah rfl (Qad (Qag [0] rfl ?_)))))
        refine Qaa (v:=bool false) rfl rfl rfl (g_d rfl ?_)
        try dsimp only [Qae,Qaf]
        refine Qab ?_
        refine Qas Tryz.func3 (v:=bool false) (res1 rfl rfl) ?_
        have hs:St _ [] _:=St.take (Γ':=[_,_,_,_,_]) hs
        exact ⟨_,rfl,_,H,rfl,hs⟩
       intro hb
       rw [if_pos (b_bne_f hb)] at H
       refine g_d rfl ?_
       try dsimp only [Qae,Qaf]
       refine Qaa (v:=bool false) rfl rfl rfl (g_d rfl ?_)
       refine Qaa (v:=int .i64 r47.1) rfl rfl rfl (g_d rfl ?_)
       refine Qaa (v:=bool (decide (r47.1< 1))) rfl rfl rfl (g_d rfl ?_)
       refine Qap (B:=decide (r47.1< 1)) rfl rfl rfl ?_ ?_
       ·
        intro hb
        rw [if_pos (b_dec_t hb)] at H
        refine g_d rfl ?_
        refine Qaa (v:=bool true) rfl rfl rfl (g_d rfl (Qac rfl rfl (g_d rfl (Qac rfl rfl (g_d rfl (Qac rfl rfl (g_d rfl ?_)))))))
        try dsimp only [Qae,Qaf]
        refine Qaa (v:=bool true) rfl rfl rfl (g_d rfl ?_)
        refine Qaa (v:=bool true) rfl rfl rfl (g_d rfl (Qac rfl rfl (g_d rfl (Qac rfl rfl (g_d rfl ?_)))))
        try dsimp only [Qae,Qaf]
        refine Qaa (v:=bool true) rfl rfl rfl (g_d rfl ?_)
        refine Qaa (v:=bool true) rfl rfl rfl (g_d rfl (Qac rfl rfl (g_d rfl (Qac rfl rfl (g_d rfl (Qac rfl rfl (g_d rfl ?_)))))))
        try dsimp only [Qae,Qaf]
        refine Qac rfl rfl (g_d rfl ?_)
        refine Qaa (v:=bool true) rfl rfl rfl (g_d rfl ?_)
        try dsimp only [Qae,Qaf]
        refine Qaa (v:=bool true) rfl rfl rfl (g_d rfl (Qac rfl rfl (g_d rfl (Qac rfl rfl (g_d rfl ?_)))))
        refine Qaa (v:=bool true) rfl rfl rfl (g_d rfl ?_)
        try dsimp only [Qae,Qaf]
        refine Qaa (v:=bool true) rfl rfl rfl (g_d rfl (Qac rfl rfl (g_d rfl (Qac rfl rfl (g_d rfl (Qac rfl rfl (g_d rfl ?_)))))))
        try dsimp only [Qae,Qaf]
        refine Qaa (v:=bool true) rfl rfl rfl (g_d rfl ?_)
        refine Qaa (v:=bool true) rfl rfl rfl (g_d rfl (Qac rfl rfl (g_d rfl (Qac rfl rfl (g_d rfl ?_)))))
        try dsimp only [Qae,Qaf]
        refine Qac rfl rfl (g_d rfl (Qac rfl rfl (g_d rfl ?_)))
        try dsimp only [Qae,Qaf]
        refine Qaa (v:=bool true) rfl rfl rfl (g_d rfl ?_)
        refine Qaa (v:=bool true) rfl rfl rfl (g_d rfl (Qac rfl rfl (g_d rfl (Qac rfl rfl (g_d rfl ?_)))))
        try dsimp only [Qae,Qaf]
        refine Qac rfl rfl (g_d rfl (Qac rfl rfl (g_d rfl (Qac rfl rfl (g_d rfl ?_)))))
        try dsimp only [Qae,Qaf]
        refine Qac rfl rfl (g_d rfl (Qac rfl rfl (g_d rfl (Qac rfl rfl (g_d rfl ?_)))))
        try dsimp only [Qae,Qaf]
        refine Qaa (v:=bool true) rfl rfl rfl (g_d rfl (Qab (Qah rfl (Qad (Qag [0] rfl ?_)))))
        refine Qaa (v:=bool false) rfl rfl rfl (g_d rfl ?_)
        try dsimp only [Qae,Qaf]
        refine Qab ?_
        refine Qas Tryz.func3 (v:=bool false) (res1 rfl rfl) ?_
        have hs:St _ [] _:=St.take (Γ':=[_,_,_,_,_]) hs
        exact ⟨_,rfl,_,H,rfl,hs⟩
       intro hb
       rw [if_neg (b_dec_f hb)] at H
       refine g_d rfl ?_
       try dsimp only [Qae,Qaf]
       refine Qaa (v:=bool false) rfl rfl rfl (g_d rfl ?_)
       refine Qaa (v:=int .i64 r48.2) rfl rfl rfl (g_d rfl ?_)
       refine Qaa (v:=int .i64 r51.2) rfl rfl rfl (g_d rfl ?_)
       refine Qaa (v:=bool (r48.2 !=r51.2)) rfl rfl rfl (g_d rfl ?_)
       refine Qap (B:=r48.2 !=r51.2) rfl rfl rfl ?_ ?_
       ·
        intro hb
        rw [if_neg (b_bne_t hb)] at H
        refine g_d rfl ?_
        refine Qaa (v:=bool true) rfl rfl rfl (g_d rfl (Qac rfl rfl (g_d rfl (Qac rfl rfl (g_d rfl ?_)))))
        try dsimp only [Qae,Qaf]
        refine Qaa (v:=bool true) rfl rfl rfl (g_d rfl ?_)
        refine Qaa (v:=bool true) rfl rfl rfl (g_d rfl (Qac rfl rfl (g_d rfl (Qac rfl rfl (g_d rfl (Qac rfl rfl (g_d rfl ?_)))))))
        try dsimp only [Qae,Qaf]
        refine Qac rfl rfl (g_d rfl ?_)
        refine Qaa (v:=bool true) rfl rfl rfl (g_d rfl ?_)
        try dsimp only [Qae,Qaf]
        refine Qaa (v:=bool true) rfl rfl rfl (g_d rfl (Qac rfl rfl (g_d rfl (Qac rfl rfl (g_d rfl ?_)))))
        refine Qaa (v:=bool true) rfl rfl rfl (g_d rfl ?_)
        try dsimp only [Qae,Qaf]
        refine Qaa (v:=bool true) rfl rfl rfl (g_d rfl (Qac rfl rfl (g_d rfl (Qac rfl rfl (g_d rfl (Qac rfl rfl (g_d rfl ?_)))))))
        try dsimp only [Qae,Qaf]
        refine Qaa (v:=bool true) rfl rfl rfl (g_d rfl ?_)
        refine Qaa (v:=bool true) rfl rfl rfl (g_d rfl (Qac rfl rfl (g_d rfl (Qac rfl rfl (g_d rfl ?_)))))
        try dsimp only [Qae,Qaf]
        refine Qac rfl rfl (g_d rfl (Qac rfl rfl (g_d rfl ?_)))
        try dsimp only [Qae,Qaf]
        refine Qaa (v:=bool true) rfl rfl rfl (g_d rfl ?_)
        refine Qaa (v:=bool true) rfl rfl rfl (g_d rfl (Qac rfl rfl (g_d rfl (Qac rfl rfl (g_d rfl ?_)))))
        try dsimp only [Qae,Qaf]
        refine Qac rfl rfl (g_d rfl (Qac rfl rfl (g_d rfl (Qac rfl rfl (g_d rfl ?_)))))
        try dsimp only [Qae,Qaf]
        refine Qac rfl rfl (g_d rfl (Qac rfl rfl (g_d rfl (Qac rfl rfl (g_d rfl ?_)))))
        try dsimp only [Qae,Qaf]
        refine Qaa (v:=bool true) rfl rfl rfl (g_d rfl (Qab (Qah rfl (Qad (Qag [0] rfl ?_)))))
        refine Qaa (v:=bool false) rfl rfl rfl (g_d rfl ?_)
        try dsimp only [Qae,Qaf]
        refine Qab ?_
        refine Qas Tryz.func3 (v:=bool false) (res1 rfl rfl) ?_
        have hs:St _ [] _:=St.take (Γ':=[_,_,_,_,_]) hs
        exact ⟨_,rfl,_,H,rfl,hs⟩
       intro hb
       rw [if_pos (b_bne_f hb)] at H
       refine g_d rfl ?_
       try dsimp only [Qae,Qaf]
       refine Qaa (v:=bool false) rfl rfl rfl (g_d rfl ?_)
       refine Qaa (v:=int .i64 r48.2) rfl rfl rfl (g_d rfl ?_)
       refine Qaa (v:=bool (r48.2 !=0)) rfl rfl rfl (g_d rfl ?_)
       refine Qap (B:=r48.2 !=0) rfl rfl rfl ?_ ?_
       ·
        intro hb
        rw [if_neg (b_bne_t hb)] at H
        refine g_d rfl ?_
        refine Qaa (v:=bool true) rfl rfl rfl (g_d rfl (Qac rfl rfl (g_d rfl (Qac rfl rfl (g_d rfl (Qac rfl rfl (g_d rfl ?_)))))))
        try dsimp only [Qae,Qaf]
        refine Qac rfl rfl (g_d rfl ?_)
        refine Qaa (v:=bool true) rfl rfl rfl (g_d rfl ?_)
        try dsimp only [Qae,Qaf]
        refine Qaa (v:=bool true) rfl rfl rfl (g_d rfl (Qac rfl rfl (g_d rfl (Qac rfl rfl (g_d rfl ?_)))))
        refine Qaa (v:=bool true) rfl rfl rfl (g_d rfl ?_)
        try dsimp only [Qae,Qaf]
        refine Qaa (v:=bool true) rfl rfl rfl (g_d rfl (Qac rfl rfl (g_d rfl (Qac rfl rfl (g_d rfl (Qac rfl rfl (g_d rfl ?_)))))))
        try dsimp only [Qae,Qaf]
        refine Qaa (v:=bool true) rfl rfl rfl (g_d rfl ?_)
        refine Qaa (v:=bool true) rfl rfl rfl (g_d rfl (Qac rfl rfl (g_d rfl (Qac rfl rfl (g_d rfl ?_)))))
        try dsimp only [Qae,Qaf]
        refine Qac rfl rfl (g_d rfl (Qac rfl rfl (g_d rfl ?_)))
        try dsimp only [Qae,Qaf]
        refine Qaa (v:=bool true) rfl rfl rfl (g_d rfl ?_)
        refine Qaa (v:=bool true) rfl rfl rfl (g_d rfl (Qac rfl rfl (g_d rfl (Qac rfl rfl (g_d rfl ?_)))))
        try dsimp only [Qae,Qaf]
        refine Qac rfl rfl (g_d rfl (Qac rfl rfl (g_d rfl (Qac rfl rfl (g_d rfl ?_)))))
        try dsimp only [Qae,Qaf]
        refine Qac rfl rfl (g_d rfl (Qac rfl rfl (g_d rfl (Qac rfl rfl (g_d rfl ?_)))))
        try dsimp only [Qae,Qaf]
        refine Qaa (v:=bool true) rfl rfl rfl (g_d rfl (Qab (Qah rfl (Qad (Qag [0] rfl ?_)))))
        refine Qaa (v:=bool false) rfl rfl rfl (g_d rfl ?_)
        try dsimp only [Qae,Qaf]
        refine Qab ?_
        refine Qas Tryz.func3 (v:=bool false) (res1 rfl rfl) ?_
        have hs:St _ [] _:=St.take (Γ':=[_,_,_,_,_]) hs
        exact ⟨_,rfl,_,H,rfl,hs⟩
       intro hb
       as_aux_lemma =>
        rw [if_pos (b_bne_f hb)] at H
        refine g_d rfl ?_
        try dsimp only [Qae,Qaf]
        refine Qaa (v:=bool false) rfl rfl rfl (g_d rfl ?_)
        refine Qaa (v:=v49) rfl rfl rfl (g_d rfl ?_)
        refine Qaa (v:=v52) rfl rfl rfl (g_d rfl ?_)
        obtain ⟨r57,Hr57,H⟩:=H
        refine QaB (args:=[v49,v52]) rfl rfl (QaC rfl (callFunc_enter Tryz.func20 rfl rfl) rfl) (QbH.calls (a1:=r48.1) (a3:=r51.1) (hs.row 2 rfl) (hs.row 1 rfl) Hr57) ?_
        rintro _ w ⟨rfl,hs2⟩
        have hs:St _ [_,_,_,_,_] _:=hs.call hs2
        refine g_d rfl ?_
        refine Qaa (v:=bool (!r57)) rfl rfl rfl (g_d rfl ?_)
        try dsimp only [Qae,Qaf]
        refine Qap (B:=!r57) rfl rfl rfl ?_ ?_
        ·
         intro hb
         rw [if_neg (b_not_t hb)] at H
         refine g_d rfl ?_
         try dsimp only [Qae,Qaf]
         refine Qaa (v:=bool true) rfl rfl rfl (g_d rfl (Qac rfl rfl (g_d rfl (Qac rfl rfl (g_d rfl ?_)))))
         refine Qaa (v:=bool true) rfl rfl rfl (g_d rfl ?_)
         try dsimp only [Qae,Qaf]
         refine Qaa (v:=bool true) rfl rfl rfl (g_d rfl (Qac rfl rfl (g_d rfl (Qac rfl rfl (g_d rfl (Qac rfl rfl (g_d rfl ?_)))))))
         try dsimp only [Qae,Qaf]
         refine Qaa (v:=bool true) rfl rfl rfl (g_d rfl ?_)
         refine Qaa (v:=bool true) rfl rfl rfl (g_d rfl (Qac rfl rfl (g_d rfl (Qac rfl rfl (g_d rfl ?_)))))
         try dsimp only [Qae,Qaf]
         refine Qac rfl rfl (g_d rfl (Qac rfl rfl (g_d rfl ?_)))
         try dsimp only [Qae,Qaf]
         refine Qaa (v:=bool true) rfl rfl rfl (g_d rfl ?_)
         refine Qaa (v:=bool true) rfl rfl rfl (g_d rfl (Qac rfl rfl (g_d rfl (Qac rfl rfl (g_d rfl ?_)))))
         try dsimp only [Qae,Qaf]
         refine Qac rfl rfl (g_d rfl (Qac rfl rfl (g_d rfl (Qac rfl rfl (g_d rfl ?_)))))
         try dsimp only [Qae,Qaf]
         refine Qac rfl rfl (g_d rfl (Qac rfl rfl (g_d rfl (Qac rfl rfl (g_d rfl ?_)))))
         try dsimp only [Qae,Qaf]
         refine Qaa (v:=bool true) rfl rfl rfl (g_d rfl (Qab (Qah rfl (Qad (Qag [0] rfl ?_)))))
         refine Qaa (v:=bool false) rfl rfl rfl (g_d rfl ?_)
         try dsimp only [Qae,Qaf]
         refine Qab ?_
         refine Qas Tryz.func3 (v:=bool false) (res1 rfl rfl) ?_
         have hs:St _ [] _:=St.take (Γ':=[_,_,_,_,_]) hs
         exact ⟨_,rfl,_,H,rfl,hs⟩
        intro hb
        rw [if_pos (b_not_f hb)] at H
        refine g_d rfl ?_
        refine Qaa (v:=bool false) rfl rfl rfl (g_d rfl ?_)
        refine Qaa (v:=int .i64 r54.2) rfl rfl rfl (g_d rfl ?_)
        refine Qaa (v:=bool (r54.2 !=0)) rfl rfl rfl (g_d rfl ?_)
        try dsimp only [Qae,Qaf]
        refine Qap (B:=r54.2 !=0) rfl rfl rfl ?_ ?_
        ·
         intro hb
         rw [if_neg (b_bne_t hb)] at H
         refine g_d rfl ?_
         refine Qaa (v:=bool true) rfl rfl rfl (g_d rfl (Qac rfl rfl (g_d rfl (Qac rfl rfl (g_d rfl ?_)))))
         try dsimp only [Qae,Qaf]
         refine Qac rfl rfl (g_d rfl ?_)
         refine Qaa (v:=bool true) rfl rfl rfl (g_d rfl ?_)
         try dsimp only [Qae,Qaf]
         refine Qaa (v:=bool true) rfl rfl rfl (g_d rfl (Qac rfl rfl (g_d rfl (Qac rfl rfl (g_d rfl (Qac rfl rfl (g_d rfl ?_)))))))
         try dsimp only [Qae,Qaf]
         refine Qac rfl rfl (g_d rfl ?_)
         refine Qaa (v:=bool true) rfl rfl rfl (g_d rfl ?_)
         try dsimp only [Qae,Qaf]
         refine Qaa (v:=bool true) rfl rfl rfl (g_d rfl (Qac rfl rfl (g_d rfl (Qac rfl rfl (g_d rfl (Qac rfl rfl (g_d rfl ?_)))))))
         refine Qac rfl rfl (g_d rfl ?_)
         try dsimp only [Qae,Qaf]
         refine Qac rfl rfl (g_d rfl (Qac rfl rfl (g_d rfl (Qac rfl rfl (g_d rfl ?_)))))
         try dsimp only [Qae,Qaf]
         refine Qac rfl rfl (g_d rfl ?_)
         refine Qaa (v:=bool true) rfl rfl rfl (g_d rfl ?_)
         try dsimp only [Qae,Qaf]
         refine Qab (Qah rfl (Qad (Qag [0] rfl ?_)))
         refine Qaa (v:=bool false) rfl rfl rfl (g_d rfl (Qab ?_))
         refine Qas Tryz.func3 (v:=bool false) (res1 rfl rfl) ?_
         have hs:St _ [] _:=St.take (Γ':=[_,_,_,_,_]) hs
         exact ⟨_,rfl,_,H,rfl,hs⟩
        intro hb
        rw [if_pos (b_bne_f hb)] at H
        refine g_d rfl ?_
        refine Qaa (v:=bool false) rfl rfl rfl (g_d rfl ?_)
        refine Qaa (v:=v52) rfl rfl rfl (g_d rfl ?_)
        refine Qbc (hs.row 1 rfl) rfl rfl rfl rfl rfl (g_d rfl ?_)
        try dsimp only [Qae,Qaf]
        refine Qaa (v:=bool ((r51.1.length:Int)==0)) rfl rfl rfl (g_d rfl ?_)
        refine Qap (B:=(r51.1.length:Int)==0) rfl rfl rfl ?_ ?_
        ·
         intro hb
         rw [if_pos (b_beq_t hb)] at H
         refine g_d rfl ?_
         refine Qaa (v:=bool true) rfl rfl rfl (g_d rfl (Qac rfl rfl (g_d rfl (Qac rfl rfl (g_d rfl ?_)))))
         try dsimp only [Qae,Qaf]
         refine Qac rfl rfl (g_d rfl (Qac rfl rfl (g_d rfl ?_)))
         try dsimp only [Qae,Qaf]
         refine Qaa (v:=bool true) rfl rfl rfl (g_d rfl ?_)
         refine Qaa (v:=bool true) rfl rfl rfl (g_d rfl (Qac rfl rfl (g_d rfl (Qac rfl rfl (g_d rfl ?_)))))
         try dsimp only [Qae,Qaf]
         refine Qac rfl rfl (g_d rfl (Qac rfl rfl (g_d rfl (Qac rfl rfl (g_d rfl ?_)))))
         try dsimp only [Qae,Qaf]
         refine Qac rfl rfl (g_d rfl (Qac rfl rfl (g_d rfl (Qac rfl rfl (g_d rfl ?_)))))
         try dsimp only [Qae,Qaf]
         refine Qaa (v:=bool true) rfl rfl rfl (g_d rfl (Qab (Qah rfl (Qad (Qag [0] rfl ?_)))))
         refine Qaa (v:=bool false) rfl rfl rfl (g_d rfl ?_)
         try dsimp only [Qae,Qaf]
         refine Qab ?_
         refine Qas Tryz.func3 (v:=bool false) (res1 rfl rfl) ?_
         have hs:St _ [] _:=St.take (Γ':=[_,_,_,_,_]) hs
         exact ⟨_,rfl,_,H,rfl,hs⟩
        intro hb
        rw [if_neg (b_beq_f hb)] at H
        refine g_d rfl ?_
        try dsimp only [Qae,Qaf]
        refine Qaa (v:=bool false) rfl rfl rfl (g_d rfl ?_)
        refine Qaa (v:=v52) rfl rfl rfl (g_d rfl ?_)
        obtain ⟨g15,H⟩:=ite_getD H
        refine Qbb (fkI .i64) 0 (hs.row 1 rfl) rfl (fun _=>rfl) g15.1 g15.2 rfl rfl rfl rfl rfl ?_
        intro p58 hp58 lp58 op58
        refine g_d rfl ?_
        refine Qat rfl rfl (v:=int .i64 (rdL r51.1 0 0)) rfl rfl (fun _=>rfl) hp58 (g_d rfl ?_)
        try dsimp only [Qae,Qaf]
        refine Qaa (v:=bool ((rdL r51.1 0 0) !=0)) rfl rfl rfl (g_d rfl ?_)
        refine Qap (B:=(rdL r51.1 0 0) !=0) rfl rfl rfl ?_ ?_
        ·
         intro hb
         rw [if_neg (b_bne_t hb)] at H
         refine g_d rfl ?_
         refine Qaa (v:=bool true) rfl rfl rfl (g_d rfl (Qac rfl rfl (g_d rfl (Qac rfl rfl (g_d rfl ?_)))))
         try dsimp only [Qae,Qaf]
         refine Qac rfl rfl (g_d rfl (Qac rfl rfl (g_d rfl (Qac rfl rfl (g_d rfl ?_)))))
         try dsimp only [Qae,Qaf]
         refine Qac rfl rfl (g_d rfl (Qac rfl rfl (g_d rfl (Qac rfl rfl (g_d rfl ?_)))))
         try dsimp only [Qae,Qaf]
         refine Qaa (v:=bool true) rfl rfl rfl (g_d rfl (Qab (Qah rfl (Qad (Qag [0] rfl ?_)))))
         refine Qaa (v:=bool false) rfl rfl rfl (g_d rfl ?_)
         try dsimp only [Qae,Qaf]
         refine Qab ?_
         refine Qas Tryz.func3 (v:=bool false) (res1 rfl rfl) ?_
         have hs:St _ [] _:=St.take (Γ':=[_,_,_,_,_]) hs
         exact ⟨_,rfl,_,H,rfl,hs⟩
        intro hb
        rw [if_pos (b_bne_f hb)] at H
        refine g_d rfl ?_
        try dsimp only [Qae,Qaf]
        refine Qaa (v:=bool false) rfl rfl rfl (g_d rfl ?_)
        refine Qaa (v:=v52) rfl rfl rfl (g_d rfl ?_)
        refine Qbc (hs.row 1 rfl) rfl rfl rfl rfl rfl (g_d rfl ?_)
        refine Qaa (v:=v55) rfl rfl rfl (g_d rfl ?_)
        refine Qbc (hs.row 0 rfl) rfl rfl rfl rfl rfl (g_d rfl ?_)
        try dsimp only [Qae,Qaf]
        refine Qaa (v:=int .i64 (i64w ((r51.1.length:Int)+(r54.1.length:Int)))) rfl rfl rfl (g_d rfl ?_)
        refine Qaa (v:=int .i64 r46) rfl rfl rfl (g_d rfl ?_)
        refine Qaa (v:=int .i64 (i64w (r46+1))) rfl rfl rfl (g_d rfl ?_)
        try dsimp only [Qae,Qaf]
        refine Qap (B:=(i64w ((r51.1.length:Int)+(r54.1.length:Int))) !=(i64w (r46+1))) rfl rfl rfl ?_ ?_
        ·
         intro hb
         rw [if_neg (b_bne_t hb)] at H
         refine g_d rfl ?_
         try dsimp only [Qae,Qaf]
         refine Qaa (v:=bool true) rfl rfl rfl (g_d rfl (Qab (Qah rfl (Qad (Qag [0] rfl ?_)))))
         refine Qaa (v:=bool false) rfl rfl rfl (g_d rfl ?_)
         try dsimp only [Qae,Qaf]
         refine Qab ?_
         refine Qas Tryz.func3 (v:=bool false) (res1 rfl rfl) ?_
         have hs:St _ [] _:=St.take (Γ':=[_,_,_,_,_]) hs
         exact ⟨_,rfl,_,H,rfl,hs⟩
        intro hb
        rw [if_pos (b_bne_f hb)] at H
        refine g_d rfl ?_
        refine Qaa (v:=bool false) rfl rfl rfl (g_d rfl ?_)
        try dsimp only [Qae,Qaf]
        refine Qab (Qal rfl (Qay (Qad (Qad (Qag [0] rfl ?_)))))
        refine Qaa (v:=int .i64 0) rfl rfl rfl (g_d rfl (Qab ?_))
        have Ho:=H
        refine Qax (J:=fun t w=>Qam.a3 N Q∧Fr t (fun O=>(oT O 0 (oT O 1 (oT O 2 (oT O 3 (oT O 4 (oT O 5 (oT O 6 (oT O 7 (oT O 8 (oT O 9 (oT O 10 (oT O 11 (oT O 12 (oT O 13 (oT O 14 (oT O 15 (oT O 16 (oT O 17 (oT O 18 (oT O 19 (oT O 20 (oT O 21 (oT O 22 (oT O 23 (oT O 24 (oT O 25 (oT O 26 (oT O 27 (oT O 28 (oT O 29 (oT O 30 (oT O 31 (oT O 32 (oT O 33 (oT O 34 (O 350::O 351::O 352::O 353::O 354::O 355::O 356::O 357::O 358::[]))))))))))))))))))))))))))))))))))):List Value))∧St w0 [] w) ?_ ?_
        ·
         rintro t w ⟨H,hf,hs⟩
         obtain ⟨O,rfl⟩:=hf.open
         try dsimp only [oT]
         unfold Qam.a3 at H
         refine Qad (Qag [0] rfl ?_)
         refine Qaa (v:=bool true) rfl rfl rfl (g_d rfl (Qab ?_))
         refine Qas Tryz.func3 (v:=bool true) (res1 rfl rfl) ?_
         have hs:St _ [] _:=St.take (Γ':=[]) hs
         exact ⟨_,rfl,_,H,rfl,hs⟩
        intro ha1_
        have hs:=hs.pull 0 rfl
        have hs:=hs.pull 1 rfl
        have hs:St _ [_,_] _:=St.take (Γ':=[_,_,_]) hs
        refine QaL (I:=fun n_ t w=>∃ x59:Int,roundsD (fun s=>Qam.b3 N r51 r47 r46 r54 s) n_ x59 (Ex.finD (fun s=>Qam.a3 N Q) Q)∧Fr t (fun O=>(oT O 0 (oT O 1 (O 20::O 21::O 22::O 23::O 24::O 25::O 26::O 27::int .i64 r46::int .i64 r47.1::O 30::O 31::O 32::v52::O 34::v55::O 36::int .i64 x59::O 38::O 39::oT O 4 (oT O 5 (oT O 6 (oT O 7 (oT O 8 (oT O 9 (oT O 10 (oT O 11 (oT O 12 (oT O 13 (oT O 14 (oT O 15 (oT O 16 (oT O 17 (oT O 18 (oT O 19 (oT O 20 (oT O 21 (oT O 22 (oT O 23 (oT O 24 (oT O 25 (oT O 26 (oT O 27 (oT O 28 (oT O 29 (oT O 30 (oT O 31 (oT O 32 (oT O 33 (oT O 34 (O 350::O 351::O 352::O 353::O 354::O 355::O 356::O 357::O 358::[]))))))))))))))))))))))))))))))))):List Value))∧St w0 [Row 2 (K.int .i64) v52 r51.1,Row 2 (K.int .i64) v55 r54.1] w) N ⟨0,Ho,rfl,hs⟩ ?_ ?_
        ·
         rintro _ _ ⟨x59,h,_⟩
         exact (h:False).elim
        intro n_ ih1_
        rintro t w ⟨x59,Ho,hf,hs⟩
        obtain ⟨O,rfl⟩:=hf.open
        try dsimp only [oT]
        obtain ⟨x91_,hQ1_,H⟩:=roundsD_succ Ho
        have H:Qam.b3 N r51 r47 r46 r54 x59 x91_:=H
        unfold Qam.b3 at H
        refine Qad (Qad (Qag [0,1,2,3] rfl ?_))
        refine Qaa (v:=int .i64 x59) rfl rfl rfl (g_d rfl ?_)
        refine Qaa (v:=v52) rfl rfl rfl (g_d rfl ?_)
        refine Qbc (hs.row 0 rfl) rfl rfl rfl rfl rfl (g_d rfl ?_)
        try dsimp only [Qae,Qaf]
        refine Qap (B:=decide (x59< (r51.1.length:Int))) rfl rfl rfl ?_ ?_
        · as_aux_lemma =>
         intro hb
         rw [if_pos (b_dec_t hb)] at H
         refine g_d rfl ?_
         try dsimp only [Qae,Qaf]
         refine Qab (Qah rfl (Qay (Qad ?_)))
         refine Qax (J:=(fun t w=>∃ x64:Bool,∃ x65:Bool,Qam.j5 N x59 x64 x65 x91_∧Fr t (fun O=>(oT O 0 (oT O 1 (O 20::O 21::O 22::O 23::O 24::O 25::O 26::O 27::int .i64 r46::int .i64 r47.1::O 30::O 31::O 32::v52::O 34::v55::O 36::int .i64 x59::O 38::O 39::oT O 4 (oT O 5 (oT O 6 (oT O 7 (oT O 8 (oT O 9 (oT O 10 (oT O 11 (oT O 12 (oT O 13 (oT O 14 (oT O 15 (oT O 16 (oT O 17 (oT O 18 (oT O 19 (oT O 20 (oT O 21 (oT O 22 (oT O 23 (oT O 24 (oT O 25 (oT O 26 (oT O 27 (oT O 28 (oT O 29 (oT O 30 (oT O 31 (O 320::O 321::O 322::O 323::O 324::O 325::O 326::O 327::v52::int .i64 x59::O 330::int .i64 (rdL r51.1 x59 0)::int .i64 r46::bool (decide ((rdL r51.1 x59 0)>r46))::O 334::O 335::int .i64 x59::bool x64::bool x64::O 339::O 340::O 341::O 342::O 343::O 344::O 345::O 346::O 347::O 348::bool x65::O 350::O 351::v55::v52::int .i64 x59::O 355::int .i64 (rdL r51.1 x59 0)::bool false::O 358::[])))))))))))))))))))))))))))))):List Value))∧St w0 [Row 2 (K.int .i64) v52 r51.1,Row 2 (K.int .i64) v55 r54.1] w)) ?_ ?_
         ·
          rintro t w ⟨x64,x65,H,hf,hs⟩
          obtain ⟨O,rfl⟩:=hf.open
          try dsimp only [oT]
          unfold Qam.j5 at H
          refine Qag [0,1,2] rfl ?_
          refine Qaa (v:=int .i64 x59) rfl rfl rfl (g_d rfl ?_)
          refine Qaa (v:=int .i64 (i64w (x59+1))) rfl rfl rfl (g_d rfl ?_)
          refine Qaa (v:=int .i64 (i64w (x59+1))) rfl rfl rfl (g_d rfl ?_)
          try dsimp only [Qae,Qaf]
          refine Qab ?_
          have hs:=hs.pull 1 rfl
          have hs:=hs.pull 1 rfl
          have hs:St _ [_,_] _:=St.take (Γ':=[]) hs
          exact ih1_ _ _ ⟨i64w (x59+1),cast (congrFun hQ1_ _) H,rfl,hs⟩
         intro ha
         refine Qad ?_
         refine Qb2 (n:=39) rfl [0,1,2,3,4,5,6,7,8,9,10,11,12,13,14,15,16,17,18,19,20,21,22,23,24,25,26,27,28,29,30,31,32,33,34,35,36,37,38] [0,1,2,3,4,5,6,7,8,9,10,11,12,13,14,15,16,17,18,19,20,21,22,23,24,25,26,27,28,29,30,31,32,33,34,35,36,37,38] rfl rfl ?_
         intro rest w hh hbw hO
         have hs:=hs.samew hh hbw
         try dsimp only [Qae,Qaf]
         obtain ⟨gd17,H⟩:=ite_getD H
         obtain ⟨ad18_,ad18_N,ad18_C,had18_⟩:=sl_at (hs.row 0 rfl) gd17.1 gd17.2
         refine Qbe ?_
         intro T hT
         refine QbB (m0:=0) hO rfl 31 [0,1,2,3,4] [0,0,3,7,0,31,63,127,255,255,1023,2047,255,8191,16383,32767,65535,131071,262143,524287,524287,2097151,4194303,524287,524287,17301503,59244543,126353407,268435455,536870911,1073741823,2147483647,4294967295,4294967295,4294967295,30064771071,64424509439,137438953471,274877906943] (by decide+kernel) (fun D t w=>∃ O:Nat→Value,t=(oT O 0 (oT O 1 (O 20::O 21::O 22::O 23::O 24::O 25::O 26::O 27::int .i64 r46::int .i64 r47.1::O 30::O 31::O 32::v52::O 34::v55::O 36::int .i64 x59::O 38::O 39::oT O 4 (oT O 5 (oT O 6 (oT O 7 (oT O 8 (oT O 9 (oT O 10 (oT O 11 (oT O 12 (oT O 13 (oT O 14 (oT O 15 (oT O 16 (oT O 17 (oT O 18 (oT O 19 (oT O 20 (oT O 21 (oT O 22 (oT O 23 (oT O 24 (oT O 25 (oT O 26 (oT O 27 (oT O 28 (oT O 29 (oT O 30 (O 310::O 311::O 312::O 313::int .i64 x59::v52::int .i64 (r51.1.length:Int)::bool true::O 318::O 319::cnd (D 0) v52 (O 320)::cnd (D 1) (int .i64 x59) (O 321)::cnd (D 2) (pointer (some (ad18_.add (x59.toNat*1)))) (O 322)::cnd (D 3) (int .i64 (rdL r51.1 x59 0)) (O 323)::cnd (D 4) (int .i64 r47.1) (O 324)::O 325::O 326::O 327::O 328::O 329::oT O 33 (oT O 34 (O 350::O 351::O 352::O 353::O 354::O 355::O 356::O 357::O 358::[]))))))))))))))))))))))))))))))))∧St w0 [Row 2 (K.int .i64) v52 r51.1,Row 2 (K.int .i64) v55 r54.1] w) ?_ ⟨?_,⟨?_,⟨?_,⟨?_,⟨?_,trivial⟩⟩⟩⟩⟩ ?_
         ·exact ⟨fun i=>T.getD i undef,(by subst hT;rfl),hs⟩
         ·
          rintro D t w hD hp hcl ⟨O,ht,hs⟩ rest hk
          have hp:AllDone D []:=hp
          have q2_:=ny hcl 2 0 hD
          have q3_:=ny hcl 3 0 q2_
          simp only [hD,q2_,q3_,cq,oT] at ht hs
          subst ht
          refine Qaa (v:=v52) rfl rfl rfl (g_d rfl ?_)
          try dsimp only [Qae,Qaf]
          refine hk _ _ ⟨O,?_,hs.cast ?_⟩<;>simp only [oT,lq,cq,Nat.reduceBEq,q2_,q3_]
         ·
          rintro D t w hD hp hcl ⟨O,ht,hs⟩ rest hk
          have hp:AllDone D []:=hp
          have q2_:=ny hcl 2 1 hD
          have q3_:=ny hcl 3 0 q2_
          simp only [hD,q2_,q3_,cq,oT] at ht hs
          subst ht
          refine Qaa (v:=int .i64 x59) rfl rfl rfl (g_d rfl ?_)
          try dsimp only [Qae,Qaf]
          refine hk _ _ ⟨O,?_,hs.cast ?_⟩<;>simp only [oT,lq,cq,Nat.reduceBEq,q2_,q3_]
         ·
          rintro D t w hD hp hcl ⟨O,ht,hs⟩ rest hk
          have hp:AllDone D [0,1]:=hp
          obtain ⟨p0_,p1_,_⟩:=hp
          have q3_:=ny hcl 3 0 hD
          simp only [hD,p0_,p1_,q3_,cq,oT] at ht hs
          subst ht
          refine Qby (κ:=(K.int .i64)) (m:=1) rfl (hs.row 0 rfl) rfl (fun _=>rfl) gd17.1 gd17.2 had18_ rfl rfl rfl rfl rfl (g_d rfl ?_)
          try dsimp only [Qae,Qaf]
          refine hk _ _ ⟨O,?_,hs.cast ?_⟩<;>simp only [oT,lq,cq,Nat.reduceBEq,p0_,p1_,q3_]
         ·
          rintro D t w hD hp hcl ⟨O,ht,hs⟩ rest hk
          have hp:AllDone D [2]:=hp
          obtain ⟨p2_,_⟩:=hp
          obtain ⟨p0_,p1_,_⟩:=(show D 2=true→AllDone D [0,1] from hcl 2 (by decide)) p2_
          simp only [hD,p0_,p1_,p2_,cq,oT] at ht hs
          subst ht
          refine Qat rfl rfl (v:=int .i64 (rdL r51.1 x59 0)) rfl rfl (fun _=>rfl) (cellsAt_of (fkI .i64) 0 (hs.row 0 rfl) had18_ gd17.1 gd17.2) (g_d rfl ?_)
          try dsimp only [Qae,Qaf]
          refine hk _ _ ⟨O,?_,hs.cast ?_⟩<;>simp only [oT,lq,cq,Nat.reduceBEq,p0_,p1_,p2_]
         ·
          rintro D t w hD hp hcl ⟨O,ht,hs⟩ rest hk
          have hp:AllDone D []:=hp
          simp only [hD,cq,oT] at ht hs
          subst ht
          refine Qaa (v:=int .i64 r47.1) rfl rfl rfl (g_d rfl ?_)
          try dsimp only [Qae,Qaf]
          refine hk _ _ ⟨O,?_,hs.cast ?_⟩<;>simp only [oT,lq,cq,Nat.reduceBEq]
         intro D t w rest hall hO16_ hI
         obtain ⟨O,ht,hs⟩:=hI
         have p0_:=hall 0 (by decide) rfl
         have p1_:=hall 1 (by decide) rfl
         have p2_:=hall 2 (by decide) rfl
         have p3_:=hall 3 (by decide) rfl
         have p4_:=hall 4 (by decide) rfl
         simp only [p0_,p1_,p2_,p3_,p4_,cq,oT] at ht hs
         subst ht
         obtain ⟨rest,rfl,hO19_⟩:=ord_one (m:=31) hO16_ rfl 5 (m':=63) (by decide+kernel) rfl
         clear hO16_
         obtain ⟨g20,H⟩:=ite_getD H
         refine Qaa (v:=int .i64 ((rdL r51.1 x59 0).tmod r47.1)) rfl rfl (QbP rfl rfl rfl g20) (g_d rfl ?_)
         obtain ⟨rest,rfl,hO21_⟩:=ord_one (m:=63) hO19_ rfl 6 (m':=127) (by decide+kernel) rfl
         clear hO19_
         refine Qap (B:=((rdL r51.1 x59 0).tmod r47.1) !=0) rfl rfl rfl ?_ ?_
         · as_aux_lemma =>
          intro hb
          rw [if_neg (b_bne_t hb)] at H
          refine g_d rfl ?_
          obtain ⟨rest,rfl,hO22_⟩:=ord_one (m:=127) hO21_ rfl 7 (m':=255) (by decide+kernel) rfl
          clear hO21_
          refine Qaa (v:=bool true) rfl rfl rfl (g_d rfl ?_)
          refine Qbe ?_
          intro T hT
          refine QbB (m0:=255) hO22_ rfl 8191 [8,9,10,11,12] [0,0,3,7,0,31,63,127,255,255,1023,2047,255,8191,16383,32767,65535,131071,262143,524287,524287,2097151,4194303,524287,524287,17301503,59244543,126353407,268435455,536870911,1073741823,2147483647,4294967295,4294967295,4294967295,30064771071,64424509439,137438953471,274877906943] (by decide+kernel) (fun D t w=>∃ O:Nat→Value,t=(oT O 0 (oT O 1 (O 20::O 21::O 22::O 23::O 24::O 25::O 26::O 27::int .i64 r46::int .i64 r47.1::O 30::O 31::O 32::v52::O 34::v55::O 36::int .i64 x59::O 38::O 39::oT O 4 (oT O 5 (oT O 6 (oT O 7 (oT O 8 (oT O 9 (oT O 10 (oT O 11 (oT O 12 (oT O 13 (oT O 14 (oT O 15 (oT O 16 (oT O 17 (oT O 18 (oT O 19 (oT O 20 (oT O 21 (oT O 22 (oT O 23 (oT O 24 (oT O 25 (oT O 26 (oT O 27 (oT O 28 (oT O 29 (oT O 30 (O 310::O 311::O 312::O 313::int .i64 x59::v52::int .i64 (r51.1.length:Int)::bool true::O 318::O 319::v52::int .i64 x59::pointer (some (ad18_.add (x59.toNat*1)))::int .i64 (rdL r51.1 x59 0)::int .i64 r47.1::int .i64 ((rdL r51.1 x59 0).tmod r47.1)::bool true::bool true::cnd (D 8) undef (O 328)::cnd (D 9) undef (O 329)::cnd (D 10) undef (O 330)::cnd (D 11) undef (O 331)::cnd (D 12) undef (O 332)::O 333::O 334::O 335::O 336::O 337::O 338::O 339::oT O 34 (O 350::O 351::O 352::O 353::O 354::O 355::O 356::O 357::O 358::[])))))))))))))))))))))))))))))))∧St w0 [Row 2 (K.int .i64) v52 r51.1,Row 2 (K.int .i64) v55 r54.1] w) ?_ ⟨?_,⟨?_,⟨?_,⟨?_,⟨?_,trivial⟩⟩⟩⟩⟩ ?_
          ·exact ⟨fun i=>T.getD i undef,(by subst hT;rfl),hs⟩
          ·
           rintro D t w hD hp hcl ⟨O,ht,hs⟩ rest hk
           have hp:AllDone D [7]:=hp
           obtain ⟨p7_,_⟩:=hp
           have q10_:=ny hcl 10 0 hD
           have q11_:=ny hcl 11 0 q10_
           simp only [hD,q10_,q11_,cq,oT] at ht hs
           subst ht
           refine Qac rfl rfl (g_d rfl ?_)
           try dsimp only [Qae,Qaf]
           refine hk _ _ ⟨O,?_,hs.cast ?_⟩<;>simp only [oT,cq,Nat.reduceBEq,q10_,q11_]
          ·
           rintro D t w hD hp hcl ⟨O,ht,hs⟩ rest hk
           have hp:AllDone D [7]:=hp
           obtain ⟨p7_,_⟩:=hp
           have q10_:=ny hcl 10 1 hD
           have q11_:=ny hcl 11 0 q10_
           simp only [hD,q10_,q11_,cq,oT] at ht hs
           subst ht
           refine Qac rfl rfl (g_d rfl ?_)
           try dsimp only [Qae,Qaf]
           refine hk _ _ ⟨O,?_,hs.cast ?_⟩<;>simp only [oT,cq,Nat.reduceBEq,q10_,q11_]
          ·
           rintro D t w hD hp hcl ⟨O,ht,hs⟩ rest hk
           have hp:AllDone D [8,9,7]:=hp
           obtain ⟨p8_,p9_,p7_,_⟩:=hp
           have q11_:=ny hcl 11 0 hD
           simp only [hD,p8_,p9_,q11_,cq,oT] at ht hs
           subst ht
           refine Qac rfl rfl (g_d rfl ?_)
           try dsimp only [Qae,Qaf]
           refine hk _ _ ⟨O,?_,hs.cast ?_⟩<;>simp only [oT,cq,Nat.reduceBEq,p8_,p9_,q11_]
          ·
           rintro D t w hD hp hcl ⟨O,ht,hs⟩ rest hk
           have hp:AllDone D [10,7]:=hp
           obtain ⟨p10_,p7_,_⟩:=hp
           obtain ⟨p8_,p9_,_,_⟩:=(show D 10=true→AllDone D [8,9,7] from hcl 10 (by decide)) p10_
           simp only [hD,p8_,p9_,p10_,cq,oT] at ht hs
           subst ht
           refine Qac rfl rfl (g_d rfl ?_)
           try dsimp only [Qae,Qaf]
           refine hk _ _ ⟨O,?_,hs.cast ?_⟩<;>simp only [oT,cq,Nat.reduceBEq,p8_,p9_,p10_]
          ·
           rintro D t w hD hp hcl ⟨O,ht,hs⟩ rest hk
           have hp:AllDone D [7]:=hp
           obtain ⟨p7_,_⟩:=hp
           simp only [hD,cq,oT] at ht hs
           subst ht
           refine Qac rfl rfl (g_d rfl ?_)
           try dsimp only [Qae,Qaf]
           refine hk _ _ ⟨O,?_,hs.cast ?_⟩<;>simp only [oT,cq,Nat.reduceBEq]
          intro D t w rest hall hO23_ hI
          obtain ⟨O,ht,hs⟩:=hI
          have p8_:=hall 8 (by decide) rfl
          have p9_:=hall 9 (by decide) rfl
          have p10_:=hall 10 (by decide) rfl
          have p11_:=hall 11 (by decide) rfl
          have p12_:=hall 12 (by decide) rfl
          simp only [p8_,p9_,p10_,p11_,p12_,cq,oT] at ht hs
          subst ht
          obtain ⟨rest,rfl,hO24_⟩:=ord_one (m:=8191) hO23_ rfl 13 (m':=16383) (by decide+kernel) rfl
          clear hO23_
          refine Qac rfl rfl (g_d rfl ?_)
          try dsimp only [Qae,Qaf]
          obtain ⟨rest,rfl,hO25_⟩:=ord_one (m:=16383) hO24_ rfl 14 (m':=32767) (by decide+kernel) rfl
          clear hO24_
          refine Qaa (v:=bool true) rfl rfl rfl (g_d rfl ?_)
          obtain ⟨rest,rfl,hO26_⟩:=ord_one (m:=32767) hO25_ rfl 15 (m':=65535) (by decide+kernel) rfl
          clear hO25_
          refine Qaa (v:=bool true) rfl rfl rfl (g_d rfl ?_)
          obtain ⟨rest,rfl,hO27_⟩:=ord_one (m:=65535) hO26_ rfl 16 (m':=131071) (by decide+kernel) rfl
          clear hO26_
          refine Qac rfl rfl (g_d rfl ?_)
          obtain ⟨rest,rfl,hO28_⟩:=ord_one (m:=131071) hO27_ rfl 17 (m':=262143) (by decide+kernel) rfl
          clear hO27_
          refine Qac rfl rfl (g_d rfl ?_)
          try dsimp only [Qae,Qaf]
          obtain ⟨rest,rfl,hO29_⟩:=ord_one (m:=262143) hO28_ rfl 18 (m':=524287) (by decide+kernel) rfl
          clear hO28_
          refine Qac rfl rfl (g_d rfl ?_)
          refine Qbe ?_
          intro T hT
          refine QbB (m0:=524287) hO29_ rfl 268435455 [19,20,21,22,23,24,25,26,27] [0,0,3,7,0,31,63,127,255,255,1023,2047,255,8191,16383,32767,65535,131071,262143,524287,524287,2097151,4194303,524287,524287,17301503,59244543,126353407,268435455,536870911,1073741823,2147483647,4294967295,4294967295,4294967295,30064771071,64424509439,137438953471,274877906943] (by decide+kernel) (fun D t w=>∃ O:Nat→Value,t=(oT O 0 (oT O 1 (O 20::O 21::O 22::O 23::O 24::O 25::O 26::O 27::int .i64 r46::int .i64 r47.1::O 30::O 31::O 32::v52::O 34::v55::O 36::int .i64 x59::O 38::O 39::oT O 4 (oT O 5 (oT O 6 (oT O 7 (oT O 8 (oT O 9 (oT O 10 (oT O 11 (oT O 12 (oT O 13 (oT O 14 (oT O 15 (oT O 16 (oT O 17 (oT O 18 (oT O 19 (oT O 20 (oT O 21 (oT O 22 (oT O 23 (oT O 24 (oT O 25 (oT O 26 (oT O 27 (oT O 28 (oT O 29 (oT O 30 (O 310::O 311::O 312::O 313::int .i64 x59::v52::int .i64 (r51.1.length:Int)::bool true::O 318::O 319::v52::int .i64 x59::pointer (some (ad18_.add (x59.toNat*1)))::int .i64 (rdL r51.1 x59 0)::int .i64 r47.1::int .i64 ((rdL r51.1 x59 0).tmod r47.1)::bool true::bool true::O 328::O 329::O 330::O 331::O 332::O 333::bool true::bool true::O 336::O 337::undef::cnd (D 19) undef (O 339)::cnd (D 20) undef (O 340)::cnd (D 21) undef (O 341)::cnd (D 22) undef (O 342)::cnd (D 23) undef (O 343)::cnd (D 24) undef (O 344)::cnd (D 25) undef (O 345)::cnd (D 26) undef (O 346)::cnd (D 27) undef (O 347)::O 348::O 349::O 350::O 351::O 352::O 353::O 354::O 355::O 356::O 357::O 358::[]))))))))))))))))))))))))))))))∧St w0 [Row 2 (K.int .i64) v52 r51.1,Row 2 (K.int .i64) v55 r54.1] w) ?_ ⟨?_,⟨?_,⟨?_,⟨?_,⟨?_,⟨?_,⟨?_,⟨?_,⟨?_,trivial⟩⟩⟩⟩⟩⟩⟩⟩⟩ ?_
          ·exact ⟨fun i=>T.getD i undef,(by subst hT;rfl),hs⟩
          ·
           rintro D t w hD hp hcl ⟨O,ht,hs⟩ rest hk
           have hp:AllDone D [18]:=hp
           obtain ⟨p18_,_⟩:=hp
           have q21_:=ny hcl 21 0 hD
           have q22_:=ny hcl 22 0 q21_
           simp only [hD,q21_,q22_,cq,oT] at ht hs
           subst ht
           refine Qac rfl rfl (g_d rfl ?_)
           try dsimp only [Qae,Qaf]
           refine hk _ _ ⟨O,?_,hs.cast ?_⟩<;>simp only [oT,cq,Nat.reduceBEq,q21_,q22_]
          ·
           rintro D t w hD hp hcl ⟨O,ht,hs⟩ rest hk
           have hp:AllDone D [18]:=hp
           obtain ⟨p18_,_⟩:=hp
           have q21_:=ny hcl 21 1 hD
           have q22_:=ny hcl 22 0 q21_
           simp only [hD,q21_,q22_,cq,oT] at ht hs
           subst ht
           refine Qac rfl rfl (g_d rfl ?_)
           try dsimp only [Qae,Qaf]
           refine hk _ _ ⟨O,?_,hs.cast ?_⟩<;>simp only [oT,cq,Nat.reduceBEq,q21_,q22_]
          ·
           rintro D t w hD hp hcl ⟨O,ht,hs⟩ rest hk
           have hp:AllDone D [19,20,18]:=hp
           obtain ⟨p19_,p20_,p18_,_⟩:=hp
           have q22_:=ny hcl 22 0 hD
           simp only [hD,p19_,p20_,q22_,cq,oT] at ht hs
           subst ht
           refine Qac rfl rfl (g_d rfl ?_)
           try dsimp only [Qae,Qaf]
           refine hk _ _ ⟨O,?_,hs.cast ?_⟩<;>simp only [oT,cq,Nat.reduceBEq,p19_,p20_,q22_]
          ·
           rintro D t w hD hp hcl ⟨O,ht,hs⟩ rest hk
           have hp:AllDone D [21,18]:=hp
           obtain ⟨p21_,p18_,_⟩:=hp
           obtain ⟨p19_,p20_,_,_⟩:=(show D 21=true→AllDone D [19,20,18] from hcl 21 (by decide)) p21_
           simp only [hD,p19_,p20_,p21_,cq,oT] at ht hs
           subst ht
           refine Qac rfl rfl (g_d rfl ?_)
           try dsimp only [Qae,Qaf]
           refine hk _ _ ⟨O,?_,hs.cast ?_⟩<;>simp only [oT,cq,Nat.reduceBEq,p19_,p20_,p21_]
          ·
           rintro D t w hD hp hcl ⟨O,ht,hs⟩ rest hk
           have hp:AllDone D [18]:=hp
           obtain ⟨p18_,_⟩:=hp
           have q26_:=ny hcl 26 0 hD
           have q27_:=ny hcl 27 0 q26_
           simp only [hD,q26_,q27_,cq,oT] at ht hs
           subst ht
           refine Qac rfl rfl (g_d rfl ?_)
           try dsimp only [Qae,Qaf]
           refine hk _ _ ⟨O,?_,hs.cast ?_⟩<;>simp only [oT,cq,Nat.reduceBEq,q26_,q27_]
          ·
           rintro D t w hD hp hcl ⟨O,ht,hs⟩ rest hk
           have hp:AllDone D [18]:=hp
           obtain ⟨p18_,_⟩:=hp
           have q25_:=ny hcl 25 0 hD
           have q26_:=ny hcl 26 1 q25_
           have q27_:=ny hcl 27 0 q26_
           simp only [hD,q25_,q26_,q27_,cq,oT] at ht hs
           subst ht
           refine Qac rfl rfl (g_d rfl ?_)
           try dsimp only [Qae,Qaf]
           refine hk _ _ ⟨O,?_,hs.cast ?_⟩<;>simp only [oT,cq,Nat.reduceBEq,q25_,q26_,q27_]
          ·
           rintro D t w hD hp hcl ⟨O,ht,hs⟩ rest hk
           have hp:AllDone D [24,18]:=hp
           obtain ⟨p24_,p18_,_⟩:=hp
           have q26_:=ny hcl 26 1 hD
           have q27_:=ny hcl 27 0 q26_
           simp only [hD,p24_,q26_,q27_,cq,oT] at ht hs
           subst ht
           refine Qac rfl rfl (g_d rfl ?_)
           try dsimp only [Qae,Qaf]
           refine hk _ _ ⟨O,?_,hs.cast ?_⟩<;>simp only [oT,cq,Nat.reduceBEq,p24_,q26_,q27_]
          ·
           rintro D t w hD hp hcl ⟨O,ht,hs⟩ rest hk
           have hp:AllDone D [23,25,18]:=hp
           obtain ⟨p23_,p25_,p18_,_⟩:=hp
           obtain ⟨p24_,_,_⟩:=(show D 25=true→AllDone D [24,18] from hcl 25 (by decide)) p25_
           have q27_:=ny hcl 27 0 hD
           simp only [hD,p23_,p24_,p25_,q27_,cq,oT] at ht hs
           subst ht
           refine Qac rfl rfl (g_d rfl ?_)
           try dsimp only [Qae,Qaf]
           refine hk _ _ ⟨O,?_,hs.cast ?_⟩<;>simp only [oT,cq,Nat.reduceBEq,p23_,p24_,p25_,q27_]
          ·
           rintro D t w hD hp hcl ⟨O,ht,hs⟩ rest hk
           have hp:AllDone D [26,18]:=hp
           obtain ⟨p26_,p18_,_⟩:=hp
           obtain ⟨p23_,p25_,_,_⟩:=(show D 26=true→AllDone D [23,25,18] from hcl 26 (by decide)) p26_
           obtain ⟨p24_,_,_⟩:=(show D 25=true→AllDone D [24,18] from hcl 25 (by decide)) p25_
           simp only [hD,p23_,p24_,p25_,p26_,cq,oT] at ht hs
           subst ht
           refine Qac rfl rfl (g_d rfl ?_)
           try dsimp only [Qae,Qaf]
           refine hk _ _ ⟨O,?_,hs.cast ?_⟩<;>simp only [oT,cq,Nat.reduceBEq,p23_,p24_,p25_,p26_]
          intro D t w rest hall hO30_ hI
          obtain ⟨O,ht,hs⟩:=hI
          have p19_:=hall 19 (by decide) rfl
          have p20_:=hall 20 (by decide) rfl
          have p21_:=hall 21 (by decide) rfl
          have p22_:=hall 22 (by decide) rfl
          have p23_:=hall 23 (by decide) rfl
          have p24_:=hall 24 (by decide) rfl
          have p25_:=hall 25 (by decide) rfl
          have p26_:=hall 26 (by decide) rfl
          have p27_:=hall 27 (by decide) rfl
          simp only [p19_,p20_,p21_,p22_,p23_,p24_,p25_,p26_,p27_,cq,oT] at ht hs
          subst ht
          obtain ⟨rest,rfl,hO31_⟩:=ord_one (m:=268435455) hO30_ rfl 28 (m':=536870911) (by decide+kernel) rfl
          clear hO30_
          refine Qac rfl rfl (g_d rfl ?_)
          obtain ⟨rest,rfl,hO32_⟩:=ord_one (m:=536870911) hO31_ rfl 29 (m':=1073741823) (by decide+kernel) rfl
          clear hO31_
          refine Qac rfl rfl (g_d rfl ?_)
          try dsimp only [Qae,Qaf]
          obtain ⟨rest,rfl,hO33_⟩:=ord_one (m:=1073741823) hO32_ rfl 30 (m':=2147483647) (by decide+kernel) rfl
          clear hO32_
          refine Qaa (v:=bool true) rfl rfl rfl (g_d rfl ?_)
          obtain ⟨rest,rfl,hO34_⟩:=ord_one (m:=2147483647) hO33_ rfl 31 (m':=4294967295) (by decide+kernel) rfl
          clear hO33_
          refine Qaa (v:=bool true) rfl rfl rfl (g_d rfl ?_)
          refine Qbe ?_
          intro T hT
          refine QbB (m0:=4294967295) hO34_ rfl 137438953471 [32,33,34,35,36] [0,0,3,7,0,31,63,127,255,255,1023,2047,255,8191,16383,32767,65535,131071,262143,524287,524287,2097151,4194303,524287,524287,17301503,59244543,126353407,268435455,536870911,1073741823,2147483647,4294967295,4294967295,4294967295,30064771071,64424509439,137438953471,274877906943] (by decide+kernel) (fun D t w=>∃ O:Nat→Value,t=(oT O 0 (oT O 1 (O 20::O 21::O 22::O 23::O 24::O 25::O 26::O 27::int .i64 r46::int .i64 r47.1::O 30::O 31::O 32::v52::O 34::v55::O 36::int .i64 x59::O 38::O 39::oT O 4 (oT O 5 (oT O 6 (oT O 7 (oT O 8 (oT O 9 (oT O 10 (oT O 11 (oT O 12 (oT O 13 (oT O 14 (oT O 15 (oT O 16 (oT O 17 (oT O 18 (oT O 19 (oT O 20 (oT O 21 (oT O 22 (oT O 23 (oT O 24 (oT O 25 (oT O 26 (oT O 27 (oT O 28 (oT O 29 (oT O 30 (O 310::O 311::O 312::O 313::int .i64 x59::v52::int .i64 (r51.1.length:Int)::bool true::O 318::O 319::v52::int .i64 x59::pointer (some (ad18_.add (x59.toNat*1)))::int .i64 (rdL r51.1 x59 0)::int .i64 r47.1::int .i64 ((rdL r51.1 x59 0).tmod r47.1)::bool true::bool true::O 328::O 329::O 330::O 331::O 332::O 333::bool true::bool true::O 336::O 337::O 338::O 339::oT O 34 (bool true::bool true::cnd (D 32) undef (O 352)::cnd (D 33) undef (O 353)::cnd (D 34) undef (O 354)::cnd (D 35) undef (O 355)::cnd (D 36) undef (O 356)::O 357::O 358::[])))))))))))))))))))))))))))))))∧St w0 [Row 2 (K.int .i64) v52 r51.1,Row 2 (K.int .i64) v55 r54.1] w) ?_ ⟨?_,⟨?_,⟨?_,⟨?_,⟨?_,trivial⟩⟩⟩⟩⟩ ?_
          ·exact ⟨fun i=>T.getD i undef,(by subst hT;rfl),hs⟩
          ·
           rintro D t w hD hp hcl ⟨O,ht,hs⟩ rest hk
           have hp:AllDone D [31]:=hp
           obtain ⟨p31_,_⟩:=hp
           simp only [hD,cq,oT] at ht hs
           subst ht
           refine Qac rfl rfl (g_d rfl ?_)
           try dsimp only [Qae,Qaf]
           refine hk _ _ ⟨O,?_,hs.cast ?_⟩<;>simp only [oT,cq,Nat.reduceBEq]
          ·
           rintro D t w hD hp hcl ⟨O,ht,hs⟩ rest hk
           have hp:AllDone D [31]:=hp
           obtain ⟨p31_,_⟩:=hp
           have q35_:=ny hcl 35 0 hD
           have q36_:=ny hcl 36 0 q35_
           simp only [hD,q35_,q36_,cq,oT] at ht hs
           subst ht
           refine Qac rfl rfl (g_d rfl ?_)
           try dsimp only [Qae,Qaf]
           refine hk _ _ ⟨O,?_,hs.cast ?_⟩<;>simp only [oT,cq,Nat.reduceBEq,q35_,q36_]
          ·
           rintro D t w hD hp hcl ⟨O,ht,hs⟩ rest hk
           have hp:AllDone D [31]:=hp
           obtain ⟨p31_,_⟩:=hp
           have q35_:=ny hcl 35 1 hD
           have q36_:=ny hcl 36 0 q35_
           simp only [hD,q35_,q36_,cq,oT] at ht hs
           subst ht
           refine Qac rfl rfl (g_d rfl ?_)
           try dsimp only [Qae,Qaf]
           refine hk _ _ ⟨O,?_,hs.cast ?_⟩<;>simp only [oT,cq,Nat.reduceBEq,q35_,q36_]
          ·
           rintro D t w hD hp hcl ⟨O,ht,hs⟩ rest hk
           have hp:AllDone D [33,34,31]:=hp
           obtain ⟨p33_,p34_,p31_,_⟩:=hp
           have q36_:=ny hcl 36 0 hD
           simp only [hD,p33_,p34_,q36_,cq,oT] at ht hs
           subst ht
           refine Qac rfl rfl (g_d rfl ?_)
           try dsimp only [Qae,Qaf]
           refine hk _ _ ⟨O,?_,hs.cast ?_⟩<;>simp only [oT,cq,Nat.reduceBEq,p33_,p34_,q36_]
          ·
           rintro D t w hD hp hcl ⟨O,ht,hs⟩ rest hk
           have hp:AllDone D [35,31]:=hp
           obtain ⟨p35_,p31_,_⟩:=hp
           obtain ⟨p33_,p34_,_,_⟩:=(show D 35=true→AllDone D [33,34,31] from hcl 35 (by decide)) p35_
           simp only [hD,p33_,p34_,p35_,cq,oT] at ht hs
           subst ht
           refine Qac rfl rfl (g_d rfl ?_)
           try dsimp only [Qae,Qaf]
           refine hk _ _ ⟨O,?_,hs.cast ?_⟩<;>simp only [oT,cq,Nat.reduceBEq,p33_,p34_,p35_]
          intro D t w rest hall hO35_ hI
          obtain ⟨O,ht,hs⟩:=hI
          have p32_:=hall 32 (by decide) rfl
          have p33_:=hall 33 (by decide) rfl
          have p34_:=hall 34 (by decide) rfl
          have p35_:=hall 35 (by decide) rfl
          have p36_:=hall 36 (by decide) rfl
          simp only [p32_,p33_,p34_,p35_,p36_,cq,oT] at ht hs
          subst ht
          obtain ⟨rest,rfl,hO36_⟩:=ord_one (m:=137438953471) hO35_ rfl 37 (m':=274877906943) (by decide+kernel) rfl
          clear hO35_
          refine Qac rfl rfl (g_d rfl ?_)
          try dsimp only [Qae,Qaf]
          obtain ⟨rest,rfl,hO37_⟩:=ord_one (m:=274877906943) hO36_ rfl 38 (m':=549755813887) (by decide+kernel) rfl
          clear hO36_
          refine Qaa (v:=bool true) rfl rfl rfl (g_d rfl ?_)
          obtain rfl:=ord_end hO37_ rfl (by decide+kernel)
          refine Qab (Qah rfl (Qad (Qag [0] rfl ?_)))
          refine Qaa (v:=bool false) rfl rfl rfl (g_d rfl ?_)
          try dsimp only [Qae,Qaf]
          refine Qab ?_
          have H:=cast (congrFun hQ1_ _) H
          have H:Q false:=H
          refine Qas Tryz.func3 (v:=bool false) (res1 rfl rfl) ?_
          have hs:St _ [] _:=St.take (Γ':=[_,_]) hs
          exact ⟨_,rfl,_,H,rfl,hs⟩
         intro hb
         rw [if_pos (b_bne_f hb)] at H
         refine g_d rfl ?_
         try dsimp only [Qae,Qaf]
         obtain ⟨rest,rfl,hO38_⟩:=ord_one (m:=127) hO21_ rfl 7 (m':=255) (by decide+kernel) rfl
         clear hO21_
         refine Qaa (v:=bool false) rfl rfl rfl (g_d rfl ?_)
         obtain ⟨gd40,H⟩:=ite_getD H
         obtain ⟨ad41_,ad41_N,ad41_C,had41_⟩:=sl_at (hs.row 0 rfl) gd40.1 gd40.2
         refine Qbe ?_
         intro T hT
         refine QbB (m0:=255) hO38_ rfl 8191 [8,9,10,11,12] [0,0,3,7,0,31,63,127,255,255,1023,2047,255,8191,16383,32767,65535,131071,262143,524287,524287,2097151,4194303,524287,524287,17301503,59244543,126353407,268435455,536870911,1073741823,2147483647,4294967295,4294967295,4294967295,30064771071,64424509439,137438953471,274877906943] (by decide+kernel) (fun D t w=>∃ O:Nat→Value,t=(oT O 0 (oT O 1 (O 20::O 21::O 22::O 23::O 24::O 25::O 26::O 27::int .i64 r46::int .i64 r47.1::O 30::O 31::O 32::v52::O 34::v55::O 36::int .i64 x59::O 38::O 39::oT O 4 (oT O 5 (oT O 6 (oT O 7 (oT O 8 (oT O 9 (oT O 10 (oT O 11 (oT O 12 (oT O 13 (oT O 14 (oT O 15 (oT O 16 (oT O 17 (oT O 18 (oT O 19 (oT O 20 (oT O 21 (oT O 22 (oT O 23 (oT O 24 (oT O 25 (oT O 26 (oT O 27 (oT O 28 (oT O 29 (oT O 30 (O 310::O 311::O 312::O 313::int .i64 x59::v52::int .i64 (r51.1.length:Int)::bool true::O 318::O 319::v52::int .i64 x59::pointer (some (ad18_.add (x59.toNat*1)))::int .i64 (rdL r51.1 x59 0)::int .i64 r47.1::int .i64 ((rdL r51.1 x59 0).tmod r47.1)::bool false::bool false::cnd (D 8) v52 (O 328)::cnd (D 9) (int .i64 x59) (O 329)::cnd (D 10) (pointer (some (ad41_.add (x59.toNat*1)))) (O 330)::cnd (D 11) (int .i64 (rdL r51.1 x59 0)) (O 331)::cnd (D 12) (int .i64 r46) (O 332)::O 333::O 334::O 335::O 336::O 337::O 338::O 339::oT O 34 (O 350::O 351::O 352::O 353::O 354::O 355::O 356::O 357::O 358::[])))))))))))))))))))))))))))))))∧St w0 [Row 2 (K.int .i64) v52 r51.1,Row 2 (K.int .i64) v55 r54.1] w) ?_ ⟨?_,⟨?_,⟨?_,⟨?_,⟨?_,trivial⟩⟩⟩⟩⟩ ?_
         ·exact ⟨fun i=>T.getD i undef,(by subst hT;rfl),hs⟩
         ·
          rintro D t w hD hp hcl ⟨O,ht,hs⟩ rest hk
          have hp:AllDone D [7]:=hp
          obtain ⟨p7_,_⟩:=hp
          have q10_:=ny hcl 10 0 hD
          have q11_:=ny hcl 11 0 q10_
          simp only [hD,q10_,q11_,cq,oT] at ht hs
          subst ht
          refine Qaa (v:=v52) rfl rfl rfl (g_d rfl ?_)
          try dsimp only [Qae,Qaf]
          refine hk _ _ ⟨O,?_,hs.cast ?_⟩<;>simp only [oT,lq,cq,Nat.reduceBEq,q10_,q11_]
         ·
          rintro D t w hD hp hcl ⟨O,ht,hs⟩ rest hk
          have hp:AllDone D [7]:=hp
          obtain ⟨p7_,_⟩:=hp
          have q10_:=ny hcl 10 1 hD
          have q11_:=ny hcl 11 0 q10_
          simp only [hD,q10_,q11_,cq,oT] at ht hs
          subst ht
          refine Qaa (v:=int .i64 x59) rfl rfl rfl (g_d rfl ?_)
          try dsimp only [Qae,Qaf]
          refine hk _ _ ⟨O,?_,hs.cast ?_⟩<;>simp only [oT,lq,cq,Nat.reduceBEq,q10_,q11_]
         ·
          rintro D t w hD hp hcl ⟨O,ht,hs⟩ rest hk
          have hp:AllDone D [8,9,7]:=hp
          obtain ⟨p8_,p9_,p7_,_⟩:=hp
          have q11_:=ny hcl 11 0 hD
          simp only [hD,p8_,p9_,q11_,cq,oT] at ht hs
          subst ht
          refine Qby (κ:=(K.int .i64)) (m:=1) rfl (hs.row 0 rfl) rfl (fun _=>rfl) gd40.1 gd40.2 had41_ rfl rfl rfl rfl rfl (g_d rfl ?_)
          try dsimp only [Qae,Qaf]
          refine hk _ _ ⟨O,?_,hs.cast ?_⟩<;>simp only [oT,lq,cq,Nat.reduceBEq,p8_,p9_,q11_]
         ·
          rintro D t w hD hp hcl ⟨O,ht,hs⟩ rest hk
          have hp:AllDone D [10,7]:=hp
          obtain ⟨p10_,p7_,_⟩:=hp
          obtain ⟨p8_,p9_,_,_⟩:=(show D 10=true→AllDone D [8,9,7] from hcl 10 (by decide)) p10_
          simp only [hD,p8_,p9_,p10_,cq,oT] at ht hs
          subst ht
          refine Qat rfl rfl (v:=int .i64 (rdL r51.1 x59 0)) rfl rfl (fun _=>rfl) (cellsAt_of (fkI .i64) 0 (hs.row 0 rfl) had41_ gd40.1 gd40.2) (g_d rfl ?_)
          try dsimp only [Qae,Qaf]
          refine hk _ _ ⟨O,?_,hs.cast ?_⟩<;>simp only [oT,lq,cq,Nat.reduceBEq,p8_,p9_,p10_]
         ·
          rintro D t w hD hp hcl ⟨O,ht,hs⟩ rest hk
          have hp:AllDone D [7]:=hp
          obtain ⟨p7_,_⟩:=hp
          simp only [hD,cq,oT] at ht hs
          subst ht
          refine Qaa (v:=int .i64 r46) rfl rfl rfl (g_d rfl ?_)
          try dsimp only [Qae,Qaf]
          refine hk _ _ ⟨O,?_,hs.cast ?_⟩<;>simp only [oT,lq,cq,Nat.reduceBEq]
         intro D t w rest hall hO39_ hI
         obtain ⟨O,ht,hs⟩:=hI
         have p8_:=hall 8 (by decide) rfl
         have p9_:=hall 9 (by decide) rfl
         have p10_:=hall 10 (by decide) rfl
         have p11_:=hall 11 (by decide) rfl
         have p12_:=hall 12 (by decide) rfl
         simp only [p8_,p9_,p10_,p11_,p12_,cq,oT] at ht hs
         subst ht
         obtain ⟨rest,rfl,hO42_⟩:=ord_one (m:=8191) hO39_ rfl 13 (m':=16383) (by decide+kernel) rfl
         clear hO39_
         refine Qaa (v:=bool (decide ((rdL r51.1 x59 0)>r46))) rfl rfl rfl (g_d rfl ?_)
         obtain ⟨rest,rfl,hO43_⟩:=ord_one (m:=16383) hO42_ rfl 14 (m':=32767) (by decide+kernel) rfl
         clear hO42_
         refine Qap (B:=decide ((rdL r51.1 x59 0)>r46)) rfl rfl rfl ?_ ?_
         · as_aux_lemma =>
          intro hb
          rw [if_pos (b_dec_t hb)] at H
          refine g_d rfl ?_
          obtain ⟨rest,rfl,hO44_⟩:=ord_one (m:=32767) hO43_ rfl 15 (m':=65535) (by decide+kernel) rfl
          clear hO43_
          refine Qaa (v:=bool true) rfl rfl rfl (g_d rfl ?_)
          obtain ⟨rest,rfl,hO45_⟩:=ord_one (m:=65535) hO44_ rfl 16 (m':=131071) (by decide+kernel) rfl
          clear hO44_
          refine Qac rfl rfl (g_d rfl ?_)
          obtain ⟨rest,rfl,hO46_⟩:=ord_one (m:=131071) hO45_ rfl 17 (m':=262143) (by decide+kernel) rfl
          clear hO45_
          refine Qac rfl rfl (g_d rfl ?_)
          try dsimp only [Qae,Qaf]
          obtain ⟨rest,rfl,hO47_⟩:=ord_one (m:=262143) hO46_ rfl 18 (m':=524287) (by decide+kernel) rfl
          clear hO46_
          refine Qac rfl rfl (g_d rfl ?_)
          refine Qbe ?_
          intro T hT
          refine QbB (m0:=524287) hO47_ rfl 268435455 [19,20,21,22,23,24,25,26,27] [0,0,3,7,0,31,63,127,255,255,1023,2047,255,8191,16383,32767,65535,131071,262143,524287,524287,2097151,4194303,524287,524287,17301503,59244543,126353407,268435455,536870911,1073741823,2147483647,4294967295,4294967295,4294967295,30064771071,64424509439,137438953471,274877906943] (by decide+kernel) (fun D t w=>∃ O:Nat→Value,t=(oT O 0 (oT O 1 (O 20::O 21::O 22::O 23::O 24::O 25::O 26::O 27::int .i64 r46::int .i64 r47.1::O 30::O 31::O 32::v52::O 34::v55::O 36::int .i64 x59::O 38::O 39::oT O 4 (oT O 5 (oT O 6 (oT O 7 (oT O 8 (oT O 9 (oT O 10 (oT O 11 (oT O 12 (oT O 13 (oT O 14 (oT O 15 (oT O 16 (oT O 17 (oT O 18 (oT O 19 (oT O 20 (oT O 21 (oT O 22 (oT O 23 (oT O 24 (oT O 25 (oT O 26 (oT O 27 (oT O 28 (oT O 29 (oT O 30 (O 310::O 311::O 312::O 313::int .i64 x59::v52::int .i64 (r51.1.length:Int)::bool true::O 318::O 319::v52::int .i64 x59::pointer (some (ad18_.add (x59.toNat*1)))::int .i64 (rdL r51.1 x59 0)::int .i64 r47.1::int .i64 ((rdL r51.1 x59 0).tmod r47.1)::bool false::bool false::v52::int .i64 x59::pointer (some (ad41_.add (x59.toNat*1)))::int .i64 (rdL r51.1 x59 0)::int .i64 r46::bool (decide ((rdL r51.1 x59 0)>r46))::bool true::bool true::O 336::O 337::undef::cnd (D 19) undef (O 339)::cnd (D 20) undef (O 340)::cnd (D 21) undef (O 341)::cnd (D 22) undef (O 342)::cnd (D 23) undef (O 343)::cnd (D 24) undef (O 344)::cnd (D 25) undef (O 345)::cnd (D 26) undef (O 346)::cnd (D 27) undef (O 347)::O 348::O 349::O 350::O 351::O 352::O 353::O 354::O 355::O 356::O 357::O 358::[]))))))))))))))))))))))))))))))∧St w0 [Row 2 (K.int .i64) v52 r51.1,Row 2 (K.int .i64) v55 r54.1] w) ?_ ⟨?_,⟨?_,⟨?_,⟨?_,⟨?_,⟨?_,⟨?_,⟨?_,⟨?_,trivial⟩⟩⟩⟩⟩⟩⟩⟩⟩ ?_
          ·exact ⟨fun i=>T.getD i undef,(by subst hT;rfl),hs⟩
          ·
           rintro D t w hD hp hcl ⟨O,ht,hs⟩ rest hk
           have hp:AllDone D [18]:=hp
           obtain ⟨p18_,_⟩:=hp
           have q21_:=ny hcl 21 0 hD
           have q22_:=ny hcl 22 0 q21_
           simp only [hD,q21_,q22_,cq,oT] at ht hs
           subst ht
           refine Qac rfl rfl (g_d rfl ?_)
           try dsimp only [Qae,Qaf]
           refine hk _ _ ⟨O,?_,hs.cast ?_⟩<;>simp only [oT,cq,Nat.reduceBEq,q21_,q22_]
          ·
           rintro D t w hD hp hcl ⟨O,ht,hs⟩ rest hk
           have hp:AllDone D [18]:=hp
           obtain ⟨p18_,_⟩:=hp
           have q21_:=ny hcl 21 1 hD
           have q22_:=ny hcl 22 0 q21_
           simp only [hD,q21_,q22_,cq,oT] at ht hs
           subst ht
           refine Qac rfl rfl (g_d rfl ?_)
           try dsimp only [Qae,Qaf]
           refine hk _ _ ⟨O,?_,hs.cast ?_⟩<;>simp only [oT,cq,Nat.reduceBEq,q21_,q22_]
          ·
           rintro D t w hD hp hcl ⟨O,ht,hs⟩ rest hk
           have hp:AllDone D [19,20,18]:=hp
           obtain ⟨p19_,p20_,p18_,_⟩:=hp
           have q22_:=ny hcl 22 0 hD
           simp only [hD,p19_,p20_,q22_,cq,oT] at ht hs
           subst ht
           refine Qac rfl rfl (g_d rfl ?_)
           try dsimp only [Qae,Qaf]
           refine hk _ _ ⟨O,?_,hs.cast ?_⟩<;>simp only [oT,cq,Nat.reduceBEq,p19_,p20_,q22_]
          ·
           rintro D t w hD hp hcl ⟨O,ht,hs⟩ rest hk
           have hp:AllDone D [21,18]:=hp
           obtain ⟨p21_,p18_,_⟩:=hp
           obtain ⟨p19_,p20_,_,_⟩:=(show D 21=true→AllDone D [19,20,18] from hcl 21 (by decide)) p21_
           simp only [hD,p19_,p20_,p21_,cq,oT] at ht hs
           subst ht
           refine Qac rfl rfl (g_d rfl ?_)
           try dsimp only [Qae,Qaf]
           refine hk _ _ ⟨O,?_,hs.cast ?_⟩<;>simp only [oT,cq,Nat.reduceBEq,p19_,p20_,p21_]
          ·
           rintro D t w hD hp hcl ⟨O,ht,hs⟩ rest hk
           have hp:AllDone D [18]:=hp
           obtain ⟨p18_,_⟩:=hp
           have q26_:=ny hcl 26 0 hD
           have q27_:=ny hcl 27 0 q26_
           simp only [hD,q26_,q27_,cq,oT] at ht hs
           subst ht
           refine Qac rfl rfl (g_d rfl ?_)
           try dsimp only [Qae,Qaf]
           refine hk _ _ ⟨O,?_,hs.cast ?_⟩<;>simp only [oT,cq,Nat.reduceBEq,q26_,q27_]
          ·
           rintro D t w hD hp hcl ⟨O,ht,hs⟩ rest hk
           have hp:AllDone D [18]:=hp
           obtain ⟨p18_,_⟩:=hp
           have q25_:=ny hcl 25 0 hD
           have q26_:=ny hcl 26 1 q25_
           have q27_:=ny hcl 27 0 q26_
           simp only [hD,q25_,q26_,q27_,cq,oT] at ht hs
           subst ht
           refine Qac rfl rfl (g_d rfl ?_)
           try dsimp only [Qae,Qaf]
           refine hk _ _ ⟨O,?_,hs.cast ?_⟩<;>simp only [oT,cq,Nat.reduceBEq,q25_,q26_,q27_]
          ·
           rintro D t w hD hp hcl ⟨O,ht,hs⟩ rest hk
           have hp:AllDone D [24,18]:=hp
           obtain ⟨p24_,p18_,_⟩:=hp
           have q26_:=ny hcl 26 1 hD
           have q27_:=ny hcl 27 0 q26_
           simp only [hD,p24_,q26_,q27_,cq,oT] at ht hs
           subst ht
           refine Qac rfl rfl (g_d rfl ?_)
           try dsimp only [Qae,Qaf]
           refine hk _ _ ⟨O,?_,hs.cast ?_⟩<;>simp only [oT,cq,Nat.reduceBEq,p24_,q26_,q27_]
          ·
           rintro D t w hD hp hcl ⟨O,ht,hs⟩ rest hk
           have hp:AllDone D [23,25,18]:=hp
           obtain ⟨p23_,p25_,p18_,_⟩:=hp
           obtain ⟨p24_,_,_⟩:=(show D 25=true→AllDone D [24,18] from hcl 25 (by decide)) p25_
           have q27_:=ny hcl 27 0 hD
           simp only [hD,p23_,p24_,p25_,q27_,cq,oT] at ht hs
           subst ht
           refine Qac rfl rfl (g_d rfl ?_)
           try dsimp only [Qae,Qaf]
           refine hk _ _ ⟨O,?_,hs.cast ?_⟩<;>simp only [oT,cq,Nat.reduceBEq,p23_,p24_,p25_,q27_]
          ·
           rintro D t w hD hp hcl ⟨O,ht,hs⟩ rest hk
           have hp:AllDone D [26,18]:=hp
           obtain ⟨p26_,p18_,_⟩:=hp
           obtain ⟨p23_,p25_,_,_⟩:=(show D 26=true→AllDone D [23,25,18] from hcl 26 (by decide)) p26_
           obtain ⟨p24_,_,_⟩:=(show D 25=true→AllDone D [24,18] from hcl 25 (by decide)) p25_
           simp only [hD,p23_,p24_,p25_,p26_,cq,oT] at ht hs
           subst ht
           refine Qac rfl rfl (g_d rfl ?_)
           try dsimp only [Qae,Qaf]
           refine hk _ _ ⟨O,?_,hs.cast ?_⟩<;>simp only [oT,cq,Nat.reduceBEq,p23_,p24_,p25_,p26_]
          intro D t w rest hall hO48_ hI
          obtain ⟨O,ht,hs⟩:=hI
          have p19_:=hall 19 (by decide) rfl
          have p20_:=hall 20 (by decide) rfl
          have p21_:=hall 21 (by decide) rfl
          have p22_:=hall 22 (by decide) rfl
          have p23_:=hall 23 (by decide) rfl
          have p24_:=hall 24 (by decide) rfl
          have p25_:=hall 25 (by decide) rfl
          have p26_:=hall 26 (by decide) rfl
          have p27_:=hall 27 (by decide) rfl
          simp only [p19_,p20_,p21_,p22_,p23_,p24_,p25_,p26_,p27_,cq,oT] at ht hs
          subst ht
          obtain ⟨rest,rfl,hO49_⟩:=ord_one (m:=268435455) hO48_ rfl 28 (m':=536870911) (by decide+kernel) rfl
          clear hO48_
          refine Qac rfl rfl (g_d rfl ?_)
          obtain ⟨rest,rfl,hO50_⟩:=ord_one (m:=536870911) hO49_ rfl 29 (m':=1073741823) (by decide+kernel) rfl
          clear hO49_
          refine Qac rfl rfl (g_d rfl ?_)
          try dsimp only [Qae,Qaf]
          obtain ⟨rest,rfl,hO51_⟩:=ord_one (m:=1073741823) hO50_ rfl 30 (m':=2147483647) (by decide+kernel) rfl
          clear hO50_
          refine Qaa (v:=bool true) rfl rfl rfl (g_d rfl ?_)
          obtain ⟨rest,rfl,hO52_⟩:=ord_one (m:=2147483647) hO51_ rfl 31 (m':=4294967295) (by decide+kernel) rfl
          clear hO51_
          refine Qaa (v:=bool true) rfl rfl rfl (g_d rfl ?_)
          refine Qbe ?_
          intro T hT
          refine QbB (m0:=4294967295) hO52_ rfl 137438953471 [32,33,34,35,36] [0,0,3,7,0,31,63,127,255,255,1023,2047,255,8191,16383,32767,65535,131071,262143,524287,524287,2097151,4194303,524287,524287,17301503,59244543,126353407,268435455,536870911,1073741823,2147483647,4294967295,4294967295,4294967295,30064771071,64424509439,137438953471,274877906943] (by decide+kernel) (fun D t w=>∃ O:Nat→Value,t=(oT O 0 (oT O 1 (O 20::O 21::O 22::O 23::O 24::O 25::O 26::O 27::int .i64 r46::int .i64 r47.1::O 30::O 31::O 32::v52::O 34::v55::O 36::int .i64 x59::O 38::O 39::oT O 4 (oT O 5 (oT O 6 (oT O 7 (oT O 8 (oT O 9 (oT O 10 (oT O 11 (oT O 12 (oT O 13 (oT O 14 (oT O 15 (oT O 16 (oT O 17 (oT O 18 (oT O 19 (oT O 20 (oT O 21 (oT O 22 (oT O 23 (oT O 24 (oT O 25 (oT O 26 (oT O 27 (oT O 28 (oT O 29 (oT O 30 (O 310::O 311::O 312::O 313::int .i64 x59::v52::int .i64 (r51.1.length:Int)::bool true::O 318::O 319::v52::int .i64 x59::pointer (some (ad18_.add (x59.toNat*1)))::int .i64 (rdL r51.1 x59 0)::int .i64 r47.1::int .i64 ((rdL r51.1 x59 0).tmod r47.1)::bool false::bool false::v52::int .i64 x59::pointer (some (ad41_.add (x59.toNat*1)))::int .i64 (rdL r51.1 x59 0)::int .i64 r46::bool (decide ((rdL r51.1 x59 0)>r46))::bool true::bool true::O 336::O 337::O 338::O 339::oT O 34 (bool true::bool true::cnd (D 32) undef (O 352)::cnd (D 33) undef (O 353)::cnd (D 34) undef (O 354)::cnd (D 35) undef (O 355)::cnd (D 36) undef (O 356)::O 357::O 358::[])))))))))))))))))))))))))))))))∧St w0 [Row 2 (K.int .i64) v52 r51.1,Row 2 (K.int .i64) v55 r54.1] w) ?_ ⟨?_,⟨?_,⟨?_,⟨?_,⟨?_,trivial⟩⟩⟩⟩⟩ ?_
          ·exact ⟨fun i=>T.getD i undef,(by subst hT;rfl),hs⟩
          ·
           rintro D t w hD hp hcl ⟨O,ht,hs⟩ rest hk
           have hp:AllDone D [31]:=hp
           obtain ⟨p31_,_⟩:=hp
           simp only [hD,cq,oT] at ht hs
           subst ht
           refine Qac rfl rfl (g_d rfl ?_)
           try dsimp only [Qae,Qaf]
           refine hk _ _ ⟨O,?_,hs.cast ?_⟩<;>simp only [oT,cq,Nat.reduceBEq]
          ·
           rintro D t w hD hp hcl ⟨O,ht,hs⟩ rest hk
           have hp:AllDone D [31]:=hp
           obtain ⟨p31_,_⟩:=hp
           have q35_:=ny hcl 35 0 hD
           have q36_:=ny hcl 36 0 q35_
           simp only [hD,q35_,q36_,cq,oT] at ht hs
           subst ht
           refine Qac rfl rfl (g_d rfl ?_)
           try dsimp only [Qae,Qaf]
           refine hk _ _ ⟨O,?_,hs.cast ?_⟩<;>simp only [oT,cq,Nat.reduceBEq,q35_,q36_]
          ·
           rintro D t w hD hp hcl ⟨O,ht,hs⟩ rest hk
           have hp:AllDone D [31]:=hp
           obtain ⟨p31_,_⟩:=hp
           have q35_:=ny hcl 35 1 hD
           have q36_:=ny hcl 36 0 q35_
           simp only [hD,q35_,q36_,cq,oT] at ht hs
           subst ht
           refine Qac rfl rfl (g_d rfl ?_)
           try dsimp only [Qae,Qaf]
           refine hk _ _ ⟨O,?_,hs.cast ?_⟩<;>simp only [oT,cq,Nat.reduceBEq,q35_,q36_]
          ·
           rintro D t w hD hp hcl ⟨O,ht,hs⟩ rest hk
           have hp:AllDone D [33,34,31]:=hp
           obtain ⟨p33_,p34_,p31_,_⟩:=hp
           have q36_:=ny hcl 36 0 hD
           simp only [hD,p33_,p34_,q36_,cq,oT] at ht hs
           subst ht
           refine Qac rfl rfl (g_d rfl ?_)
           try dsimp only [Qae,Qaf]
           refine hk _ _ ⟨O,?_,hs.cast ?_⟩<;>simp only [oT,cq,Nat.reduceBEq,p33_,p34_,q36_]
          ·
           rintro D t w hD hp hcl ⟨O,ht,hs⟩ rest hk
           have hp:AllDone D [35,31]:=hp
           obtain ⟨p35_,p31_,_⟩:=hp
           obtain ⟨p33_,p34_,_,_⟩:=(show D 35=true→AllDone D [33,34,31] from hcl 35 (by decide)) p35_
           simp only [hD,p33_,p34_,p35_,cq,oT] at ht hs
           subst ht
           refine Qac rfl rfl (g_d rfl ?_)
           try dsimp only [Qae,Qaf]
           refine hk _ _ ⟨O,?_,hs.cast ?_⟩<;>simp only [oT,cq,Nat.reduceBEq,p33_,p34_,p35_]
          intro D t w rest hall hO53_ hI
          obtain ⟨O,ht,hs⟩:=hI
          have p32_:=hall 32 (by decide) rfl
          have p33_:=hall 33 (by decide) rfl
          have p34_:=hall 34 (by decide) rfl
          have p35_:=hall 35 (by decide) rfl
          have p36_:=hall 36 (by decide) rfl
          simp only [p32_,p33_,p34_,p35_,p36_,cq,oT] at ht hs
          subst ht
          obtain ⟨rest,rfl,hO54_⟩:=ord_one (m:=137438953471) hO53_ rfl 37 (m':=274877906943) (by decide+kernel) rfl
          clear hO53_
          refine Qac rfl rfl (g_d rfl ?_)
          try dsimp only [Qae,Qaf]
          obtain ⟨rest,rfl,hO55_⟩:=ord_one (m:=274877906943) hO54_ rfl 38 (m':=549755813887) (by decide+kernel) rfl
          clear hO54_
          refine Qaa (v:=bool true) rfl rfl rfl (g_d rfl ?_)
          obtain rfl:=ord_end hO55_ rfl (by decide+kernel)
          refine Qab (Qah rfl (Qad (Qag [0] rfl ?_)))
          refine Qaa (v:=bool false) rfl rfl rfl (g_d rfl ?_)
          try dsimp only [Qae,Qaf]
          refine Qab ?_
          have H:=cast (congrFun hQ1_ _) H
          have H:Q false:=H
          refine Qas Tryz.func3 (v:=bool false) (res1 rfl rfl) ?_
          have hs:St _ [] _:=St.take (Γ':=[_,_]) hs
          exact ⟨_,rfl,_,H,rfl,hs⟩
         intro hb
         rw [if_neg (b_dec_f hb)] at H
         refine g_d rfl ?_
         try dsimp only [Qae,Qaf]
         obtain ⟨rest,rfl,hO56_⟩:=ord_one (m:=32767) hO43_ rfl 15 (m':=65535) (by decide+kernel) rfl
         clear hO43_
         refine Qaa (v:=bool false) rfl rfl rfl (g_d rfl ?_)
         obtain ⟨rest,rfl,hO57_⟩:=ord_one (m:=65535) hO56_ rfl 16 (m':=131071) (by decide+kernel) rfl
         clear hO56_
         refine Qaa (v:=int .i64 x59) rfl rfl rfl (g_d rfl ?_)
         obtain ⟨rest,rfl,hO58_⟩:=ord_one (m:=131071) hO57_ rfl 17 (m':=262143) (by decide+kernel) rfl
         clear hO57_
         refine Qap (B:=decide (x59>0)) rfl rfl rfl ?_ ?_
         · as_aux_lemma =>
          intro hb
          rw [if_pos (b_dec_t hb)] at H
          refine g_d rfl ?_
          try dsimp only [Qae,Qaf]
          obtain ⟨rest,rfl,hO59_⟩:=ord_one (m:=262143) hO58_ rfl 18 (m':=524287) (by decide+kernel) rfl
          clear hO58_
          refine Qaa (v:=bool true) rfl rfl rfl (g_d rfl ?_)
          obtain ⟨gd61,H⟩:=ite_getD H
          obtain ⟨ad62_,ad62_N,ad62_C,had62_⟩:=sl_at (hs.row 0 rfl) gd61.1 gd61.2
          obtain ⟨gd63,H⟩:=ite_getD H
          obtain ⟨ad64_,ad64_N,ad64_C,had64_⟩:=sl_at (hs.row 0 rfl) gd63.1 gd63.2
          refine Qbe ?_
          intro T hT
          refine QbB (m0:=524287) hO59_ rfl 268435455 [19,20,21,22,23,24,25,26,27] [0,0,3,7,0,31,63,127,255,255,1023,2047,255,8191,16383,32767,65535,131071,262143,524287,524287,2097151,4194303,524287,524287,17301503,59244543,126353407,268435455,536870911,1073741823,2147483647,4294967295,4294967295,4294967295,30064771071,64424509439,137438953471,274877906943] (by decide+kernel) (fun D t w=>∃ O:Nat→Value,t=(oT O 0 (oT O 1 (O 20::O 21::O 22::O 23::O 24::O 25::O 26::O 27::int .i64 r46::int .i64 r47.1::O 30::O 31::O 32::v52::O 34::v55::O 36::int .i64 x59::O 38::O 39::oT O 4 (oT O 5 (oT O 6 (oT O 7 (oT O 8 (oT O 9 (oT O 10 (oT O 11 (oT O 12 (oT O 13 (oT O 14 (oT O 15 (oT O 16 (oT O 17 (oT O 18 (oT O 19 (oT O 20 (oT O 21 (oT O 22 (oT O 23 (oT O 24 (oT O 25 (oT O 26 (oT O 27 (oT O 28 (oT O 29 (oT O 30 (O 310::O 311::O 312::O 313::int .i64 x59::v52::int .i64 (r51.1.length:Int)::bool true::O 318::O 319::v52::int .i64 x59::pointer (some (ad18_.add (x59.toNat*1)))::int .i64 (rdL r51.1 x59 0)::int .i64 r47.1::int .i64 ((rdL r51.1 x59 0).tmod r47.1)::bool false::bool false::v52::int .i64 x59::pointer (some (ad41_.add (x59.toNat*1)))::int .i64 (rdL r51.1 x59 0)::int .i64 r46::bool (decide ((rdL r51.1 x59 0)>r46))::bool false::bool false::int .i64 x59::bool true::bool true::cnd (D 19) v52 (O 339)::cnd (D 20) (int .i64 x59) (O 340)::cnd (D 21) (pointer (some (ad62_.add (x59.toNat*1)))) (O 341)::cnd (D 22) (int .i64 (rdL r51.1 x59 0)) (O 342)::cnd (D 23) v52 (O 343)::cnd (D 24) (int .i64 x59) (O 344)::cnd (D 25) (int .i64 (i64w (x59 - 1))) (O 345)::cnd (D 26) (pointer (some (ad64_.add ((i64w (x59 - 1)).toNat*1)))) (O 346)::cnd (D 27) (int .i64 (rdL r51.1 (i64w (x59 - 1)) 0)) (O 347)::O 348::O 349::O 350::O 351::O 352::O 353::O 354::O 355::O 356::O 357::O 358::[]))))))))))))))))))))))))))))))∧St w0 [Row 2 (K.int .i64) v52 r51.1,Row 2 (K.int .i64) v55 r54.1] w) ?_ ⟨?_,⟨?_,⟨?_,⟨?_,⟨?_,⟨?_,⟨?_,⟨?_,⟨?_,trivial⟩⟩⟩⟩⟩⟩⟩⟩⟩ ?_
          ·exact ⟨fun i=>T.getD i undef,(by subst hT;rfl),hs⟩
          ·
           rintro D t w hD hp hcl ⟨O,ht,hs⟩ rest hk
           have hp:AllDone D [18]:=hp
           obtain ⟨p18_,_⟩:=hp
           have q21_:=ny hcl 21 0 hD
           have q22_:=ny hcl 22 0 q21_
           simp only [hD,q21_,q22_,cq,oT] at ht hs
           subst ht
           refine Qaa (v:=v52) rfl rfl rfl (g_d rfl ?_)
           try dsimp only [Qae,Qaf]
           refine hk _ _ ⟨O,?_,hs.cast ?_⟩<;>simp only [oT,lq,cq,Nat.reduceBEq,q21_,q22_]
          ·
           rintro D t w hD hp hcl ⟨O,ht,hs⟩ rest hk
           have hp:AllDone D [18]:=hp
           obtain ⟨p18_,_⟩:=hp
           have q21_:=ny hcl 21 1 hD
           have q22_:=ny hcl 22 0 q21_
           simp only [hD,q21_,q22_,cq,oT] at ht hs
           subst ht
           refine Qaa (v:=int .i64 x59) rfl rfl rfl (g_d rfl ?_)
           try dsimp only [Qae,Qaf]
           refine hk _ _ ⟨O,?_,hs.cast ?_⟩<;>simp only [oT,lq,cq,Nat.reduceBEq,q21_,q22_]
          ·
           rintro D t w hD hp hcl ⟨O,ht,hs⟩ rest hk
           have hp:AllDone D [19,20,18]:=hp
           obtain ⟨p19_,p20_,p18_,_⟩:=hp
           have q22_:=ny hcl 22 0 hD
           simp only [hD,p19_,p20_,q22_,cq,oT] at ht hs
           subst ht
           refine Qby (κ:=(K.int .i64)) (m:=1) rfl (hs.row 0 rfl) rfl (fun _=>rfl) gd61.1 gd61.2 had62_ rfl rfl rfl rfl rfl (g_d rfl ?_)
           try dsimp only [Qae,Qaf]
           refine hk _ _ ⟨O,?_,hs.cast ?_⟩<;>simp only [oT,lq,cq,Nat.reduceBEq,p19_,p20_,q22_]
          ·
           rintro D t w hD hp hcl ⟨O,ht,hs⟩ rest hk
           have hp:AllDone D [21,18]:=hp
           obtain ⟨p21_,p18_,_⟩:=hp
           obtain ⟨p19_,p20_,_,_⟩:=(show D 21=true→AllDone D [19,20,18] from hcl 21 (by decide)) p21_
           simp only [hD,p19_,p20_,p21_,cq,oT] at ht hs
           subst ht
           refine Qat rfl rfl (v:=int .i64 (rdL r51.1 x59 0)) rfl rfl (fun _=>rfl) (cellsAt_of (fkI .i64) 0 (hs.row 0 rfl) had62_ gd61.1 gd61.2) (g_d rfl ?_)
           try dsimp only [Qae,Qaf]
           refine hk _ _ ⟨O,?_,hs.cast ?_⟩<;>simp only [oT,lq,cq,Nat.reduceBEq,p19_,p20_,p21_]
          ·
           rintro D t w hD hp hcl ⟨O,ht,hs⟩ rest hk
           have hp:AllDone D [18]:=hp
           obtain ⟨p18_,_⟩:=hp
           have q26_:=ny hcl 26 0 hD
           have q27_:=ny hcl 27 0 q26_
           simp only [hD,q26_,q27_,cq,oT] at ht hs
           subst ht
           refine Qaa (v:=v52) rfl rfl rfl (g_d rfl ?_)
           try dsimp only [Qae,Qaf]
           refine hk _ _ ⟨O,?_,hs.cast ?_⟩<;>simp only [oT,lq,cq,Nat.reduceBEq,q26_,q27_]
          ·
           rintro D t w hD hp hcl ⟨O,ht,hs⟩ rest hk
           have hp:AllDone D [18]:=hp
           obtain ⟨p18_,_⟩:=hp
           have q25_:=ny hcl 25 0 hD
           have q26_:=ny hcl 26 1 q25_
           have q27_:=ny hcl 27 0 q26_
           simp only [hD,q25_,q26_,q27_,cq,oT] at ht hs
           subst ht
           refine Qaa (v:=int .i64 x59) rfl rfl rfl (g_d rfl ?_)
           try dsimp only [Qae,Qaf]
           refine hk _ _ ⟨O,?_,hs.cast ?_⟩<;>simp only [oT,lq,cq,Nat.reduceBEq,q25_,q26_,q27_]
          ·
           rintro D t w hD hp hcl ⟨O,ht,hs⟩ rest hk
           have hp:AllDone D [24,18]:=hp
           obtain ⟨p24_,p18_,_⟩:=hp
           have q26_:=ny hcl 26 1 hD
           have q27_:=ny hcl 27 0 q26_
           simp only [hD,p24_,q26_,q27_,cq,oT] at ht hs
           subst ht
           refine Qaa (v:=int .i64 (i64w (x59 - 1))) rfl rfl rfl (g_d rfl ?_)
           try dsimp only [Qae,Qaf]
           refine hk _ _ ⟨O,?_,hs.cast ?_⟩<;>simp only [oT,lq,cq,Nat.reduceBEq,p24_,q26_,q27_]
          ·
           rintro D t w hD hp hcl ⟨O,ht,hs⟩ rest hk
           have hp:AllDone D [23,25,18]:=hp
           obtain ⟨p23_,p25_,p18_,_⟩:=hp
           obtain ⟨p24_,_,_⟩:=(show D 25=true→AllDone D [24,18] from hcl 25 (by decide)) p25_
           have q27_:=ny hcl 27 0 hD
           simp only [hD,p23_,p24_,p25_,q27_,cq,oT] at ht hs
           subst ht
           refine Qby (κ:=(K.int .i64)) (m:=1) rfl (hs.row 0 rfl) rfl (fun _=>rfl) gd63.1 gd63.2 had64_ rfl rfl rfl rfl rfl (g_d rfl ?_)
           try dsimp only [Qae,Qaf]
           refine hk _ _ ⟨O,?_,hs.cast ?_⟩<;>simp only [oT,lq,cq,Nat.reduceBEq,p23_,p24_,p25_,q27_]
          ·
           rintro D t w hD hp hcl ⟨O,ht,hs⟩ rest hk
           have hp:AllDone D [26,18]:=hp
           obtain ⟨p26_,p18_,_⟩:=hp
           obtain ⟨p23_,p25_,_,_⟩:=(show D 26=true→AllDone D [23,25,18] from hcl 26 (by decide)) p26_
           obtain ⟨p24_,_,_⟩:=(show D 25=true→AllDone D [24,18] from hcl 25 (by decide)) p25_
           simp only [hD,p23_,p24_,p25_,p26_,cq,oT] at ht hs
           subst ht
           refine Qat rfl rfl (v:=int .i64 (rdL r51.1 (i64w (x59 - 1)) 0)) rfl rfl (fun _=>rfl) (cellsAt_of (fkI .i64) 0 (hs.row 0 rfl) had64_ gd63.1 gd63.2) (g_d rfl ?_)
           try dsimp only [Qae,Qaf]
           refine hk _ _ ⟨O,?_,hs.cast ?_⟩<;>simp only [oT,lq,cq,Nat.reduceBEq,p23_,p24_,p25_,p26_]
          intro D t w rest hall hO60_ hI
          obtain ⟨O,ht,hs⟩:=hI
          have p19_:=hall 19 (by decide) rfl
          have p20_:=hall 20 (by decide) rfl
          have p21_:=hall 21 (by decide) rfl
          have p22_:=hall 22 (by decide) rfl
          have p23_:=hall 23 (by decide) rfl
          have p24_:=hall 24 (by decide) rfl
          have p25_:=hall 25 (by decide) rfl
          have p26_:=hall 26 (by decide) rfl
          have p27_:=hall 27 (by decide) rfl
          simp only [p19_,p20_,p21_,p22_,p23_,p24_,p25_,p26_,p27_,cq,oT] at ht hs
          subst ht
          obtain ⟨rest,rfl,hO65_⟩:=ord_one (m:=268435455) hO60_ rfl 28 (m':=536870911) (by decide+kernel) rfl
          clear hO60_
          refine Qaa (v:=bool (decide ((rdL r51.1 x59 0)≤(rdL r51.1 (i64w (x59 - 1)) 0)))) rfl rfl rfl (g_d rfl ?_)
          obtain ⟨rest,rfl,hO66_⟩:=ord_one (m:=536870911) hO65_ rfl 29 (m':=1073741823) (by decide+kernel) rfl
          clear hO65_
          refine Qaa (v:=bool (decide ((rdL r51.1 x59 0)≤(rdL r51.1 (i64w (x59 - 1)) 0)))) rfl rfl rfl (g_d rfl ?_)
          try dsimp only [Qae,Qaf]
          obtain ⟨rest,rfl,hO67_⟩:=ord_one (m:=1073741823) hO66_ rfl 30 (m':=2147483647) (by decide+kernel) rfl
          clear hO66_
          refine Qap (B:=decide ((rdL r51.1 x59 0)≤(rdL r51.1 (i64w (x59 - 1)) 0))) rfl rfl rfl ?_ ?_
          ·
           intro hb
           rw [if_pos (b_dec_t hb)] at H
           refine g_d rfl ?_
           obtain ⟨rest,rfl,hO68_⟩:=ord_one (m:=2147483647) hO67_ rfl 31 (m':=4294967295) (by decide+kernel) rfl
           clear hO67_
           refine Qaa (v:=bool true) rfl rfl rfl (g_d rfl ?_)
           refine Qbe ?_
           intro T hT
           refine QbB (m0:=4294967295) hO68_ rfl 137438953471 [32,33,34,35,36] [0,0,3,7,0,31,63,127,255,255,1023,2047,255,8191,16383,32767,65535,131071,262143,524287,524287,2097151,4194303,524287,524287,17301503,59244543,126353407,268435455,536870911,1073741823,2147483647,4294967295,4294967295,4294967295,30064771071,64424509439,137438953471,274877906943] (by decide+kernel) (fun D t w=>∃ O:Nat→Value,t=(oT O 0 (oT O 1 (O 20::O 21::O 22::O 23::O 24::O 25::O 26::O 27::int .i64 r46::int .i64 r47.1::O 30::O 31::O 32::v52::O 34::v55::O 36::int .i64 x59::O 38::O 39::oT O 4 (oT O 5 (oT O 6 (oT O 7 (oT O 8 (oT O 9 (oT O 10 (oT O 11 (oT O 12 (oT O 13 (oT O 14 (oT O 15 (oT O 16 (oT O 17 (oT O 18 (oT O 19 (oT O 20 (oT O 21 (oT O 22 (oT O 23 (oT O 24 (oT O 25 (oT O 26 (oT O 27 (oT O 28 (oT O 29 (oT O 30 (O 310::O 311::O 312::O 313::int .i64 x59::v52::int .i64 (r51.1.length:Int)::bool true::O 318::O 319::v52::int .i64 x59::pointer (some (ad18_.add (x59.toNat*1)))::int .i64 (rdL r51.1 x59 0)::int .i64 r47.1::int .i64 ((rdL r51.1 x59 0).tmod r47.1)::bool false::bool false::v52::int .i64 x59::pointer (some (ad41_.add (x59.toNat*1)))::int .i64 (rdL r51.1 x59 0)::int .i64 r46::bool (decide ((rdL r51.1 x59 0)>r46))::bool false::bool false::int .i64 x59::bool true::bool true::v52::int .i64 x59::pointer (some (ad62_.add (x59.toNat*1)))::int .i64 (rdL r51.1 x59 0)::v52::int .i64 x59::int .i64 (i64w (x59 - 1))::pointer (some (ad64_.add ((i64w (x59 - 1)).toNat*1)))::int .i64 (rdL r51.1 (i64w (x59 - 1)) 0)::bool (decide ((rdL r51.1 x59 0)≤(rdL r51.1 (i64w (x59 - 1)) 0)))::bool (decide ((rdL r51.1 x59 0)≤(rdL r51.1 (i64w (x59 - 1)) 0)))::bool true::bool true::cnd (D 32) undef (O 352)::cnd (D 33) undef (O 353)::cnd (D 34) undef (O 354)::cnd (D 35) undef (O 355)::cnd (D 36) undef (O 356)::O 357::O 358::[]))))))))))))))))))))))))))))))∧St w0 [Row 2 (K.int .i64) v52 r51.1,Row 2 (K.int .i64) v55 r54.1] w) ?_ ⟨?_,⟨?_,⟨?_,⟨?_,⟨?_,trivial⟩⟩⟩⟩⟩ ?_
           ·exact ⟨fun i=>T.getD i undef,(by subst hT;rfl),hs⟩
           ·
            rintro D t w hD hp hcl ⟨O,ht,hs⟩ rest hk
            have hp:AllDone D [31]:=hp
            obtain ⟨p31_,_⟩:=hp
            simp only [hD,cq,oT] at ht hs
            subst ht
            refine Qac rfl rfl (g_d rfl ?_)
            try dsimp only [Qae,Qaf]
            refine hk _ _ ⟨O,?_,hs.cast ?_⟩<;>simp only [oT,cq,Nat.reduceBEq]
           ·
            rintro D t w hD hp hcl ⟨O,ht,hs⟩ rest hk
            have hp:AllDone D [31]:=hp
            obtain ⟨p31_,_⟩:=hp
            have q35_:=ny hcl 35 0 hD
            have q36_:=ny hcl 36 0 q35_
            simp only [hD,q35_,q36_,cq,oT] at ht hs
            subst ht
            refine Qac rfl rfl (g_d rfl ?_)
            try dsimp only [Qae,Qaf]
            refine hk _ _ ⟨O,?_,hs.cast ?_⟩<;>simp only [oT,cq,Nat.reduceBEq,q35_,q36_]
           ·
            rintro D t w hD hp hcl ⟨O,ht,hs⟩ rest hk
            have hp:AllDone D [31]:=hp
            obtain ⟨p31_,_⟩:=hp
            have q35_:=ny hcl 35 1 hD
            have q36_:=ny hcl 36 0 q35_
            simp only [hD,q35_,q36_,cq,oT] at ht hs
            subst ht
            refine Qac rfl rfl (g_d rfl ?_)
            try dsimp only [Qae,Qaf]
            refine hk _ _ ⟨O,?_,hs.cast ?_⟩<;>simp only [oT,cq,Nat.reduceBEq,q35_,q36_]
           ·
            rintro D t w hD hp hcl ⟨O,ht,hs⟩ rest hk
            have hp:AllDone D [33,34,31]:=hp
            obtain ⟨p33_,p34_,p31_,_⟩:=hp
            have q36_:=ny hcl 36 0 hD
            simp only [hD,p33_,p34_,q36_,cq,oT] at ht hs
            subst ht
            refine Qac rfl rfl (g_d rfl ?_)
            try dsimp only [Qae,Qaf]
            refine hk _ _ ⟨O,?_,hs.cast ?_⟩<;>simp only [oT,cq,Nat.reduceBEq,p33_,p34_,q36_]
           ·
            rintro D t w hD hp hcl ⟨O,ht,hs⟩ rest hk
            have hp:AllDone D [35,31]:=hp
            obtain ⟨p35_,p31_,_⟩:=hp
            obtain ⟨p33_,p34_,_,_⟩:=(show D 35=true→AllDone D [33,34,31] from hcl 35 (by decide)) p35_
            simp only [hD,p33_,p34_,p35_,cq,oT] at ht hs
            subst ht
            refine Qac rfl rfl (g_d rfl ?_)
            try dsimp only [Qae,Qaf]
            refine hk _ _ ⟨O,?_,hs.cast ?_⟩<;>simp only [oT,cq,Nat.reduceBEq,p33_,p34_,p35_]
           intro D t w rest hall hO69_ hI
           obtain ⟨O,ht,hs⟩:=hI
           have p32_:=hall 32 (by decide) rfl
           have p33_:=hall 33 (by decide) rfl
           have p34_:=hall 34 (by decide) rfl
           have p35_:=hall 35 (by decide) rfl
           have p36_:=hall 36 (by decide) rfl
           simp only [p32_,p33_,p34_,p35_,p36_,cq,oT] at ht hs
           subst ht
           obtain ⟨rest,rfl,hO70_⟩:=ord_one (m:=137438953471) hO69_ rfl 37 (m':=274877906943) (by decide+kernel) rfl
           clear hO69_
           refine Qac rfl rfl (g_d rfl ?_)
           try dsimp only [Qae,Qaf]
           obtain ⟨rest,rfl,hO71_⟩:=ord_one (m:=274877906943) hO70_ rfl 38 (m':=549755813887) (by decide+kernel) rfl
           clear hO70_
           refine Qaa (v:=bool true) rfl rfl rfl (g_d rfl ?_)
           obtain rfl:=ord_end hO71_ rfl (by decide+kernel)
           refine Qab (Qah rfl (Qad (Qag [0] rfl ?_)))
           refine Qaa (v:=bool false) rfl rfl rfl (g_d rfl ?_)
           try dsimp only [Qae,Qaf]
           refine Qab ?_
           have H:=cast (congrFun hQ1_ _) H
           have H:Q false:=H
           refine Qas Tryz.func3 (v:=bool false) (res1 rfl rfl) ?_
           have hs:St _ [] _:=St.take (Γ':=[_,_]) hs
           exact ⟨_,rfl,_,H,rfl,hs⟩
          intro hb
          rw [if_neg (b_dec_f hb)] at H
          refine g_d rfl ?_
          obtain ⟨rest,rfl,hO72_⟩:=ord_one (m:=2147483647) hO67_ rfl 31 (m':=4294967295) (by decide+kernel) rfl
          clear hO67_
          refine Qaa (v:=bool false) rfl rfl rfl (g_d rfl ?_)
          obtain ⟨gd74,H⟩:=ite_getD H
          obtain ⟨ad75_,ad75_N,ad75_C,had75_⟩:=sl_at (hs.row 0 rfl) gd74.1 gd74.2
          refine Qbe ?_
          intro T hT
          refine QbB (m0:=4294967295) hO72_ rfl 137438953471 [32,33,34,35,36] [0,0,3,7,0,31,63,127,255,255,1023,2047,255,8191,16383,32767,65535,131071,262143,524287,524287,2097151,4194303,524287,524287,17301503,59244543,126353407,268435455,536870911,1073741823,2147483647,4294967295,4294967295,4294967295,30064771071,64424509439,137438953471,274877906943] (by decide+kernel) (fun D t w=>∃ O:Nat→Value,t=(oT O 0 (oT O 1 (O 20::O 21::O 22::O 23::O 24::O 25::O 26::O 27::int .i64 r46::int .i64 r47.1::O 30::O 31::O 32::v52::O 34::v55::O 36::int .i64 x59::O 38::O 39::oT O 4 (oT O 5 (oT O 6 (oT O 7 (oT O 8 (oT O 9 (oT O 10 (oT O 11 (oT O 12 (oT O 13 (oT O 14 (oT O 15 (oT O 16 (oT O 17 (oT O 18 (oT O 19 (oT O 20 (oT O 21 (oT O 22 (oT O 23 (oT O 24 (oT O 25 (oT O 26 (oT O 27 (oT O 28 (oT O 29 (oT O 30 (O 310::O 311::O 312::O 313::int .i64 x59::v52::int .i64 (r51.1.length:Int)::bool true::O 318::O 319::v52::int .i64 x59::pointer (some (ad18_.add (x59.toNat*1)))::int .i64 (rdL r51.1 x59 0)::int .i64 r47.1::int .i64 ((rdL r51.1 x59 0).tmod r47.1)::bool false::bool false::v52::int .i64 x59::pointer (some (ad41_.add (x59.toNat*1)))::int .i64 (rdL r51.1 x59 0)::int .i64 r46::bool (decide ((rdL r51.1 x59 0)>r46))::bool false::bool false::int .i64 x59::bool true::bool true::v52::int .i64 x59::pointer (some (ad62_.add (x59.toNat*1)))::int .i64 (rdL r51.1 x59 0)::v52::int .i64 x59::int .i64 (i64w (x59 - 1))::pointer (some (ad64_.add ((i64w (x59 - 1)).toNat*1)))::int .i64 (rdL r51.1 (i64w (x59 - 1)) 0)::bool (decide ((rdL r51.1 x59 0)≤(rdL r51.1 (i64w (x59 - 1)) 0)))::bool (decide ((rdL r51.1 x59 0)≤(rdL r51.1 (i64w (x59 - 1)) 0)))::bool false::bool false::cnd (D 32) v55 (O 352)::cnd (D 33) v52 (O 353)::cnd (D 34) (int .i64 x59) (O 354)::cnd (D 35) (pointer (some (ad75_.add (x59.toNat*1)))) (O 355)::cnd (D 36) (int .i64 (rdL r51.1 x59 0)) (O 356)::O 357::O 358::[]))))))))))))))))))))))))))))))∧St w0 [Row 2 (K.int .i64) v52 r51.1,Row 2 (K.int .i64) v55 r54.1] w) ?_ ⟨?_,⟨?_,⟨?_,⟨?_,⟨?_,trivial⟩⟩⟩⟩⟩ ?_
          ·exact ⟨fun i=>T.getD i undef,(by subst hT;rfl),hs⟩
          ·
           rintro D t w hD hp hcl ⟨O,ht,hs⟩ rest hk
           have hp:AllDone D [31]:=hp
           obtain ⟨p31_,_⟩:=hp
           simp only [hD,cq,oT] at ht hs
           subst ht
           refine Qaa (v:=v55) rfl rfl rfl (g_d rfl ?_)
           try dsimp only [Qae,Qaf]
           refine hk _ _ ⟨O,?_,hs.cast ?_⟩<;>simp only [oT,lq,cq,Nat.reduceBEq]
          ·
           rintro D t w hD hp hcl ⟨O,ht,hs⟩ rest hk
           have hp:AllDone D [31]:=hp
           obtain ⟨p31_,_⟩:=hp
           have q35_:=ny hcl 35 0 hD
           have q36_:=ny hcl 36 0 q35_
           simp only [hD,q35_,q36_,cq,oT] at ht hs
           subst ht
           refine Qaa (v:=v52) rfl rfl rfl (g_d rfl ?_)
           try dsimp only [Qae,Qaf]
           refine hk _ _ ⟨O,?_,hs.cast ?_⟩<;>simp only [oT,lq,cq,Nat.reduceBEq,q35_,q36_]
          ·
           rintro D t w hD hp hcl ⟨O,ht,hs⟩ rest hk
           have hp:AllDone D [31]:=hp
           obtain ⟨p31_,_⟩:=hp
           have q35_:=ny hcl 35 1 hD
           have q36_:=ny hcl 36 0 q35_
           simp only [hD,q35_,q36_,cq,oT] at ht hs
           subst ht
           refine Qaa (v:=int .i64 x59) rfl rfl rfl (g_d rfl ?_)
           try dsimp only [Qae,Qaf]
           refine hk _ _ ⟨O,?_,hs.cast ?_⟩<;>simp only [oT,lq,cq,Nat.reduceBEq,q35_,q36_]
          ·
           rintro D t w hD hp hcl ⟨O,ht,hs⟩ rest hk
           have hp:AllDone D [33,34,31]:=hp
           obtain ⟨p33_,p34_,p31_,_⟩:=hp
           have q36_:=ny hcl 36 0 hD
           simp only [hD,p33_,p34_,q36_,cq,oT] at ht hs
           subst ht
           refine Qby (κ:=(K.int .i64)) (m:=1) rfl (hs.row 0 rfl) rfl (fun _=>rfl) gd74.1 gd74.2 had75_ rfl rfl rfl rfl rfl (g_d rfl ?_)
           try dsimp only [Qae,Qaf]
           refine hk _ _ ⟨O,?_,hs.cast ?_⟩<;>simp only [oT,lq,cq,Nat.reduceBEq,p33_,p34_,q36_]
          ·
           rintro D t w hD hp hcl ⟨O,ht,hs⟩ rest hk
           have hp:AllDone D [35,31]:=hp
           obtain ⟨p35_,p31_,_⟩:=hp
           obtain ⟨p33_,p34_,_,_⟩:=(show D 35=true→AllDone D [33,34,31] from hcl 35 (by decide)) p35_
           simp only [hD,p33_,p34_,p35_,cq,oT] at ht hs
           subst ht
           refine Qat rfl rfl (v:=int .i64 (rdL r51.1 x59 0)) rfl rfl (fun _=>rfl) (cellsAt_of (fkI .i64) 0 (hs.row 0 rfl) had75_ gd74.1 gd74.2) (g_d rfl ?_)
           try dsimp only [Qae,Qaf]
           refine hk _ _ ⟨O,?_,hs.cast ?_⟩<;>simp only [oT,lq,cq,Nat.reduceBEq,p33_,p34_,p35_]
          intro D t w rest hall hO73_ hI
          obtain ⟨O,ht,hs⟩:=hI
          have p32_:=hall 32 (by decide) rfl
          have p33_:=hall 33 (by decide) rfl
          have p34_:=hall 34 (by decide) rfl
          have p35_:=hall 35 (by decide) rfl
          have p36_:=hall 36 (by decide) rfl
          simp only [p32_,p33_,p34_,p35_,p36_,cq,oT] at ht hs
          subst ht
          obtain ⟨rest,rfl,hO76_⟩:=ord_one (m:=137438953471) hO73_ rfl 37 (m':=274877906943) (by decide+kernel) rfl
          clear hO73_
          obtain ⟨r60,Hr60,H⟩:=H
          refine QaB (args:=[v55,int .i64 (rdL r51.1 x59 0)]) rfl rfl (QaC rfl (callFunc_enter Tryz.func21 rfl rfl) rfl) (Qa6.calls (a1:=r54.1) (a3:=rdL r51.1 x59 0) (hs.row 1 rfl) Hr60) ?_
          rintro _ w ⟨rfl,hs2⟩
          have hs:St _ [_,_] _:=hs.call hs2
          cases r60 with
          |true=>
           rw [if_pos rfl] at H
           refine g_d rfl ?_
           try dsimp only [Qae,Qaf]
           obtain ⟨rest,rfl,hO77_⟩:=ord_one (m:=274877906943) hO76_ rfl 38 (m':=549755813887) (by decide+kernel) rfl
           clear hO76_
           refine Qaa (v:=bool true) rfl rfl rfl (g_d rfl ?_)
           obtain rfl:=ord_end hO77_ rfl (by decide+kernel)
           refine Qab (Qah rfl (Qad (Qag [0] rfl ?_)))
           refine Qaa (v:=bool false) rfl rfl rfl (g_d rfl ?_)
           try dsimp only [Qae,Qaf]
           refine Qab ?_
           have H:=cast (congrFun hQ1_ _) H
           have H:Q false:=H
           refine Qas Tryz.func3 (v:=bool false) (res1 rfl rfl) ?_
           have hs:St _ [] _:=St.take (Γ':=[_,_]) hs
           exact ⟨_,rfl,_,H,rfl,hs⟩
          |false=>
           rw [if_neg Bool.false_ne_true] at H
           refine g_d rfl ?_
           try dsimp only [Qae,Qaf]
           obtain ⟨rest,rfl,hO78_⟩:=ord_one (m:=274877906943) hO76_ rfl 38 (m':=549755813887) (by decide+kernel) rfl
           clear hO76_
           refine Qaa (v:=bool false) rfl rfl rfl (g_d rfl ?_)
           obtain rfl:=ord_end hO78_ rfl (by decide+kernel)
           refine Qab (Qal rfl (Qay ?_))
           refine QaE ?_
           have hs:=hs.pull 1 rfl
           have hs:=hs.pull 1 rfl
           have hs:St _ [_,_] _:=St.take (Γ':=[]) hs
           exact ha _ _ ⟨true,decide ((rdL r51.1 x59 0)≤(rdL r51.1 (i64w (x59 - 1)) 0)),H,rfl,hs⟩
         intro hb
         rw [if_neg (b_dec_f hb)] at H
         refine g_d rfl ?_
         obtain ⟨rest,rfl,hO79_⟩:=ord_one (m:=262143) hO58_ rfl 18 (m':=524287) (by decide+kernel) rfl
         clear hO58_
         refine Qaa (v:=bool false) rfl rfl rfl (g_d rfl ?_)
         refine Qbe ?_
         intro T hT
         refine QbB (m0:=524287) hO79_ rfl 268435455 [19,20,21,22,23,24,25,26,27] [0,0,3,7,0,31,63,127,255,255,1023,2047,255,8191,16383,32767,65535,131071,262143,524287,524287,2097151,4194303,524287,524287,17301503,59244543,126353407,268435455,536870911,1073741823,2147483647,4294967295,4294967295,4294967295,30064771071,64424509439,137438953471,274877906943] (by decide+kernel) (fun D t w=>∃ O:Nat→Value,t=(oT O 0 (oT O 1 (O 20::O 21::O 22::O 23::O 24::O 25::O 26::O 27::int .i64 r46::int .i64 r47.1::O 30::O 31::O 32::v52::O 34::v55::O 36::int .i64 x59::O 38::O 39::oT O 4 (oT O 5 (oT O 6 (oT O 7 (oT O 8 (oT O 9 (oT O 10 (oT O 11 (oT O 12 (oT O 13 (oT O 14 (oT O 15 (oT O 16 (oT O 17 (oT O 18 (oT O 19 (oT O 20 (oT O 21 (oT O 22 (oT O 23 (oT O 24 (oT O 25 (oT O 26 (oT O 27 (oT O 28 (oT O 29 (oT O 30 (O 310::O 311::O 312::O 313::int .i64 x59::v52::int .i64 (r51.1.length:Int)::bool true::O 318::O 319::v52::int .i64 x59::pointer (some (ad18_.add (x59.toNat*1)))::int .i64 (rdL r51.1 x59 0)::int .i64 r47.1::int .i64 ((rdL r51.1 x59 0).tmod r47.1)::bool false::bool false::v52::int .i64 x59::pointer (some (ad41_.add (x59.toNat*1)))::int .i64 (rdL r51.1 x59 0)::int .i64 r46::bool (decide ((rdL r51.1 x59 0)>r46))::bool false::bool false::int .i64 x59::bool false::bool false::cnd (D 19) undef (O 339)::cnd (D 20) undef (O 340)::cnd (D 21) undef (O 341)::cnd (D 22) undef (O 342)::cnd (D 23) undef (O 343)::cnd (D 24) undef (O 344)::cnd (D 25) undef (O 345)::cnd (D 26) undef (O 346)::cnd (D 27) undef (O 347)::O 348::O 349::O 350::O 351::O 352::O 353::O 354::O 355::O 356::O 357::O 358::[]))))))))))))))))))))))))))))))∧St w0 [Row 2 (K.int .i64) v52 r51.1,Row 2 (K.int .i64) v55 r54.1] w) ?_ ⟨?_,⟨?_,⟨?_,⟨?_,⟨?_,⟨?_,⟨?_,⟨?_,⟨?_,trivial⟩⟩⟩⟩⟩⟩⟩⟩⟩ ?_
         ·exact ⟨fun i=>T.getD i undef,(by subst hT;rfl),hs⟩
         ·
          rintro D t w hD hp hcl ⟨O,ht,hs⟩ rest hk
          have hp:AllDone D [18]:=hp
          obtain ⟨p18_,_⟩:=hp
          have q21_:=ny hcl 21 0 hD
          have q22_:=ny hcl 22 0 q21_
          simp only [hD,q21_,q22_,cq,oT] at ht hs
          subst ht
          refine Qac rfl rfl (g_d rfl ?_)
          try dsimp only [Qae,Qaf]
          refine hk _ _ ⟨O,?_,hs.cast ?_⟩<;>simp only [oT,cq,Nat.reduceBEq,q21_,q22_]
         ·
          rintro D t w hD hp hcl ⟨O,ht,hs⟩ rest hk
          have hp:AllDone D [18]:=hp
          obtain ⟨p18_,_⟩:=hp
          have q21_:=ny hcl 21 1 hD
          have q22_:=ny hcl 22 0 q21_
          simp only [hD,q21_,q22_,cq,oT] at ht hs
          subst ht
          refine Qac rfl rfl (g_d rfl ?_)
          try dsimp only [Qae,Qaf]
          refine hk _ _ ⟨O,?_,hs.cast ?_⟩<;>simp only [oT,cq,Nat.reduceBEq,q21_,q22_]
         ·
          rintro D t w hD hp hcl ⟨O,ht,hs⟩ rest hk
          have hp:AllDone D [19,20,18]:=hp
          obtain ⟨p19_,p20_,p18_,_⟩:=hp
          have q22_:=ny hcl 22 0 hD
          simp only [hD,p19_,p20_,q22_,cq,oT] at ht hs
          subst ht
          refine Qac rfl rfl (g_d rfl ?_)
          try dsimp only [Qae,Qaf]
          refine hk _ _ ⟨O,?_,hs.cast ?_⟩<;>simp only [oT,cq,Nat.reduceBEq,p19_,p20_,q22_]
         ·
          rintro D t w hD hp hcl ⟨O,ht,hs⟩ rest hk
          have hp:AllDone D [21,18]:=hp
          obtain ⟨p21_,p18_,_⟩:=hp
          obtain ⟨p19_,p20_,_,_⟩:=(show D 21=true→AllDone D [19,20,18] from hcl 21 (by decide)) p21_
          simp only [hD,p19_,p20_,p21_,cq,oT] at ht hs
          subst ht
          refine Qac rfl rfl (g_d rfl ?_)
          try dsimp only [Qae,Qaf]
          refine hk _ _ ⟨O,?_,hs.cast ?_⟩<;>simp only [oT,cq,Nat.reduceBEq,p19_,p20_,p21_]
         ·
          rintro D t w hD hp hcl ⟨O,ht,hs⟩ rest hk
          have hp:AllDone D [18]:=hp
          obtain ⟨p18_,_⟩:=hp
          have q26_:=ny hcl 26 0 hD
          have q27_:=ny hcl 27 0 q26_
          simp only [hD,q26_,q27_,cq,oT] at ht hs
          subst ht
          refine Qac rfl rfl (g_d rfl ?_)
          try dsimp only [Qae,Qaf]
          refine hk _ _ ⟨O,?_,hs.cast ?_⟩<;>simp only [oT,cq,Nat.reduceBEq,q26_,q27_]
         ·
          rintro D t w hD hp hcl ⟨O,ht,hs⟩ rest hk
          have hp:AllDone D [18]:=hp
          obtain ⟨p18_,_⟩:=hp
          have q25_:=ny hcl 25 0 hD
          have q26_:=ny hcl 26 1 q25_
          have q27_:=ny hcl 27 0 q26_
          simp only [hD,q25_,q26_,q27_,cq,oT] at ht hs
          subst ht
          refine Qac rfl rfl (g_d rfl ?_)
          try dsimp only [Qae,Qaf]
          refine hk _ _ ⟨O,?_,hs.cast ?_⟩<;>simp only [oT,cq,Nat.reduceBEq,q25_,q26_,q27_]
         ·
          rintro D t w hD hp hcl ⟨O,ht,hs⟩ rest hk
          have hp:AllDone D [24,18]:=hp
          obtain ⟨p24_,p18_,_⟩:=hp
          have q26_:=ny hcl 26 1 hD
          have q27_:=ny hcl 27 0 q26_
          simp only [hD,p24_,q26_,q27_,cq,oT] at ht hs
          subst ht
          refine Qac rfl rfl (g_d rfl ?_)
          try dsimp only [Qae,Qaf]
          refine hk _ _ ⟨O,?_,hs.cast ?_⟩<;>simp only [oT,cq,Nat.reduceBEq,p24_,q26_,q27_]
         ·
          rintro D t w hD hp hcl ⟨O,ht,hs⟩ rest hk
          have hp:AllDone D [23,25,18]:=hp
          obtain ⟨p23_,p25_,p18_,_⟩:=hp
          obtain ⟨p24_,_,_⟩:=(show D 25=true→AllDone D [24,18] from hcl 25 (by decide)) p25_
          have q27_:=ny hcl 27 0 hD
          simp only [hD,p23_,p24_,p25_,q27_,cq,oT] at ht hs
          subst ht
          refine Qac rfl rfl (g_d rfl ?_)
          try dsimp only [Qae,Qaf]
          refine hk _ _ ⟨O,?_,hs.cast ?_⟩<;>simp only [oT,cq,Nat.reduceBEq,p23_,p24_,p25_,q27_]
         ·
          rintro D t w hD hp hcl ⟨O,ht,hs⟩ rest hk
          have hp:AllDone D [26,18]:=hp
          obtain ⟨p26_,p18_,_⟩:=hp
          obtain ⟨p23_,p25_,_,_⟩:=(show D 26=true→AllDone D [23,25,18] from hcl 26 (by decide)) p26_
          obtain ⟨p24_,_,_⟩:=(show D 25=true→AllDone D [24,18] from hcl 25 (by decide)) p25_
          simp only [hD,p23_,p24_,p25_,p26_,cq,oT] at ht hs
          subst ht
          refine Qac rfl rfl (g_d rfl ?_)
          try dsimp only [Qae,Qaf]
          refine hk _ _ ⟨O,?_,hs.cast ?_⟩<;>simp only [oT,cq,Nat.reduceBEq,p23_,p24_,p25_,p26_]
         as_aux_lemma =>
          intro D t w rest hall hO80_ hI
          obtain ⟨O,ht,hs⟩:=hI
          have p19_:=hall 19 (by decide) rfl
          have p20_:=hall 20 (by decide) rfl
          have p21_:=hall 21 (by decide) rfl
          have p22_:=hall 22 (by decide) rfl
          have p23_:=hall 23 (by decide) rfl
          have p24_:=hall 24 (by decide) rfl
          have p25_:=hall 25 (by decide) rfl
          have p26_:=hall 26 (by decide) rfl
          have p27_:=hall 27 (by decide) rfl
          simp only [p19_,p20_,p21_,p22_,p23_,p24_,p25_,p26_,p27_,cq,oT] at ht hs
          subst ht
          obtain ⟨rest,rfl,hO81_⟩:=ord_one (m:=268435455) hO80_ rfl 28 (m':=536870911) (by decide+kernel) rfl
          clear hO80_
          refine Qac rfl rfl (g_d rfl ?_)
          try dsimp only [Qae,Qaf]
          obtain ⟨rest,rfl,hO82_⟩:=ord_one (m:=536870911) hO81_ rfl 29 (m':=1073741823) (by decide+kernel) rfl
          clear hO81_
          refine Qaa (v:=bool false) rfl rfl rfl (g_d rfl ?_)
          obtain ⟨rest,rfl,hO83_⟩:=ord_one (m:=1073741823) hO82_ rfl 30 (m':=2147483647) (by decide+kernel) rfl
          clear hO82_
          refine Qaa (v:=bool false) rfl rfl rfl (g_d rfl ?_)
          try dsimp only [Qae,Qaf]
          obtain ⟨rest,rfl,hO84_⟩:=ord_one (m:=2147483647) hO83_ rfl 31 (m':=4294967295) (by decide+kernel) rfl
          clear hO83_
          refine Qaa (v:=bool false) rfl rfl rfl (g_d rfl ?_)
          obtain ⟨gd86,H⟩:=ite_getD H
          obtain ⟨ad87_,ad87_N,ad87_C,had87_⟩:=sl_at (hs.row 0 rfl) gd86.1 gd86.2
          refine Qbe ?_
          intro T hT
          refine QbB (m0:=4294967295) hO84_ rfl 137438953471 [32,33,34,35,36] [0,0,3,7,0,31,63,127,255,255,1023,2047,255,8191,16383,32767,65535,131071,262143,524287,524287,2097151,4194303,524287,524287,17301503,59244543,126353407,268435455,536870911,1073741823,2147483647,4294967295,4294967295,4294967295,30064771071,64424509439,137438953471,274877906943] (by decide+kernel) (fun D t w=>∃ O:Nat→Value,t=(oT O 0 (oT O 1 (O 20::O 21::O 22::O 23::O 24::O 25::O 26::O 27::int .i64 r46::int .i64 r47.1::O 30::O 31::O 32::v52::O 34::v55::O 36::int .i64 x59::O 38::O 39::oT O 4 (oT O 5 (oT O 6 (oT O 7 (oT O 8 (oT O 9 (oT O 10 (oT O 11 (oT O 12 (oT O 13 (oT O 14 (oT O 15 (oT O 16 (oT O 17 (oT O 18 (oT O 19 (oT O 20 (oT O 21 (oT O 22 (oT O 23 (oT O 24 (oT O 25 (oT O 26 (oT O 27 (oT O 28 (oT O 29 (oT O 30 (O 310::O 311::O 312::O 313::int .i64 x59::v52::int .i64 (r51.1.length:Int)::bool true::O 318::O 319::v52::int .i64 x59::pointer (some (ad18_.add (x59.toNat*1)))::int .i64 (rdL r51.1 x59 0)::int .i64 r47.1::int .i64 ((rdL r51.1 x59 0).tmod r47.1)::bool false::bool false::v52::int .i64 x59::pointer (some (ad41_.add (x59.toNat*1)))::int .i64 (rdL r51.1 x59 0)::int .i64 r46::bool (decide ((rdL r51.1 x59 0)>r46))::bool false::bool false::int .i64 x59::bool false::bool false::O 339::O 340::O 341::O 342::O 343::O 344::O 345::O 346::O 347::O 348::bool false::bool false::bool false::cnd (D 32) v55 (O 352)::cnd (D 33) v52 (O 353)::cnd (D 34) (int .i64 x59) (O 354)::cnd (D 35) (pointer (some (ad87_.add (x59.toNat*1)))) (O 355)::cnd (D 36) (int .i64 (rdL r51.1 x59 0)) (O 356)::O 357::O 358::[]))))))))))))))))))))))))))))))∧St w0 [Row 2 (K.int .i64) v52 r51.1,Row 2 (K.int .i64) v55 r54.1] w) ?_ ⟨?_,⟨?_,⟨?_,⟨?_,⟨?_,trivial⟩⟩⟩⟩⟩ ?_
          ·exact ⟨fun i=>T.getD i undef,(by subst hT;rfl),hs⟩
          ·
           rintro D t w hD hp hcl ⟨O,ht,hs⟩ rest hk
           have hp:AllDone D [31]:=hp
           obtain ⟨p31_,_⟩:=hp
           simp only [hD,cq,oT] at ht hs
           subst ht
           refine Qaa (v:=v55) rfl rfl rfl (g_d rfl ?_)
           try dsimp only [Qae,Qaf]
           refine hk _ _ ⟨O,?_,hs.cast ?_⟩<;>simp only [oT,lq,cq,Nat.reduceBEq]
          ·
           rintro D t w hD hp hcl ⟨O,ht,hs⟩ rest hk
           have hp:AllDone D [31]:=hp
           obtain ⟨p31_,_⟩:=hp
           have q35_:=ny hcl 35 0 hD
           have q36_:=ny hcl 36 0 q35_
           simp only [hD,q35_,q36_,cq,oT] at ht hs
           subst ht
           refine Qaa (v:=v52) rfl rfl rfl (g_d rfl ?_)
           try dsimp only [Qae,Qaf]
           refine hk _ _ ⟨O,?_,hs.cast ?_⟩<;>simp only [oT,lq,cq,Nat.reduceBEq,q35_,q36_]
          ·
           rintro D t w hD hp hcl ⟨O,ht,hs⟩ rest hk
           have hp:AllDone D [31]:=hp
           obtain ⟨p31_,_⟩:=hp
           have q35_:=ny hcl 35 1 hD
           have q36_:=ny hcl 36 0 q35_
           simp only [hD,q35_,q36_,cq,oT] at ht hs
           subst ht
           refine Qaa (v:=int .i64 x59) rfl rfl rfl (g_d rfl ?_)
           try dsimp only [Qae,Qaf]
           refine hk _ _ ⟨O,?_,hs.cast ?_⟩<;>simp only [oT,lq,cq,Nat.reduceBEq,q35_,q36_]
          ·
           rintro D t w hD hp hcl ⟨O,ht,hs⟩ rest hk
           have hp:AllDone D [33,34,31]:=hp
           obtain ⟨p33_,p34_,p31_,_⟩:=hp
           have q36_:=ny hcl 36 0 hD
           simp only [hD,p33_,p34_,q36_,cq,oT] at ht hs
           subst ht
           refine Qby (κ:=(K.int .i64)) (m:=1) rfl (hs.row 0 rfl) rfl (fun _=>rfl) gd86.1 gd86.2 had87_ rfl rfl rfl rfl rfl (g_d rfl ?_)
           try dsimp only [Qae,Qaf]
           refine hk _ _ ⟨O,?_,hs.cast ?_⟩<;>simp only [oT,lq,cq,Nat.reduceBEq,p33_,p34_,q36_]
          ·
           rintro D t w hD hp hcl ⟨O,ht,hs⟩ rest hk
           have hp:AllDone D [35,31]:=hp
           obtain ⟨p35_,p31_,_⟩:=hp
           obtain ⟨p33_,p34_,_,_⟩:=(show D 35=true→AllDone D [33,34,31] from hcl 35 (by decide)) p35_
           simp only [hD,p33_,p34_,p35_,cq,oT] at ht hs
           subst ht
           refine Qat rfl rfl (v:=int .i64 (rdL r51.1 x59 0)) rfl rfl (fun _=>rfl) (cellsAt_of (fkI .i64) 0 (hs.row 0 rfl) had87_ gd86.1 gd86.2) (g_d rfl ?_)
           try dsimp only [Qae,Qaf]
           refine hk _ _ ⟨O,?_,hs.cast ?_⟩<;>simp only [oT,lq,cq,Nat.reduceBEq,p33_,p34_,p35_]
          intro D t w rest hall hO85_ hI
          obtain ⟨O,ht,hs⟩:=hI
          have p32_:=hall 32 (by decide) rfl
          have p33_:=hall 33 (by decide) rfl
          have p34_:=hall 34 (by decide) rfl
          have p35_:=hall 35 (by decide) rfl
          have p36_:=hall 36 (by decide) rfl
          simp only [p32_,p33_,p34_,p35_,p36_,cq,oT] at ht hs
          subst ht
          obtain ⟨rest,rfl,hO88_⟩:=ord_one (m:=137438953471) hO85_ rfl 37 (m':=274877906943) (by decide+kernel) rfl
          clear hO85_
          obtain ⟨r61,Hr61,H⟩:=H
          refine QaB (args:=[v55,int .i64 (rdL r51.1 x59 0)]) rfl rfl (QaC rfl (callFunc_enter Tryz.func21 rfl rfl) rfl) (Qa6.calls (a1:=r54.1) (a3:=rdL r51.1 x59 0) (hs.row 1 rfl) Hr61) ?_
          rintro _ w ⟨rfl,hs2⟩
          have hs:St _ [_,_] _:=hs.call hs2
          cases r61 with
          |true=>
           rw [if_pos rfl] at H
           refine g_d rfl ?_
           obtain ⟨rest,rfl,hO89_⟩:=ord_one (m:=274877906943) hO88_ rfl 38 (m':=549755813887) (by decide+kernel) rfl
           clear hO88_
           refine Qaa (v:=bool true) rfl rfl rfl (g_d rfl ?_)
           try dsimp only [Qae,Qaf]
           obtain rfl:=ord_end hO89_ rfl (by decide+kernel)
           refine Qab (Qah rfl (Qad (Qag [0] rfl ?_)))
           refine Qaa (v:=bool false) rfl rfl rfl (g_d rfl (Qab ?_))
           have H:=cast (congrFun hQ1_ _) H
           have H:Q false:=H
           refine Qas Tryz.func3 (v:=bool false) (res1 rfl rfl) ?_
           have hs:St _ [] _:=St.take (Γ':=[_,_]) hs
           exact ⟨_,rfl,_,H,rfl,hs⟩
          |false=>
           rw [if_neg Bool.false_ne_true] at H
           refine g_d rfl ?_
           obtain ⟨rest,rfl,hO90_⟩:=ord_one (m:=274877906943) hO88_ rfl 38 (m':=549755813887) (by decide+kernel) rfl
           clear hO88_
           refine Qaa (v:=bool false) rfl rfl rfl (g_d rfl ?_)
           try dsimp only [Qae,Qaf]
           obtain rfl:=ord_end hO90_ rfl (by decide+kernel)
           refine Qab (Qal rfl (Qay ?_))
           refine QaE ?_
           have hs:=hs.pull 1 rfl
           have hs:=hs.pull 1 rfl
           have hs:St _ [_,_] _:=St.take (Γ':=[]) hs
           exact ha _ _ ⟨false,false,H,rfl,hs⟩
        intro hb
        rw [if_neg (b_dec_f hb)] at H
        refine g_d rfl (Qab (Qal rfl ?_))
        have hs:St _ [] _:=St.take (Γ':=[_,_]) hs
        refine Qa7 rfl ?_
        exact ha1_ _ _ ⟨cast (congrFun hQ1_ _) H,rfl,hs⟩
      intro ha
      refine Qag [0,1] rfl ?_
      refine Qaa (v:=int .i64 r32.2.2) rfl rfl rfl (g_d rfl ?_)
      refine Qap (B:=r32.2.2==0) rfl rfl rfl ?_ ?_
      ·
       intro hb
       rw [if_pos (b_beq_t hb)] at H
       refine g_d rfl ?_
       try dsimp only [Qae,Qaf]
       refine Qab (Qah rfl (Qad (Qag [0] rfl ?_)))
       refine Qaa (v:=bool false) rfl rfl rfl (g_d rfl (Qab (Qad (Qad (Qag [0] rfl ?_)))))
       refine Qaa (v:=int .i64 0) rfl rfl rfl (g_d rfl ?_)
       try dsimp only [Qae,Qaf]
       refine Qab ?_
       have Ho:=H
       refine Qax (J:=fun t w=>∃ x44:Bool,Qam.a6 N r35 r38 a3 r6 x44 Q∧Fr t (fun O=>(O 0::v4::O 2::O 3::O 4::v7::pointer (some ⟨b9,0,none⟩)::O 7::O 8::O 9::oT O 1 (O 20::O 21::int .i64 r35.2.1::O 23::int .i64 r38.1::O 25::bool x44::O 27::O 28::O 29::oT O 3 (oT O 4 (oT O 5 (oT O 6 (oT O 7 (oT O 8 (oT O 9 (oT O 10 (oT O 11 (oT O 12 (oT O 13 (oT O 14 (oT O 15 (oT O 16 (oT O 17 (oT O 18 (oT O 19 (oT O 20 (oT O 21 (oT O 22 (oT O 23 (oT O 24 (oT O 25 (oT O 26 (oT O 27 (oT O 28 (oT O 29 (oT O 30 (oT O 31 (oT O 32 (oT O 33 (oT O 34 (O 350::O 351::O 352::O 353::O 354::O 355::O 356::O 357::O 358::[]))))))))))))))))))))))))))))))))):List Value))∧St w0 [Row 26 (K.int .i16) v7 r6.1,Cells b9 ((encA (encI .i16)) r6.2) 28] w) ?_ ?_
       ·
        rintro t w ⟨x44,H,hf,hs⟩
        obtain ⟨O,rfl⟩:=hf.open
        try dsimp only [oT]
        unfold Qam.a6 at H
        refine Qad (Qag [0,1,2,3,4,5,6,7,8,9,10] rfl ?_)
        refine Qap (B:=x44) rfl rfl rfl ?_ ?_
        ·
         intro hb
         rw [if_pos (b_var_t hb)] at H
         refine g_d rfl ?_
         refine Qaa (v:=bool false) rfl rfl rfl (g_d rfl ?_)
         try dsimp only [Qae,Qaf]
         refine Qaa (v:=bool false) rfl rfl rfl (g_d rfl ?_)
         refine Qaa (v:=int .i64 r35.2.1) rfl rfl rfl (g_d rfl ?_)
         refine Qaa (v:=bool (decide (r35.2.1< 1))) rfl rfl rfl (g_d rfl ?_)
         refine Qap (B:=decide (r35.2.1< 1)) rfl rfl rfl ?_ ?_
         ·
          intro hb
          rw [if_pos (b_dec_t hb)] at H
          refine g_d rfl ?_
          try dsimp only [Qae,Qaf]
          refine Qaa (v:=bool true) rfl rfl rfl (g_d rfl (Qac rfl rfl (g_d rfl (Qac rfl rfl (g_d rfl (Qac rfl rfl (g_d rfl ?_)))))))
          refine Qaa (v:=bool true) rfl rfl rfl (g_d rfl ?_)
          try dsimp only [Qae,Qaf]
          refine Qab (Qah rfl (Qad (Qag [0] rfl ?_)))
          refine Qaa (v:=bool false) rfl rfl rfl (g_d rfl (Qab ?_))
          refine Qas Tryz.func3 (v:=bool false) (res1 rfl rfl) ?_
          have hs:St _ [] _:=St.take (Γ':=[_,_]) hs
          exact ⟨_,rfl,_,H,rfl,hs⟩
         intro hb
         rw [if_neg (b_dec_f hb)] at H
         refine g_d rfl ?_
         try dsimp only [Qae,Qaf]
         refine Qaa (v:=bool false) rfl rfl rfl (g_d rfl ?_)
         refine Qaa (v:=int .i64 r35.2.1) rfl rfl rfl (g_d rfl ?_)
         refine Qaa (v:=int .i64 r38.1) rfl rfl rfl (g_d rfl ?_)
         refine Qap (B:=decide (r35.2.1>r38.1)) rfl rfl rfl ?_ ?_
         ·
          intro hb
          rw [if_pos (b_dec_t hb)] at H
          refine g_d rfl ?_
          refine Qaa (v:=bool true) rfl rfl rfl (g_d rfl ?_)
          try dsimp only [Qae,Qaf]
          refine Qab (Qah rfl (Qad (Qag [0] rfl ?_)))
          refine Qaa (v:=bool false) rfl rfl rfl (g_d rfl (Qab ?_))
          refine Qas Tryz.func3 (v:=bool false) (res1 rfl rfl) ?_
          have hs:St _ [] _:=St.take (Γ':=[_,_]) hs
          exact ⟨_,rfl,_,H,rfl,hs⟩
         intro hb
         rw [if_neg (b_dec_f hb)] at H
         refine g_d rfl ?_
         refine Qaa (v:=bool false) rfl rfl rfl (g_d rfl ?_)
         try dsimp only [Qae,Qaf]
         refine Qab (Qal rfl (Qay ?_))
         have hs:=hs.pull 1 rfl
         have hs:=hs.pull 1 rfl
         have hs:St _ [_,_] _:=St.take (Γ':=[]) hs
         exact ha _ _ ⟨H,rfl,hs⟩
        intro hb
        rw [if_neg (b_var_f hb)] at H
        refine g_d rfl ?_
        refine Qaa (v:=bool true) rfl rfl rfl (g_d rfl ?_)
        try dsimp only [Qae,Qaf]
        refine Qaa (v:=bool true) rfl rfl rfl (g_d rfl (Qac rfl rfl (g_d rfl (Qac rfl rfl (g_d rfl ?_)))))
        refine Qaa (v:=bool true) rfl rfl rfl (g_d rfl ?_)
        try dsimp only [Qae,Qaf]
        refine Qaa (v:=bool true) rfl rfl rfl (g_d rfl (Qac rfl rfl (g_d rfl (Qac rfl rfl (g_d rfl (Qac rfl rfl (g_d rfl ?_)))))))
        refine Qaa (v:=bool true) rfl rfl rfl (g_d rfl ?_)
        try dsimp only [Qae,Qaf]
        refine Qab (Qah rfl (Qad (Qag [0] rfl ?_)))
        refine Qaa (v:=bool false) rfl rfl rfl (g_d rfl (Qab ?_))
        refine Qas Tryz.func3 (v:=bool false) (res1 rfl rfl) ?_
        have hs:St _ [] _:=St.take (Γ':=[_,_]) hs
        exact ⟨_,rfl,_,H,rfl,hs⟩
       intro ha1_
       have hs:=hs.pull 0 rfl
       have hs:=hs.pull 4 rfl
       have hs:=hs.pull 4 rfl
       have hs:=hs.pull 4 rfl
       have hs:St _ [_,_,_,_] _:=St.take (Γ':=[_]) hs
       refine QaL (I:=fun n_ t w=>∃ x39:Bool,∃ x40:Int,roundsD (fun s=>Qam.b6 N r6 r35 r15 s.1 s.2) n_ (x39,x40) (Ex.finD (fun s=>Qam.a6 N r35 r38 a3 r6 s Q) Q)∧Fr t (fun O=>(O 0::v4::O 2::O 3::O 4::v7::pointer (some ⟨b9,0,none⟩)::O 7::O 8::O 9::pointer (some ⟨b16,0,none⟩)::O 11::O 12::O 13::O 14::O 15::O 16::O 17::O 18::O 19::O 20::pointer (some ⟨b36,0,none⟩)::int .i64 r35.2.1::O 23::int .i64 r38.1::O 25::bool x39::int .i64 x40::O 28::O 29::oT O 3 (oT O 4 (oT O 5 (oT O 6 (oT O 7 (oT O 8 (oT O 9 (oT O 10 (oT O 11 (oT O 12 (oT O 13 (oT O 14 (oT O 15 (oT O 16 (oT O 17 (oT O 18 (oT O 19 (oT O 20 (oT O 21 (oT O 22 (oT O 23 (oT O 24 (oT O 25 (oT O 26 (oT O 27 (oT O 28 (oT O 29 (oT O 30 (oT O 31 (oT O 32 (oT O 33 (oT O 34 (O 350::O 351::O 352::O 353::O 354::O 355::O 356::O 357::O 358::[])))))))))))))))))))))))))))))))):List Value))∧St w0 [Row 26 (K.int .i16) v7 r6.1,Cells b9 ((encA (encI .i16)) r6.2) 28,Cells b16 ((encA (encI .i16)) r15.1) 28,Cells b36 ((encA (encI .i16)) r35.1) 28] w) N ⟨false,0,Ho,rfl,hs⟩ ?_ ?_
       ·
        rintro _ _ ⟨x39,x40,h,_⟩
        exact (h:False).elim
       intro n_ ih1_
       rintro t w ⟨x39,x40,Ho,hf,hs⟩
       obtain ⟨O,rfl⟩:=hf.open
       try dsimp only [oT]
       obtain ⟨x14_,hQ1_,H⟩:=roundsD_succ Ho
       have H:Qam.b6 N r6 r35 r15 x39 x40 x14_:=H
       unfold Qam.b6 at H
       refine Qad (Qad (Qag [0,1,2,3] rfl ?_))
       refine Qaa (v:=int .i64 x40) rfl rfl rfl (g_d rfl ?_)
       refine Qaa (v:=v7) rfl rfl rfl (g_d rfl ?_)
       refine Qbc (hs.row 0 rfl) rfl rfl rfl rfl rfl (g_d rfl ?_)
       refine Qap (B:=decide (x40< (r6.1.length:Int))) rfl rfl rfl ?_ ?_
       · as_aux_lemma =>
        intro hb
        rw [if_pos (b_dec_t hb)] at H
        refine g_d rfl (Qab (Qah rfl (Qay (Qad ?_))))
        refine Qax (J:=(fun t w=>∃ x42:Bool,Qam.j8 N x40 x42 x14_∧Fr t (fun O=>(O 0::v4::O 2::O 3::O 4::v7::pointer (some ⟨b9,0,none⟩)::O 7::O 8::O 9::pointer (some ⟨b16,0,none⟩)::O 11::O 12::O 13::O 14::O 15::O 16::O 17::O 18::O 19::O 20::pointer (some ⟨b36,0,none⟩)::int .i64 r35.2.1::O 23::int .i64 r38.1::O 25::bool x42::int .i64 x40::O 28::O 29::oT O 3 (oT O 4 (oT O 5 (oT O 6 (oT O 7 (oT O 8 (oT O 9 (oT O 10 (oT O 11 (oT O 12 (oT O 13 (oT O 14 (oT O 15 (oT O 16 (oT O 17 (oT O 18 (oT O 19 (oT O 20 (oT O 21 (oT O 22 (oT O 23 (oT O 24 (oT O 25 (oT O 26 (oT O 27 (oT O 28 (oT O 29 (oT O 30 (oT O 31 (oT O 32 (oT O 33 (oT O 34 (O 350::O 351::O 352::O 353::O 354::O 355::O 356::O 357::O 358::[])))))))))))))))))))))))))))))))):List Value))∧St w0 [Row 26 (K.int .i16) v7 r6.1,Cells b9 ((encA (encI .i16)) r6.2) 28,Cells b16 ((encA (encI .i16)) r15.1) 28,Cells b36 ((encA (encI .i16)) r35.1) 28] w)) ?_ ?_
        ·
         rintro t w ⟨x42,H,hf,hs⟩
         obtain ⟨O,rfl⟩:=hf.open
         try dsimp only [oT]
         unfold Qam.j8 at H
         refine Qag [0,1,2] rfl ?_
         refine Qaa (v:=int .i64 x40) rfl rfl rfl (g_d rfl ?_)
         refine Qaa (v:=int .i64 (i64w (x40+1))) rfl rfl rfl (g_d rfl ?_)
         refine Qaa (v:=int .i64 (i64w (x40+1))) rfl rfl rfl (g_d rfl ?_)
         try dsimp only [Qae,Qaf]
         refine Qab ?_
         have hs:=hs.pull 3 rfl
         have hs:=hs.pull 3 rfl
         have hs:=hs.pull 3 rfl
         have hs:=hs.pull 3 rfl
         have hs:St _ [_,_,_,_] _:=St.take (Γ':=[]) hs
         exact ih1_ _ _ ⟨x42,i64w (x40+1),cast (congrFun hQ1_ _) H,rfl,hs⟩
        intro ha
        refine Qad (Qad ?_)
        refine Qb2 (n:=12) rfl [0,1,2,3,4,5,6,7,8,9,10,11] [0,1,2,3,4,5,6,7,8,9,10,11] rfl rfl ?_
        intro rest w hh hbw hO
        have hs:=hs.samew hh hbw
        try dsimp only [Qae,Qaf]
        obtain ⟨gd9,H⟩:=ite_getD H
        obtain ⟨gd10,H⟩:=ite_getD H
        refine Qbe ?_
        intro T hT
        refine QbB (m0:=0) hO rfl 2047 [0,1,2,3,4,5,6,7,8,9,10] [0,1,3,7,0,16,48,112,0,496,1008,2047] (by decide+kernel) (fun D t w=>∃ O:Nat→Value,t=(O 0::v4::O 2::O 3::O 4::v7::pointer (some ⟨b9,0,none⟩)::O 7::O 8::O 9::pointer (some ⟨b16,0,none⟩)::O 11::O 12::O 13::O 14::O 15::O 16::O 17::O 18::O 19::O 20::pointer (some ⟨b36,0,none⟩)::int .i64 r35.2.1::O 23::int .i64 r38.1::O 25::bool x39::int .i64 x40::O 28::O 29::oT O 3 (oT O 4 (oT O 5 (oT O 6 (oT O 7 (oT O 8 (oT O 9 (oT O 10 (oT O 11 (oT O 12 (oT O 13 (oT O 14 (oT O 15 (oT O 16 (oT O 17 (oT O 18 (O 190::O 191::O 192::O 193::O 194::O 195::O 196::int .i64 x40::v7::int .i64 (r6.1.length:Int)::bool true::O 201::O 202::cnd (D 0) (int .i64 x40) (O 203)::cnd (D 1) (pointer (some ⟨b36,0+x40.toNat*1,none⟩)) (O 204)::cnd (D 2) (int .i16 (r35.1.get x40 0)) (O 205)::cnd (D 3) (int .i64 (i64w (r35.1.get x40 0))) (O 206)::cnd (D 4) (int .i64 x40) (O 207)::cnd (D 5) (pointer (some ⟨b16,0+x40.toNat*1,none⟩)) (O 208)::cnd (D 6) (int .i16 (r15.1.get x40 0)) (O 209)::cnd (D 7) (int .i64 (i64w (r15.1.get x40 0))) (O 210)::cnd (D 8) (int .i64 r35.2.1) (O 211)::cnd (D 9) (int .i64 (i64w ((i64w (r15.1.get x40 0)) - r35.2.1))) (O 212)::cnd (D 10) (int .i64 (mxI (i64w ((i64w (r15.1.get x40 0)) - r35.2.1)) 0)) (O 213)::O 214::O 215::O 216::O 217::O 218::O 219::oT O 22 (oT O 23 (oT O 24 (oT O 25 (oT O 26 (oT O 27 (oT O 28 (oT O 29 (oT O 30 (oT O 31 (oT O 32 (oT O 33 (oT O 34 (O 350::O 351::O 352::O 353::O 354::O 355::O 356::O 357::O 358::[]))))))))))))))))))))))))))))))∧St w0 [Row 26 (K.int .i16) v7 r6.1,Cells b9 ((encA (encI .i16)) r6.2) 28,Cells b16 ((encA (encI .i16)) r15.1) 28,Cells b36 ((encA (encI .i16)) r35.1) 28] w) ?_ ⟨?_,⟨?_,⟨?_,⟨?_,⟨?_,⟨?_,⟨?_,⟨?_,⟨?_,⟨?_,⟨?_,trivial⟩⟩⟩⟩⟩⟩⟩⟩⟩⟩⟩ ?_
        ·exact ⟨fun i=>T.getD i undef,(by subst hT;rfl),hs⟩
        ·
         rintro D t w hD hp hcl ⟨O,ht,hs⟩ rest hk
         have hp:AllDone D []:=hp
         have q1_:=ny hcl 1 0 hD
         have q2_:=ny hcl 2 0 q1_
         have q3_:=ny hcl 3 0 q2_
         simp only [hD,q1_,q2_,q3_,cq,oT] at ht hs
         subst ht
         refine Qaa (v:=int .i64 x40) rfl rfl rfl (g_d rfl ?_)
         try dsimp only [Qae,Qaf]
         refine hk _ _ ⟨O,?_,hs.cast ?_⟩<;>simp only [oT,lq,cq,Nat.reduceBEq,q1_,q2_,q3_]
        ·
         rintro D t w hD hp hcl ⟨O,ht,hs⟩ rest hk
         have hp:AllDone D [0]:=hp
         obtain ⟨p0_,_⟩:=hp
         have q2_:=ny hcl 2 0 hD
         have q3_:=ny hcl 3 0 q2_
         simp only [hD,p0_,q2_,q3_,cq,oT] at ht hs
         subst ht
         refine Qbp (n:=x40) (m:=1) rfl (fun _=>rfl) gd9.1 gd9.2 rfl rfl rfl rfl rfl (g_d rfl ?_)
         try dsimp only [Qae,Qaf]
         refine hk _ _ ⟨O,?_,hs.cast ?_⟩<;>simp only [oT,lq,cq,Nat.reduceBEq,p0_,q2_,q3_]
        ·
         rintro D t w hD hp hcl ⟨O,ht,hs⟩ rest hk
         have hp:AllDone D [1]:=hp
         obtain ⟨p1_,_⟩:=hp
         obtain ⟨p0_,_⟩:=(show D 1=true→AllDone D [0] from hcl 1 (by decide)) p1_
         have q3_:=ny hcl 3 0 hD
         simp only [hD,p0_,p1_,q3_,cq,oT] at ht hs
         subst ht
         refine Qat rfl rfl (v:=int .i16 (r35.1.get x40 0)) rfl rfl (fun _=>rfl) (by rw [Nat.zero_add];exact cells_load (hs.cells 3 rfl) _ _ (encA_at (fkI .i16).len _ _ 0 gd9.1 gd9.2)) (g_d rfl ?_)
         try dsimp only [Qae,Qaf]
         refine hk _ _ ⟨O,?_,hs.cast ?_⟩<;>simp only [oT,lq,cq,Nat.reduceBEq,p0_,p1_,q3_]
        ·
         rintro D t w hD hp hcl ⟨O,ht,hs⟩ rest hk
         have hp:AllDone D [2]:=hp
         obtain ⟨p2_,_⟩:=hp
         obtain ⟨p1_,_⟩:=(show D 2=true→AllDone D [1] from hcl 2 (by decide)) p2_
         obtain ⟨p0_,_⟩:=(show D 1=true→AllDone D [0] from hcl 1 (by decide)) p1_
         simp only [hD,p0_,p1_,p2_,cq,oT] at ht hs
         subst ht
         refine Qaa (v:=int .i64 (i64w (r35.1.get x40 0))) rfl rfl rfl (g_d rfl ?_)
         try dsimp only [Qae,Qaf]
         refine hk _ _ ⟨O,?_,hs.cast ?_⟩<;>simp only [oT,lq,cq,Nat.reduceBEq,p0_,p1_,p2_]
        ·
         rintro D t w hD hp hcl ⟨O,ht,hs⟩ rest hk
         have hp:AllDone D []:=hp
         have q5_:=ny hcl 5 0 hD
         have q6_:=ny hcl 6 0 q5_
         have q7_:=ny hcl 7 0 q6_
         have q9_:=ny hcl 9 0 q7_
         have q10_:=ny hcl 10 0 q9_
         simp only [hD,q5_,q6_,q7_,q9_,q10_,cq,oT] at ht hs
         subst ht
         refine Qaa (v:=int .i64 x40) rfl rfl rfl (g_d rfl ?_)
         try dsimp only [Qae,Qaf]
         refine hk _ _ ⟨O,?_,hs.cast ?_⟩<;>simp only [oT,lq,cq,Nat.reduceBEq,q5_,q6_,q7_,q9_,q10_]
        ·
         rintro D t w hD hp hcl ⟨O,ht,hs⟩ rest hk
         have hp:AllDone D [4]:=hp
         obtain ⟨p4_,_⟩:=hp
         have q6_:=ny hcl 6 0 hD
         have q7_:=ny hcl 7 0 q6_
         have q9_:=ny hcl 9 0 q7_
         have q10_:=ny hcl 10 0 q9_
         simp only [hD,p4_,q6_,q7_,q9_,q10_,cq,oT] at ht hs
         subst ht
         refine Qbp (n:=x40) (m:=1) rfl (fun _=>rfl) gd10.1 gd10.2 rfl rfl rfl rfl rfl (g_d rfl ?_)
         try dsimp only [Qae,Qaf]
         refine hk _ _ ⟨O,?_,hs.cast ?_⟩<;>simp only [oT,lq,cq,Nat.reduceBEq,p4_,q6_,q7_,q9_,q10_]
        ·
         rintro D t w hD hp hcl ⟨O,ht,hs⟩ rest hk
         have hp:AllDone D [5]:=hp
         obtain ⟨p5_,_⟩:=hp
         obtain ⟨p4_,_⟩:=(show D 5=true→AllDone D [4] from hcl 5 (by decide)) p5_
         have q7_:=ny hcl 7 0 hD
         have q9_:=ny hcl 9 0 q7_
         have q10_:=ny hcl 10 0 q9_
         simp only [hD,p4_,p5_,q7_,q9_,q10_,cq,oT] at ht hs
         subst ht
         refine Qat rfl rfl (v:=int .i16 (r15.1.get x40 0)) rfl rfl (fun _=>rfl) (by rw [Nat.zero_add];exact cells_load (hs.cells 2 rfl) _ _ (encA_at (fkI .i16).len _ _ 0 gd10.1 gd10.2)) (g_d rfl ?_)
         try dsimp only [Qae,Qaf]
         refine hk _ _ ⟨O,?_,hs.cast ?_⟩<;>simp only [oT,lq,cq,Nat.reduceBEq,p4_,p5_,q7_,q9_,q10_]
        ·
         rintro D t w hD hp hcl ⟨O,ht,hs⟩ rest hk
         have hp:AllDone D [6]:=hp
         obtain ⟨p6_,_⟩:=hp
         obtain ⟨p5_,_⟩:=(show D 6=true→AllDone D [5] from hcl 6 (by decide)) p6_
         obtain ⟨p4_,_⟩:=(show D 5=true→AllDone D [4] from hcl 5 (by decide)) p5_
         have q9_:=ny hcl 9 0 hD
         have q10_:=ny hcl 10 0 q9_
         simp only [hD,p4_,p5_,p6_,q9_,q10_,cq,oT] at ht hs
         subst ht
         refine Qaa (v:=int .i64 (i64w (r15.1.get x40 0))) rfl rfl rfl (g_d rfl ?_)
         try dsimp only [Qae,Qaf]
         refine hk _ _ ⟨O,?_,hs.cast ?_⟩<;>simp only [oT,lq,cq,Nat.reduceBEq,p4_,p5_,p6_,q9_,q10_]
        ·
         rintro D t w hD hp hcl ⟨O,ht,hs⟩ rest hk
         have hp:AllDone D []:=hp
         have q9_:=ny hcl 9 1 hD
         have q10_:=ny hcl 10 0 q9_
         simp only [hD,q9_,q10_,cq,oT] at ht hs
         subst ht
         refine Qaa (v:=int .i64 r35.2.1) rfl rfl rfl (g_d rfl ?_)
         try dsimp only [Qae,Qaf]
         refine hk _ _ ⟨O,?_,hs.cast ?_⟩<;>simp only [oT,lq,cq,Nat.reduceBEq,q9_,q10_]
        ·
         rintro D t w hD hp hcl ⟨O,ht,hs⟩ rest hk
         have hp:AllDone D [7,8]:=hp
         obtain ⟨p7_,p8_,_⟩:=hp
         obtain ⟨p6_,_⟩:=(show D 7=true→AllDone D [6] from hcl 7 (by decide)) p7_
         obtain ⟨p5_,_⟩:=(show D 6=true→AllDone D [5] from hcl 6 (by decide)) p6_
         obtain ⟨p4_,_⟩:=(show D 5=true→AllDone D [4] from hcl 5 (by decide)) p5_
         have q10_:=ny hcl 10 0 hD
         simp only [hD,p4_,p5_,p6_,p7_,p8_,q10_,cq,oT] at ht hs
         subst ht
         refine Qaa (v:=int .i64 (i64w ((i64w (r15.1.get x40 0)) - r35.2.1))) rfl rfl rfl (g_d rfl ?_)
         try dsimp only [Qae,Qaf]
         refine hk _ _ ⟨O,?_,hs.cast ?_⟩<;>simp only [oT,lq,cq,Nat.reduceBEq,p4_,p5_,p6_,p7_,p8_,q10_]
        ·
         rintro D t w hD hp hcl ⟨O,ht,hs⟩ rest hk
         have hp:AllDone D [9]:=hp
         obtain ⟨p9_,_⟩:=hp
         obtain ⟨p7_,p8_,_⟩:=(show D 9=true→AllDone D [7,8] from hcl 9 (by decide)) p9_
         obtain ⟨p6_,_⟩:=(show D 7=true→AllDone D [6] from hcl 7 (by decide)) p7_
         obtain ⟨p5_,_⟩:=(show D 6=true→AllDone D [5] from hcl 6 (by decide)) p6_
         obtain ⟨p4_,_⟩:=(show D 5=true→AllDone D [4] from hcl 5 (by decide)) p5_
         simp only [hD,p4_,p5_,p6_,p7_,p8_,p9_,cq,oT] at ht hs
         subst ht
         refine Qaa (v:=int .i64 (mxI (i64w ((i64w (r15.1.get x40 0)) - r35.2.1)) 0)) rfl rfl (Qcn rfl rfl rfl) (g_d rfl ?_)
         try dsimp only [Qae,Qaf]
         refine hk _ _ ⟨O,?_,hs.cast ?_⟩<;>simp only [oT,lq,cq,Nat.reduceBEq,p4_,p5_,p6_,p7_,p8_,p9_]
        intro D t w rest hall hO8_ hI
        obtain ⟨O,ht,hs⟩:=hI
        have p0_:=hall 0 (by decide) rfl
        have p1_:=hall 1 (by decide) rfl
        have p2_:=hall 2 (by decide) rfl
        have p3_:=hall 3 (by decide) rfl
        have p4_:=hall 4 (by decide) rfl
        have p5_:=hall 5 (by decide) rfl
        have p6_:=hall 6 (by decide) rfl
        have p7_:=hall 7 (by decide) rfl
        have p8_:=hall 8 (by decide) rfl
        have p9_:=hall 9 (by decide) rfl
        have p10_:=hall 10 (by decide) rfl
        simp only [p0_,p1_,p2_,p3_,p4_,p5_,p6_,p7_,p8_,p9_,p10_,cq,oT] at ht hs
        subst ht
        obtain ⟨rest,rfl,hO11_⟩:=ord_one (m:=2047) hO8_ rfl 11 (m':=4095) (by decide+kernel) rfl
        clear hO8_
        refine Qap (B:=(i64w (r35.1.get x40 0)) !=(mxI (i64w ((i64w (r15.1.get x40 0)) - r35.2.1)) 0)) rfl rfl rfl ?_ ?_
        ·
         intro hb
         rw [if_neg (b_bne_t hb)] at H
         refine g_d rfl ?_
         obtain rfl:=ord_end hO11_ rfl (by decide+kernel)
         refine Qab (Qah rfl (Qad (Qag [0] rfl ?_)))
         refine Qaa (v:=bool false) rfl rfl rfl (g_d rfl ?_)
         try dsimp only [Qae,Qaf]
         refine Qab ?_
         have H:=cast (congrFun hQ1_ _) H
         have H:Q false:=H
         refine Qas Tryz.func3 (v:=bool false) (res1 rfl rfl) ?_
         have hs:St _ [] _:=St.take (Γ':=[_,_,_,_]) hs
         exact ⟨_,rfl,_,H,rfl,hs⟩
        intro hb
        rw [if_pos (b_bne_f hb)] at H
        refine g_d rfl ?_
        try dsimp only [Qae,Qaf]
        obtain rfl:=ord_end hO11_ rfl (by decide+kernel)
        refine Qab (Qal rfl (Qay (Qag [0,1,2,3,4,5,6,7,8,9,10,11,12,13] rfl ?_)))
        refine Qap (B:=x39) rfl rfl rfl ?_ ?_
        ·
         intro hb
         rw [if_pos (b_var_t hb)] at H
         refine g_d rfl ?_
         refine Qaa (v:=bool true) rfl rfl rfl (g_d rfl (Qac rfl rfl (g_d rfl (Qac rfl rfl (g_d rfl (Qac rfl rfl (g_d rfl ?_)))))))
         try dsimp only [Qae,Qaf]
         refine Qac rfl rfl (g_d rfl (Qac rfl rfl (g_d rfl (Qac rfl rfl (g_d rfl (Qac rfl rfl (g_d rfl ?_)))))))
         try dsimp only [Qae,Qaf]
         refine Qac rfl rfl (g_d rfl (Qac rfl rfl (g_d rfl ?_)))
         try dsimp only [Qae,Qaf]
         refine Qac rfl rfl (g_d rfl ?_)
         refine Qaa (v:=bool true) rfl rfl rfl (g_d rfl ?_)
         try dsimp only [Qae,Qaf]
         refine Qaa (v:=bool true) rfl rfl rfl (g_d rfl (Qab ?_))
         refine QaE ?_
         have hs:=hs.pull 3 rfl
         have hs:=hs.pull 3 rfl
         have hs:=hs.pull 3 rfl
         have hs:=hs.pull 3 rfl
         have hs:St _ [_,_,_,_] _:=St.take (Γ':=[]) hs
         exact ha _ _ ⟨true,H,rfl,hs⟩
        intro hb
        rw [if_neg (b_var_f hb)] at H
        refine g_d rfl ?_
        refine Qaa (v:=bool false) rfl rfl rfl (g_d rfl ?_)
        refine Qaa (v:=int .i64 x40) rfl rfl rfl (g_d rfl ?_)
        obtain ⟨g12,H⟩:=ite_getD H
        refine Qbp (n:=x40) (m:=1) rfl (fun _=>rfl) g12.1 g12.2 rfl rfl rfl rfl rfl (g_d rfl ?_)
        refine Qat rfl rfl (v:=int .i16 (r15.1.get x40 0)) rfl rfl (fun _=>rfl) (by rw [Nat.zero_add];exact cells_load (hs.cells 2 rfl) _ _ (encA_at (fkI .i16).len _ _ 0 g12.1 g12.2)) (g_d rfl ?_)
        try dsimp only [Qae,Qaf]
        refine Qap (B:=decide ((r15.1.get x40 0)>0)) rfl rfl rfl ?_ ?_
        ·
         intro hb
         rw [if_pos (b_dec_t hb)] at H
         refine g_d rfl ?_
         try dsimp only [Qae,Qaf]
         refine Qaa (v:=bool true) rfl rfl rfl (g_d rfl ?_)
         refine Qaa (v:=int .i64 x40) rfl rfl rfl (g_d rfl ?_)
         obtain ⟨g13,H⟩:=ite_getD H
         refine Qbp (n:=x40) (m:=1) rfl (fun _=>rfl) g13.1 g13.2 rfl rfl rfl rfl rfl (g_d rfl ?_)
         refine Qat rfl rfl (v:=int .i16 (r35.1.get x40 0)) rfl rfl (fun _=>rfl) (by rw [Nat.zero_add];exact cells_load (hs.cells 3 rfl) _ _ (encA_at (fkI .i16).len _ _ 0 g13.1 g13.2)) (g_d rfl ?_)
         try dsimp only [Qae,Qaf]
         refine Qaa (v:=bool ((r35.1.get x40 0)==0)) rfl rfl rfl (g_d rfl ?_)
         refine Qaa (v:=bool ((r35.1.get x40 0)==0)) rfl rfl rfl (g_d rfl ?_)
         try dsimp only [Qae,Qaf]
         refine Qaa (v:=bool ((r35.1.get x40 0)==0)) rfl rfl rfl (g_d rfl ?_)
         refine Qaa (v:=bool ((r35.1.get x40 0)==0)) rfl rfl rfl (g_d rfl ?_)
         try dsimp only [Qae,Qaf]
         refine Qab ?_
         refine QaE ?_
         have hs:=hs.pull 3 rfl
         have hs:=hs.pull 3 rfl
         have hs:=hs.pull 3 rfl
         have hs:=hs.pull 3 rfl
         have hs:St _ [_,_,_,_] _:=St.take (Γ':=[]) hs
         exact ha _ _ ⟨(r35.1.get x40 0)==0,H,rfl,hs⟩
        intro hb
        rw [if_neg (b_dec_f hb)] at H
        refine g_d rfl ?_
        refine Qaa (v:=bool false) rfl rfl rfl (g_d rfl (Qac rfl rfl (g_d rfl (Qac rfl rfl (g_d rfl ?_)))))
        try dsimp only [Qae,Qaf]
        refine Qac rfl rfl (g_d rfl (Qac rfl rfl (g_d rfl ?_)))
        try dsimp only [Qae,Qaf]
        refine Qaa (v:=bool false) rfl rfl rfl (g_d rfl ?_)
        refine Qaa (v:=bool false) rfl rfl rfl (g_d rfl ?_)
        try dsimp only [Qae,Qaf]
        refine Qaa (v:=bool false) rfl rfl rfl (g_d rfl (Qab ?_))
        refine QaE ?_
        have hs:=hs.pull 3 rfl
        have hs:=hs.pull 3 rfl
        have hs:=hs.pull 3 rfl
        have hs:=hs.pull 3 rfl
        have hs:St _ [_,_,_,_] _:=St.take (Γ':=[]) hs
        exact ha _ _ ⟨false,H,rfl,hs⟩
       intro hb
       rw [if_neg (b_dec_f hb)] at H
       refine g_d rfl ?_
       try dsimp only [Qae,Qaf]
       refine Qab (Qal rfl ?_)
       have hs:=hs.pull 1 rfl
       have hs:=hs.pull 1 rfl
       have hs:St _ [_,_] _:=St.take (Γ':=[_,_]) hs
       refine Qa7 rfl ?_
       exact ha1_ _ _ ⟨x39,cast (congrFun hQ1_ _) H,rfl,hs⟩
      intro hb
      rw [if_neg (b_beq_f hb)] at H
      refine g_d rfl (Qab (Qal rfl (Qay ?_)))
      have hs:=hs.pull 3 rfl
      have hs:=hs.pull 3 rfl
      have hs:St _ [_,_] _:=St.take (Γ':=[_,_,_]) hs
      exact ha _ _ ⟨H,rfl,hs⟩
     intro ha1_
     have hs:=hs.pull 1 rfl
     have hs:=hs.pull 3 rfl
     have hs:=hs.pull 5 rfl
     have hs:=hs.pull 6 rfl
     have hs:St _ [_,_,_,_] _:=St.take (Γ':=[_,_,_]) hs
     refine QaL (I:=fun n_ t w=>∃ x30:Int,roundsD (fun s=>Qam.b0 N r6 r22 s) n_ x30 (Ex.finD (fun s=>Qam.a0 N r6 r15 a3 Q) Q)∧Fr t (fun O=>(O 0::v4::O 2::O 3::O 4::v7::pointer (some ⟨b9,0,none⟩)::O 7::O 8::O 9::pointer (some ⟨b16,0,none⟩)::O 11::O 12::O 13::v23::O 15::O 16::int .i64 x30::O 18::O 19::oT O 2 (oT O 3 (oT O 4 (oT O 5 (oT O 6 (oT O 7 (oT O 8 (oT O 9 (oT O 10 (oT O 11 (oT O 12 (oT O 13 (oT O 14 (oT O 15 (oT O 16 (oT O 17 (oT O 18 (oT O 19 (oT O 20 (oT O 21 (oT O 22 (oT O 23 (oT O 24 (oT O 25 (oT O 26 (oT O 27 (oT O 28 (oT O 29 (oT O 30 (oT O 31 (oT O 32 (oT O 33 (oT O 34 (O 350::O 351::O 352::O 353::O 354::O 355::O 356::O 357::O 358::[]))))))))))))))))))))))))))))))))):List Value))∧St w0 [Row 26 (K.int .i16) v7 r6.1,Cells b9 ((encA (encI .i16)) r6.2) 28,Cells b16 ((encA (encI .i16)) r15.1) 28,Row 26 (K.int .i16) v23 r22.1] w) N ⟨0,Ho,rfl,hs⟩ ?_ ?_
     ·
      rintro _ _ ⟨x30,h,_⟩
      exact (h:False).elim
     intro n_ ih1_
     rintro t w ⟨x30,Ho,hf,hs⟩
     obtain ⟨O,rfl⟩:=hf.open
     try dsimp only [oT]
     obtain ⟨x92_,hQ1_,H⟩:=roundsD_succ Ho
     have H:Qam.b0 N r6 r22 x30 x92_:=H
     unfold Qam.b0 at H
     refine Qad (Qad (Qag [0,1,2,3] rfl ?_))
     refine Qaa (v:=int .i64 x30) rfl rfl rfl (g_d rfl ?_)
     refine Qaa (v:=v7) rfl rfl rfl (g_d rfl ?_)
     refine Qbc (hs.row 0 rfl) rfl rfl rfl rfl rfl (g_d rfl ?_)
     try dsimp only [Qae,Qaf]
     refine Qap (B:=decide (x30< (r6.1.length:Int))) rfl rfl rfl ?_ ?_
     · as_aux_lemma =>
      intro hb
      rw [if_pos (b_dec_t hb)] at H
      refine g_d rfl ?_
      try dsimp only [Qae,Qaf]
      refine Qab (Qah rfl (Qay (Qad ?_)))
      refine Qbh (Qad ?_)
      refine Qb2 (n:=9) rfl [0,1,2,3,4,5,6,7,8] [0,1,2,3,4,5,6,7,8] rfl rfl ?_
      intro rest w hh hbw hO
      have hs:=hs.samew hh hbw
      try dsimp only [Qae,Qaf]
      obtain ⟨gd3,H⟩:=ite_getD H
      obtain ⟨ad4_,ad4_N,ad4_C,had4_⟩:=sl_at (hs.row 3 rfl) gd3.1 gd3.2
      obtain ⟨gd5,H⟩:=ite_getD H
      obtain ⟨ad6_,ad6_N,ad6_C,had6_⟩:=sl_at (hs.row 0 rfl) gd5.1 gd5.2
      refine Qbe ?_
      intro T hT
      refine QbB (m0:=0) hO rfl 255 [0,1,2,3,4,5,6,7] [0,0,3,7,0,0,48,112,255] (by decide+kernel) (fun D t w=>∃ O:Nat→Value,t=(O 0::v4::O 2::O 3::O 4::v7::pointer (some ⟨b9,0,none⟩)::O 7::O 8::O 9::pointer (some ⟨b16,0,none⟩)::O 11::O 12::O 13::v23::O 15::O 16::int .i64 x30::O 18::O 19::oT O 2 (oT O 3 (oT O 4 (oT O 5 (oT O 6 (oT O 7 (oT O 8 (oT O 9 (oT O 10 (oT O 11 (oT O 12 (O 130::O 131::O 132::O 133::O 134::O 135::int .i64 x30::v7::int .i64 (r6.1.length:Int)::bool true::O 140::O 141::cnd (D 0) v23 (O 142)::cnd (D 1) (int .i64 x30) (O 143)::cnd (D 2) (pointer (some (ad4_.add (x30.toNat*1)))) (O 144)::cnd (D 3) (int .i16 (rdL r22.1 x30 0)) (O 145)::cnd (D 4) v7 (O 146)::cnd (D 5) (int .i64 x30) (O 147)::cnd (D 6) (pointer (some (ad6_.add (x30.toNat*1)))) (O 148)::cnd (D 7) (int .i16 (rdL r6.1 x30 0)) (O 149)::oT O 15 (oT O 16 (oT O 17 (oT O 18 (oT O 19 (oT O 20 (oT O 21 (oT O 22 (oT O 23 (oT O 24 (oT O 25 (oT O 26 (oT O 27 (oT O 28 (oT O 29 (oT O 30 (oT O 31 (oT O 32 (oT O 33 (oT O 34 (O 350::O 351::O 352::O 353::O 354::O 355::O 356::O 357::O 358::[]))))))))))))))))))))))))))))))))∧St w0 [Row 26 (K.int .i16) v7 r6.1,Cells b9 ((encA (encI .i16)) r6.2) 28,Cells b16 ((encA (encI .i16)) r15.1) 28,Row 26 (K.int .i16) v23 r22.1] w) ?_ ⟨?_,⟨?_,⟨?_,⟨?_,⟨?_,⟨?_,⟨?_,⟨?_,trivial⟩⟩⟩⟩⟩⟩⟩⟩ ?_
      ·exact ⟨fun i=>T.getD i undef,(by subst hT;rfl),hs⟩
      ·
       rintro D t w hD hp hcl ⟨O,ht,hs⟩ rest hk
       have hp:AllDone D []:=hp
       have q2_:=ny hcl 2 0 hD
       have q3_:=ny hcl 3 0 q2_
       simp only [hD,q2_,q3_,cq,oT] at ht hs
       subst ht
       refine Qaa (v:=v23) rfl rfl rfl (g_d rfl ?_)
       try dsimp only [Qae,Qaf]
       refine hk _ _ ⟨O,?_,hs.cast ?_⟩<;>simp only [oT,lq,cq,Nat.reduceBEq,q2_,q3_]
      ·
       rintro D t w hD hp hcl ⟨O,ht,hs⟩ rest hk
       have hp:AllDone D []:=hp
       have q2_:=ny hcl 2 1 hD
       have q3_:=ny hcl 3 0 q2_
       simp only [hD,q2_,q3_,cq,oT] at ht hs
       subst ht
       refine Qaa (v:=int .i64 x30) rfl rfl rfl (g_d rfl ?_)
       try dsimp only [Qae,Qaf]
       refine hk _ _ ⟨O,?_,hs.cast ?_⟩<;>simp only [oT,lq,cq,Nat.reduceBEq,q2_,q3_]
      ·
       rintro D t w hD hp hcl ⟨O,ht,hs⟩ rest hk
       have hp:AllDone D [0,1]:=hp
       obtain ⟨p0_,p1_,_⟩:=hp
       have q3_:=ny hcl 3 0 hD
       simp only [hD,p0_,p1_,q3_,cq,oT] at ht hs
       subst ht
       refine Qby (κ:=(K.int .i16)) (m:=1) rfl (hs.row 3 rfl) rfl (fun _=>rfl) gd3.1 gd3.2 had4_ rfl rfl rfl rfl rfl (g_d rfl ?_)
       try dsimp only [Qae,Qaf]
       refine hk _ _ ⟨O,?_,hs.cast ?_⟩<;>simp only [oT,lq,cq,Nat.reduceBEq,p0_,p1_,q3_]
      ·
       rintro D t w hD hp hcl ⟨O,ht,hs⟩ rest hk
       have hp:AllDone D [2]:=hp
       obtain ⟨p2_,_⟩:=hp
       obtain ⟨p0_,p1_,_⟩:=(show D 2=true→AllDone D [0,1] from hcl 2 (by decide)) p2_
       simp only [hD,p0_,p1_,p2_,cq,oT] at ht hs
       subst ht
       refine Qat rfl rfl (v:=int .i16 (rdL r22.1 x30 0)) rfl rfl (fun _=>rfl) (cellsAt_of (fkI .i16) 0 (hs.row 3 rfl) had4_ gd3.1 gd3.2) (g_d rfl ?_)
       try dsimp only [Qae,Qaf]
       refine hk _ _ ⟨O,?_,hs.cast ?_⟩<;>simp only [oT,lq,cq,Nat.reduceBEq,p0_,p1_,p2_]
      ·
       rintro D t w hD hp hcl ⟨O,ht,hs⟩ rest hk
       have hp:AllDone D []:=hp
       have q6_:=ny hcl 6 0 hD
       have q7_:=ny hcl 7 0 q6_
       simp only [hD,q6_,q7_,cq,oT] at ht hs
       subst ht
       refine Qaa (v:=v7) rfl rfl rfl (g_d rfl ?_)
       try dsimp only [Qae,Qaf]
       refine hk _ _ ⟨O,?_,hs.cast ?_⟩<;>simp only [oT,lq,cq,Nat.reduceBEq,q6_,q7_]
      ·
       rintro D t w hD hp hcl ⟨O,ht,hs⟩ rest hk
       have hp:AllDone D []:=hp
       have q6_:=ny hcl 6 1 hD
       have q7_:=ny hcl 7 0 q6_
       simp only [hD,q6_,q7_,cq,oT] at ht hs
       subst ht
       refine Qaa (v:=int .i64 x30) rfl rfl rfl (g_d rfl ?_)
       try dsimp only [Qae,Qaf]
       refine hk _ _ ⟨O,?_,hs.cast ?_⟩<;>simp only [oT,lq,cq,Nat.reduceBEq,q6_,q7_]
      ·
       rintro D t w hD hp hcl ⟨O,ht,hs⟩ rest hk
       have hp:AllDone D [4,5]:=hp
       obtain ⟨p4_,p5_,_⟩:=hp
       have q7_:=ny hcl 7 0 hD
       simp only [hD,p4_,p5_,q7_,cq,oT] at ht hs
       subst ht
       refine Qby (κ:=(K.int .i16)) (m:=1) rfl (hs.row 0 rfl) rfl (fun _=>rfl) gd5.1 gd5.2 had6_ rfl rfl rfl rfl rfl (g_d rfl ?_)
       try dsimp only [Qae,Qaf]
       refine hk _ _ ⟨O,?_,hs.cast ?_⟩<;>simp only [oT,lq,cq,Nat.reduceBEq,p4_,p5_,q7_]
      ·
       rintro D t w hD hp hcl ⟨O,ht,hs⟩ rest hk
       have hp:AllDone D [6]:=hp
       obtain ⟨p6_,_⟩:=hp
       obtain ⟨p4_,p5_,_⟩:=(show D 6=true→AllDone D [4,5] from hcl 6 (by decide)) p6_
       simp only [hD,p4_,p5_,p6_,cq,oT] at ht hs
       subst ht
       refine Qat rfl rfl (v:=int .i16 (rdL r6.1 x30 0)) rfl rfl (fun _=>rfl) (cellsAt_of (fkI .i16) 0 (hs.row 0 rfl) had6_ gd5.1 gd5.2) (g_d rfl ?_)
       try dsimp only [Qae,Qaf]
       refine hk _ _ ⟨O,?_,hs.cast ?_⟩<;>simp only [oT,lq,cq,Nat.reduceBEq,p4_,p5_,p6_]
      intro D t w rest hall hO2_ hI
      obtain ⟨O,ht,hs⟩:=hI
      have p0_:=hall 0 (by decide) rfl
      have p1_:=hall 1 (by decide) rfl
      have p2_:=hall 2 (by decide) rfl
      have p3_:=hall 3 (by decide) rfl
      have p4_:=hall 4 (by decide) rfl
      have p5_:=hall 5 (by decide) rfl
      have p6_:=hall 6 (by decide) rfl
      have p7_:=hall 7 (by decide) rfl
      simp only [p0_,p1_,p2_,p3_,p4_,p5_,p6_,p7_,cq,oT] at ht hs
      subst ht
      obtain ⟨rest,rfl,hO7_⟩:=ord_one (m:=255) hO2_ rfl 8 (m':=511) (by decide+kernel) rfl
      clear hO2_
      refine Qap (B:=(rdL r22.1 x30 0) !=(rdL r6.1 x30 0)) rfl rfl rfl ?_ ?_
      ·
       intro hb
       rw [if_neg (b_bne_t hb)] at H
       refine g_d rfl ?_
       try dsimp only [Qae,Qaf]
       obtain rfl:=ord_end hO7_ rfl (by decide+kernel)
       refine Qab (Qah rfl (Qad (Qag [0] rfl ?_)))
       refine Qaa (v:=bool false) rfl rfl rfl (g_d rfl (Qab ?_))
       have H:=cast (congrFun hQ1_ _) H
       have H:Q false:=H
       refine Qas Tryz.func3 (v:=bool false) (res1 rfl rfl) ?_
       have hs:St _ [] _:=St.take (Γ':=[_,_,_,_]) hs
       exact ⟨_,rfl,_,H,rfl,hs⟩
      intro hb
      rw [if_pos (b_bne_f hb)] at H
      refine g_d rfl ?_
      obtain rfl:=ord_end hO7_ rfl (by decide+kernel)
      refine Qab (Qal rfl (Qay ?_))
      refine QaE (Qag [0,1,2] rfl ?_)
      refine Qaa (v:=int .i64 x30) rfl rfl rfl (g_d rfl ?_)
      refine Qaa (v:=int .i64 (i64w (x30+1))) rfl rfl rfl (g_d rfl ?_)
      try dsimp only [Qae,Qaf]
      refine Qaa (v:=int .i64 (i64w (x30+1))) rfl rfl rfl (g_d rfl (Qab ?_))
      have hs:=hs.pull 3 rfl
      have hs:=hs.pull 3 rfl
      have hs:=hs.pull 3 rfl
      have hs:=hs.pull 3 rfl
      have hs:St _ [_,_,_,_] _:=St.take (Γ':=[]) hs
      exact ih1_ _ _ ⟨i64w (x30+1),cast (congrFun hQ1_ _) H,rfl,hs⟩
     intro hb
     rw [if_neg (b_dec_f hb)] at H
     refine g_d rfl (Qab (Qal rfl ?_))
     have hs:=hs.pull 2 rfl
     have hs:=hs.pull 2 rfl
     have hs:=hs.pull 2 rfl
     have hs:St _ [_,_,_] _:=St.take (Γ':=[_]) hs
     refine Qa7 rfl ?_
     exact ha1_ _ _ ⟨cast (congrFun hQ1_ _) H,rfl,hs⟩
    |false=>
     rw [if_neg Bool.false_ne_true] at H
     refine g_d rfl ?_
     refine Qaa (v:=bool true) rfl rfl rfl (g_d rfl ?_)
     try dsimp only [Qae,Qaf]
     refine Qaa (v:=bool true) rfl rfl rfl (g_d rfl (Qab (Qah rfl (Qad (Qag [0] rfl ?_)))))
     refine Qaa (v:=bool false) rfl rfl rfl (g_d rfl ?_)
     try dsimp only [Qae,Qaf]
     refine Qab ?_
     refine Qas Tryz.func3 (v:=bool false) (res1 rfl rfl) ?_
     have hs:St _ [] _:=St.take (Γ':=[_,_,_,_,_,_,_]) hs
     exact ⟨_,rfl,_,H,rfl,hs⟩
end Go.Proofs.YtgoninfjneepfaaGreatDoorX
