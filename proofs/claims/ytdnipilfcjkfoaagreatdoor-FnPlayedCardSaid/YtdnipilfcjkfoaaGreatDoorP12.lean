import Derived.Test.YtdnipilfcjkfoaaGreatDoorP11
namespace Go.Proofs.YtdnipilfcjkfoaaGreatDoorX
open Go Go.RowKit Go.Proofs
open Go.Value (int pointer bool agg slice string tuple)
set_option maxHeartbeats 8000000
set_option maxRecDepth 100000
set_option linter.unusedVariables false
set_option linter.unusedSimpArgs false
def QbC.post (w0:World) (r:ByteArray) (v:Value) (w:World):Prop:=v=string r∧St w0 [] w
theorem QbC.calls {N : Nat} {a1 : Int} {w0 : World} {r : ByteArray} (htab : Lib.TabIs Tryz.prog w0 "internal/strconv.uint64pow10" .u64 Lib.pow10Tab) (H : QbC.f N a1 = some r) :
 Calls Tryz.prog 46 #[int .i64 a1] w0 fun e w=>∃ v,e= .returned v∧QbC.post w0 r v w:=by
 unfold QbC.f at H
 have hs:St w0 [] w0:=St.refl w0
 refine calls_of_g (n:=4) Tryz.func46 rfl rfl ?_
 show G _ _ _ _ [_,_,_,_,_] _
 refine Qaf (Qak [0] rfl ?_)
 refine Qaa (v:=string (⟨#[]⟩:ByteArray)) rfl rfl rfl (Qab (Qaf (Qak [0,1,2] rfl ?_)))
 refine Qaa (v:=int .i64 a1) rfl rfl rfl ?_
 obtain ⟨r2,Hr2,H⟩:=bind_get H
 refine Qas (args:=[int .i64 a1,int .i64 10]) rfl rfl (Qat rfl (callFunc_enter Tryz.func85 rfl rfl) rfl) (QbX.calls (a1:=a1) (a2:=10) (hs.tab htab) Hr2) ?_
 rintro _ w ⟨rfl,hs2⟩
 have hs:St _ [] _:=hs.call hs2
 show G _ _ _ _ [_,_,_,_,_] _
 refine Qaa (v:=string r2) rfl rfl rfl (Qab ?_)
 obtain rfl:=QsJ H
 refine Qax Tryz.func46 (v:=string r2) (res1 rfl rfl) ?_
 have hs:St _ [] _:=St.take (Γ':=[]) hs
 exact ⟨_,rfl,rfl,hs⟩
def QbG.post (w0:World) (r:Bool) (v:Value) (w:World):Prop:=v=bool r∧St w0 [] w
theorem QbG.calls {N:Nat} {a1:Int} {w0:World} {r:Bool} (H:QbG.f N a1=some r):
 Calls Tryz.prog 142 #[int .i64 a1] w0 fun e w=>∃ v,e= .returned v∧QbG.post w0 r v w:=by
 unfold QbG.f at H
 have hs:St w0 [] w0:=St.refl w0
 refine calls_of_g (n:=7) Tryz.func142 rfl rfl ?_
 show G _ _ _ _ [_,_,_,_,_,_,_,_] _
 refine Qaf (Qak [0] rfl ?_)
 refine Qaa (v:=bool false) rfl rfl rfl (Qab (Qaf (Qak [0,1,2,3,4,5] rfl ?_)))
 refine Qaa (v:=int .i64 a1) rfl rfl rfl ?_
 refine Qaa (v:=int .i64 a1) rfl rfl rfl ?_
 show G _ _ _ _ [_,_,_,_,_,_,_,_] _
 refine Qaa (v:=int .i64 (i64w (a1 - 1))) rfl rfl rfl ?_
 refine Qaa (v:=int .i64 (bAnd .i64 a1 (i64w (a1 - 1)))) rfl rfl rfl ?_
 refine Qaa (v:=bool ((bAnd .i64 a1 (i64w (a1 - 1)))==0)) rfl rfl rfl ?_
 show G _ _ _ _ [_,_,_,_,_,_,_,_] _
 refine Qaa (v:=bool ((bAnd .i64 a1 (i64w (a1 - 1)))==0)) rfl rfl rfl (Qab ?_)
 obtain rfl:=QsJ H
 refine Qax Tryz.func142 (v:=bool ((bAnd .i64 a1 (i64w (a1 - 1)))==0)) (res1 rfl rfl) ?_
 have hs:St _ [] _:=St.take (Γ':=[]) hs
 exact ⟨_,rfl,rfl,hs⟩
def Qb2.post (w0:World) (r:Int) (v:Value) (w:World):Prop:=v=int .i64 r∧St w0 [] w
theorem Qb2.calls {N:Nat} {a1:Int} {w0:World} {r:Int} (hdbr:CellU w0 7 15 4) (H:Qb2.f N a1=some r):
 Calls Tryz.prog 159 #[.int .u64 a1] w0 fun e w=>∃ v,e= .returned v∧Qb2.post w0 r v w:=by
 obtain ⟨hg,H⟩:=ite_get H
 subst hg
 obtain rfl:=QsJ H
 exact (tz16 w0 hdbr).mono fun e w ⟨he,hw⟩=>⟨_,he,rfl,by rw [hw];exact St.refl _⟩
def QbR.post (w0:World) (r:Int) (v:Value) (w:World):Prop:=v=int .i64 r∧St w0 [] w
theorem QbR.calls {N:Nat} {a1:Int} {w0:World} {r:Int} (hdbr:CellU w0 7 15 4) (H:QbR.f N a1=some r):
 Calls Tryz.prog 143 #[int .u64 a1] w0 fun e w=>∃ v,e= .returned v∧QbR.post w0 r v w:=by
 unfold QbR.f at H
 have hs:St w0 [] w0:=St.refl w0
 refine calls_of_g (n:=7) Tryz.func143 rfl rfl ?_
 show G _ _ _ _ [_,_,_,_,_,_,_,_] _
 refine Qaf (Qak [0] rfl ?_)
 refine Qaa (v:=int .i64 0) rfl rfl rfl (Qab (Qaf (Qap rfl (QaE (Qaf (Qak [0,1,2] rfl ?_))))))
 refine Qaa (v:=int .u64 a1) rfl rfl rfl ?_
 obtain ⟨r2,Hr2,H⟩:=bind_get H
 refine Qas (args:=[int .u64 a1]) rfl rfl (Qat rfl (callFunc_enter Tryz.func159 rfl rfl) rfl) (Qb2.calls (a1:=a1) (hs.cellU hdbr) Hr2) ?_
 rintro _ w ⟨rfl,hs2⟩
 have hs:St _ [] _:=hs.call hs2
 show G _ _ _ _ [_,_,_,_,_,_,_,_] _
 refine Qaa (v:=int .i64 r2) rfl rfl rfl (Qab ?_)
 obtain rfl:=QsJ H
 refine Qax Tryz.func143 (v:=int .i64 r2) (res1 rfl rfl) ?_
 have hs:St _ [] _:=St.take (Γ':=[]) hs
 exact ⟨_,rfl,rfl,hs⟩
def Qan.post (w0:World) (r:((List Int)×ByteArray)) (v:Value) (w:World):Prop:=∃ u1:Value,v=tuple #[u1,string r.2]∧St w0 [Row 5 (K.int .u8) u1 r.1] w
theorem Qan.calls {N:Nat} {a1:Int} {w0:World} {r:((List Int)×ByteArray)} (hdbr:CellU w0 7 15 4) (H:Qan.f N a1=some r):
 Calls Tryz.prog 111 #[(slice none 0 0),int .u64 a1,int .i64 16,bool false,bool false] w0 fun e w=>∃ v,e= .returned v∧Qan.post w0 r v w:=by
 unfold Qan.f at H
 have hs:St w0 [] w0:=St.refl w0
 refine calls_of_g (n:=97) Tryz.func111 rfl rfl ?_
 show G _ _ _ _ (_::_::_::_::_::_::_::_::_::_::_::_::_::_::_::_::_::_::_::_::_::_::_::_::_::_::_::_::_::_::_::_::_::_::_::_::_::_::_::_::_::_::_::_::_::_::_::_::_::_::_::_::_::_::_::_::_::_::_::_::_::_::_::_::_::_::_::_::_::_::_::_::_::_::_::_::_::_::_::_::_::_::_::_::_::_::_::_::_::_::_::_::_::_::_::_::_::_::_::_::_::_::[]) _
 refine Qaf (Qak [0,1] rfl ?_)
 refine Qaa (v:=slice none 0 0) rfl rfl rfl (g_d rfl ?_)
 try dsimp only [Qai,Qaj]
 refine Qaa (v:=string (⟨#[]⟩:ByteArray)) rfl rfl rfl (g_d rfl (Qab (Qaf (Qaf (Qak [0,1,2,3,4,5,6,7,8,9] rfl ?_)))))
 refine Qaa (v:=int .i64 16) rfl rfl rfl (g_d rfl ?_)
 refine Qaa (v:=bool false) rfl rfl rfl (g_d rfl ?_)
 try dsimp only [Qai,Qaj]
 refine Qaa (v:=bool false) rfl rfl rfl (g_d rfl ?_)
 refine Qaa (v:=int .i64 16) rfl rfl rfl (g_d rfl ?_)
 refine Qaa (v:=bool false) rfl rfl rfl (g_d rfl ?_)
 refine Qaa (v:=bool false) rfl rfl rfl (g_d rfl ?_)
 try dsimp only [Qai,Qaj]
 refine Qaa (v:=bool false) rfl rfl rfl (g_d rfl ?_)
 refine Qaa (v:=int .i64 16) rfl rfl rfl (g_d rfl ?_)
 refine Qaa (v:=bool false) rfl rfl rfl (g_d rfl ?_)
 refine Qaa (v:=bool false) rfl rfl rfl (g_d rfl ?_)
 try dsimp only [Qai,Qaj]
 refine Qab (Qap rfl (QaE (Qaf (Qak [0] rfl ?_))))
 refine Qa5 hs rfl rfl (z:=(agg #[int .u8 0,int .u8 0,int .u8 0,int .u8 0,int .u8 0,int .u8 0,int .u8 0,int .u8 0,int .u8 0,int .u8 0,int .u8 0,int .u8 0,int .u8 0,int .u8 0,int .u8 0,int .u8 0,int .u8 0,int .u8 0,int .u8 0,int .u8 0,int .u8 0,int .u8 0,int .u8 0,int .u8 0,int .u8 0,int .u8 0,int .u8 0,int .u8 0,int .u8 0,int .u8 0,int .u8 0,int .u8 0,int .u8 0,int .u8 0,int .u8 0,int .u8 0,int .u8 0,int .u8 0,int .u8 0,int .u8 0,int .u8 0,int .u8 0,int .u8 0,int .u8 0,int .u8 0,int .u8 0,int .u8 0,int .u8 0,int .u8 0,int .u8 0,int .u8 0,int .u8 0,int .u8 0,int .u8 0,int .u8 0,int .u8 0,int .u8 0,int .u8 0,int .u8 0,int .u8 0,int .u8 0,int .u8 0,int .u8 0,int .u8 0,int .u8 0])) (cs:=((encA (encI .u8)) (Ar.rep 65 0))) rfl (fun _=>rfl) rfl ?_
 intro b2 w hs
 refine g_d rfl (Qab (Qaf (Qak [0] rfl ?_)))
 refine Qaa (v:=int .i64 65) rfl rfl rfl (g_d rfl ?_)
 try dsimp only [Qai,Qaj]
 refine Qab (Qaf (Qaf (Qak [0] rfl ?_)))
 refine Qaa (v:=bool false) rfl rfl rfl (g_d rfl (Qab (Qap rfl (QaE (Qaf (Qaf ?_))))))
 refine Qcq (J:=(fun t w=>∃ x22:(Ar Int 65),∃ x23:Int,Qan.j0 N x22 x23=some r∧Fr t (fun O=>(slice none 0 0::O 1::O 2::bool false::bool false::O 5::O 6::O 7::O 8::O 9::slice none 0 0::string (⟨#[]⟩:ByteArray)::pointer (some ⟨b2,0,none⟩)::int .i64 x23::O 14::O 15::O 16::O 17::O 18::O 19::oT O 2 (oT O 3 (oT O 4 (oT O 5 (oT O 6 (oT O 7 (oT O 8 (oT O 9 (O 100::O 101::[])))))))):List Value))∧St w0 [Cells b2 ((encA (encI .u8)) x22) 180] w)) ?_ ?_
 ·
  rintro t w ⟨x22,x23,H,hf,hs⟩
  obtain ⟨O,rfl⟩:=hf.open
  try dsimp only [oT]
  unfold Qan.j0 at H
  refine Qaf (Qaf (Qak [0] rfl ?_))
  refine Qaa (v:=bool false) rfl rfl rfl (g_d rfl (Qab (Qap rfl (QaE (Qaf (Qaf (Qak [0] rfl ?_)))))))
  refine Qaa (v:=bool false) rfl rfl rfl (g_d rfl (Qab (Qap rfl (QaE (Qaf (Qak [0,1,2,3] rfl ?_))))))
  refine Qaa (v:=int .i64 x23) rfl rfl rfl (g_d rfl ?_)
  obtain ⟨g19,H⟩:=ite_get H
  refine Qaa (v:=subV (slice (some ⟨b2,0,none⟩) 65 65) 1 (x23).toNat ((65:Nat):Int).toNat) rfl rfl (QcZ rfl rfl (fun _=>rfl) rfl rfl g19.1 g19.2) (g_d rfl ?_)
  refine Qaa (v:=string (bsOf ((x22.l.drop (x23).toNat).take (((65:Nat):Int).toNat - (x23).toNat)))) rfl rfl (Qc5 rfl rfl rfl rfl rfl (rdSub (rdBox (fkI .u8) (hs.cells 0 rfl)) 1 rfl g19.1 g19.2 (by rw [Ar.h];exact Int.le_refl _))) (g_d rfl ?_)
  refine Qaa (v:=string (bsOf ((x22.l.drop (x23).toNat).take (((65:Nat):Int).toNat - (x23).toNat)))) rfl rfl rfl (g_d rfl ?_)
  try dsimp only [Qai,Qaj]
  refine Qab ?_
  obtain rfl:=QsJ H
  refine Qax Tryz.func111 (v:=tuple #[slice none 0 0,string (bsOf ((x22.l.drop (x23).toNat).take (((65:Nat):Int).toNat - (x23).toNat)))]) (resN (l:=Tryz.f111.results.toList) (vs:=[slice none 0 0,string (bsOf ((x22.l.drop (x23).toNat).take (((65:Nat):Int).toNat - (x23).toNat)))]) rfl ⟨rfl,rfl,trivial⟩ (by simp)) ?_
  have hs:=hs.nil 5 (K.int .u8)
  have hs:=hs.pull 0 rfl
  have hs:St _ [_] _:=St.take (Γ':=[_]) hs
  exact ⟨_,rfl,(slice none 0 0),rfl,hs⟩
 intro ha
 refine Qak [0,1] rfl ?_
 refine Qaa (v:=int .i64 16) rfl rfl rfl (g_d rfl ?_)
 obtain ⟨r4,Hr4,H⟩:=bind_get H
 refine Qas (args:=[int .i64 16]) rfl rfl (Qat rfl (callFunc_enter Tryz.func142 rfl rfl) rfl) (QbG.calls (a1:=16) Hr4) ?_
 rintro _ w ⟨rfl,hs2⟩
 have hs:St _ [_] _:=hs.call hs2
 cases r4 with
 |true=>
  rw [if_pos rfl] at H
  refine g_d rfl ?_
  try dsimp only [Qai,Qaj]
  refine Qab (Qam rfl (Qaf (Qak [0,1,2,3,4] rfl ?_)))
  refine Qaa (v:=int .i64 16) rfl rfl rfl (g_d rfl ?_)
  refine Qaa (v:=int .u64 (u64w 16)) rfl rfl rfl (g_d rfl ?_)
  obtain ⟨r5,Hr5,H⟩:=bind_get H
  refine Qas (args:=[int .u64 (u64w 16)]) rfl rfl (Qat rfl (callFunc_enter Tryz.func143 rfl rfl) rfl) (QbR.calls (a1:=u64w 16) (hs.cellU hdbr) Hr5) ?_
  rintro _ w ⟨rfl,hs2⟩
  have hs:St _ [_] _:=hs.call hs2
  refine g_d rfl ?_
  refine Qaa (v:=int .u64 (u64w r5)) rfl rfl rfl (g_d rfl ?_)
  refine Qaa (v:=int .u64 (u64w r5)) rfl rfl rfl (g_d rfl ?_)
  try dsimp only [Qai,Qaj]
  refine Qab (Qaf (Qak [0,1,2] rfl ?_))
  refine Qaa (v:=int .i64 16) rfl rfl rfl (g_d rfl ?_)
  refine Qaa (v:=int .u64 (u64w 16)) rfl rfl rfl (g_d rfl ?_)
  refine Qaa (v:=int .u64 (u64w 16)) rfl rfl rfl (g_d rfl (Qab (Qaf (Qak [0,1,2,3] rfl ?_))))
  refine Qaa (v:=int .i64 16) rfl rfl rfl (g_d rfl ?_)
  refine Qaa (v:=int .u64 (u64w 16)) rfl rfl rfl (g_d rfl ?_)
  refine Qaa (v:=int .u64 (u64w ((u64w 16) - 1))) rfl rfl rfl (g_d rfl ?_)
  try dsimp only [Qai,Qaj]
  refine Qaa (v:=int .u64 (u64w ((u64w 16) - 1))) rfl rfl rfl (g_d rfl (Qab (Qaf ?_)))
  obtain ⟨o1_,Ho,Hr1_⟩:=bind_get H
  refine QaF (J:=fun t w=>∃ x11:Int,∃ x12:(Ar Int 65),∃ x13:Int,Qan.a1 N x11 x12 x13=some r∧Fr t (fun O=>(slice none 0 0::int .u64 x11::O 2::bool false::bool false::O 5::O 6::O 7::O 8::O 9::slice none 0 0::string (⟨#[]⟩:ByteArray)::pointer (some ⟨b2,0,none⟩)::int .i64 x13::O 14::O 15::O 16::O 17::O 18::O 19::oT O 2 (oT O 3 (oT O 4 (oT O 5 (oT O 6 (oT O 7 (oT O 8 (oT O 9 (O 100::O 101::[])))))))):List Value))∧St w0 [Cells b2 ((encA (encI .u8)) x12) 180] w) ?_ ?_
  ·
   rintro t w ⟨x11,x12,x13,H,hf,hs⟩
   obtain ⟨O,rfl⟩:=hf.open
   try dsimp only [oT]
   unfold Qan.a1 at H
   refine Qaf (Qak [0,1,2] rfl ?_)
   refine Qaa (v:=int .i64 x13) rfl rfl rfl (g_d rfl ?_)
   refine Qaa (v:=int .i64 (i64w (x13 - 1))) rfl rfl rfl (g_d rfl ?_)
   refine Qaa (v:=int .i64 (i64w (x13 - 1))) rfl rfl rfl (g_d rfl ?_)
   try dsimp only [Qai,Qaj]
   refine Qab (Qak [0,1,2,3,4] rfl ?_)
   refine Qaa (v:=int .i64 (i64w (x13 - 1))) rfl rfl rfl (g_d rfl ?_)
   refine Qaa (v:=int .u64 x11) rfl rfl rfl (g_d rfl ?_)
   obtain ⟨g7,H⟩:=ite_get H
   refine Qaa (v:=int .u8 (btS (⟨#[48,49,50,51,52,53,54,55,56,57,97,98,99,100,101,102,103,104,105,106,107,108,109,110,111,112,113,114,115,116,117,118,119,120,121,122]⟩:ByteArray) x11)) rfl rfl (Qcz rfl rfl rfl rfl g7.1 g7.2) (g_d rfl ?_)
   obtain ⟨g8,H⟩:=ite_get H
   refine Qba (n:=i64w (x13 - 1)) (m:=1) rfl (fun _=>rfl) g8.1 g8.2 rfl rfl rfl rfl rfl (g_d rfl ?_)
   try dsimp only [Qai,Qaj]
   refine QbN (y:=btS (⟨#[48,49,50,51,52,53,54,55,56,57,97,98,99,100,101,102,103,104,105,106,107,108,109,110,111,112,113,114,115,116,117,118,119,120,121,122]⟩:ByteArray) x11) (fkI .u8).len (fkI .u8).one g8.1 g8.2 hs rfl rfl rfl rfl rfl (fun _=>rfl) ?_
   intro w hs
   refine g_n rfl (Qab ?_)
   have hs:=hs.pull 0 rfl
   have hs:St _ [_] _:=St.take (Γ':=[]) hs
   exact ha _ _ ⟨x12.set (i64w (x13 - 1)) (btS (⟨#[48,49,50,51,52,53,54,55,56,57,97,98,99,100,101,102,103,104,105,106,107,108,109,110,111,112,113,114,115,116,117,118,119,120,121,122]⟩:ByteArray) x11),i64w (x13 - 1),H,rfl,hs⟩
  intro ha1_
  have hs:=hs.pull 0 rfl
  have hs:St _ [_] _:=St.take (Γ':=[]) hs
  refine QaZ (I:=fun n_ t w=>∃ x8:Int,∃ x9:(Ar Int 65),∃ x10:Int,rounds (fun s=>Qan.b1 N r5 s.1 s.2.1 s.2.2) n_ (x8,x9,x10)=some o1_∧Fr t (fun O=>(slice none 0 0::int .u64 x8::O 2::bool false::bool false::O 5::O 6::O 7::O 8::O 9::slice none 0 0::string (⟨#[]⟩:ByteArray)::pointer (some ⟨b2,0,none⟩)::int .i64 x10::int .u64 (u64w r5)::int .u64 (u64w 16)::int .u64 (u64w ((u64w 16) - 1))::O 17::O 18::O 19::oT O 2 (oT O 3 (oT O 4 (oT O 5 (oT O 6 (oT O 7 (oT O 8 (oT O 9 (O 100::O 101::[])))))))):List Value))∧St w0 [Cells b2 ((encA (encI .u8)) x9) 180] w) N ⟨a1,(Ar.rep 65 0),65,Ho,rfl,hs⟩ ?_ ?_
  ·
   rintro _ _ ⟨x8,x9,x10,h,_⟩
   exact rounds_zero h
  intro n_ ih1_
  rintro t w ⟨x8,x9,x10,Ho,hf,hs⟩
  obtain ⟨O,rfl⟩:=hf.open
  try dsimp only [oT]
  obtain ⟨x9_,H,Hx1_⟩:=rounds_succ Ho
  have H:Qan.b1 N r5 x8 x9 x10=some x9_:=H
  unfold Qan.b1 at H
  refine Qaf (Qaf (Qak [0,1,2] rfl ?_))
  refine Qaa (v:=int .u64 x8) rfl rfl rfl (g_d rfl ?_)
  refine Qaa (v:=int .u64 (u64w 16)) rfl rfl rfl (g_d rfl ?_)
  refine QaA (B:=decide (x8≥(u64w 16))) rfl rfl rfl ?_ ?_
  ·
   intro hb
   rw [if_pos (b_dec_t hb)] at H
   refine g_d rfl (Qab (Qam rfl (QaE ?_)))
   refine Qbz (Qaf (Qak [0,1,2] rfl ?_))
   refine Qaa (v:=int .i64 x10) rfl rfl rfl (g_d rfl ?_)
   refine Qaa (v:=int .i64 (i64w (x10 - 1))) rfl rfl rfl (g_d rfl ?_)
   try dsimp only [Qai,Qaj]
   refine Qaa (v:=int .i64 (i64w (x10 - 1))) rfl rfl rfl (g_d rfl (Qab (Qaf (Qak [0,1,2,3,4,5,6] rfl ?_))))
   refine Qaa (v:=int .i64 (i64w (x10 - 1))) rfl rfl rfl (g_d rfl ?_)
   refine Qaa (v:=int .u64 x8) rfl rfl rfl (g_d rfl ?_)
   refine Qaa (v:=int .u64 (u64w ((u64w 16) - 1))) rfl rfl rfl (g_d rfl ?_)
   refine Qaa (v:=int .u64 (bAnd .u64 x8 (u64w ((u64w 16) - 1)))) rfl rfl rfl (g_d rfl ?_)
   try dsimp only [Qai,Qaj]
   obtain ⟨g4,H⟩:=ite_get H
   refine Qaa (v:=int .u8 (btS (⟨#[48,49,50,51,52,53,54,55,56,57,97,98,99,100,101,102,103,104,105,106,107,108,109,110,111,112,113,114,115,116,117,118,119,120,121,122]⟩:ByteArray) (bAnd .u64 x8 (u64w ((u64w 16) - 1))))) rfl rfl (Qcz rfl rfl rfl rfl g4.1 g4.2) (g_d rfl ?_)
   obtain ⟨g5,H⟩:=ite_get H
   refine Qba (n:=i64w (x10 - 1)) (m:=1) rfl (fun _=>rfl) g5.1 g5.2 rfl rfl rfl rfl rfl (g_d rfl ?_)
   try dsimp only [Qai,Qaj]
   refine QbN (y:=btS (⟨#[48,49,50,51,52,53,54,55,56,57,97,98,99,100,101,102,103,104,105,106,107,108,109,110,111,112,113,114,115,116,117,118,119,120,121,122]⟩:ByteArray) (bAnd .u64 x8 (u64w ((u64w 16) - 1)))) (fkI .u8).len (fkI .u8).one g5.1 g5.2 hs rfl rfl rfl rfl rfl (fun _=>rfl) ?_
   intro w hs
   refine g_n rfl (Qab (Qak [0,1,2,3] rfl ?_))
   refine Qaa (v:=int .u64 x8) rfl rfl rfl (g_d rfl ?_)
   refine Qaa (v:=int .u64 (u64w r5)) rfl rfl rfl (g_d rfl ?_)
   obtain ⟨g6,H⟩:=ite_get H
   refine Qaa (v:=int .u64 (shrI .u64 x8 (u64w r5))) rfl rfl (QcC rfl rfl rfl g6) (g_d rfl ?_)
   refine Qaa (v:=int .u64 (shrI .u64 x8 (u64w r5))) rfl rfl rfl (g_d rfl ?_)
   try dsimp only [Qai,Qaj]
   refine Qab ?_
   refine QaH ?_
   obtain rfl:=QsJ H
   have hs:=hs.pull 0 rfl
   have hs:St _ [_] _:=St.take (Γ':=[]) hs
   exact ih1_ _ _ ⟨shrI .u64 x8 (u64w r5),x9.set (i64w (x10 - 1)) (btS (⟨#[48,49,50,51,52,53,54,55,56,57,97,98,99,100,101,102,103,104,105,106,107,108,109,110,111,112,113,114,115,116,117,118,119,120,121,122]⟩:ByteArray) (bAnd .u64 x8 (u64w ((u64w 16) - 1)))),i64w (x10 - 1),Hx1_,rfl,hs⟩
  intro hb
  rw [if_neg (b_dec_f hb)] at H
  refine g_d rfl ?_
  try dsimp only [Qai,Qaj]
  refine Qab (Qap rfl ?_)
  obtain rfl:=QsJ H
  subst Hx1_
  have hs:=hs.pull 0 rfl
  have hs:St _ [_] _:=St.take (Γ':=[]) hs
  refine Qbq rfl ?_
  exact ha1_ _ _ ⟨x8,x9,x10,Hr1_,rfl,hs⟩
 |false=>
  rw [if_neg Bool.false_ne_true] at H
  refine g_d rfl (Qab (Qap rfl (Qaf (Qak [0,1,2] rfl ?_))))
  refine Qaa (v:=int .i64 16) rfl rfl rfl (g_d rfl ?_)
  refine Qaa (v:=int .u64 (u64w 16)) rfl rfl rfl (g_d rfl ?_)
  refine Qaa (v:=int .u64 (u64w 16)) rfl rfl rfl (g_d rfl ?_)
  try dsimp only [Qai,Qaj]
  refine Qab (Qaf ?_)
  obtain ⟨o1_,Ho,Hr1_⟩:=bind_get H
  refine QaF (J:=fun t w=>∃ x19:Int,∃ x20:(Ar Int 65),∃ x21:Int,Qan.a3 N x19 x20 x21=some r∧Fr t (fun O=>(slice none 0 0::int .u64 x19::O 2::bool false::bool false::O 5::O 6::O 7::O 8::O 9::slice none 0 0::string (⟨#[]⟩:ByteArray)::pointer (some ⟨b2,0,none⟩)::int .i64 x21::O 14::O 15::O 16::O 17::O 18::O 19::oT O 2 (oT O 3 (oT O 4 (oT O 5 (oT O 6 (oT O 7 (oT O 8 (oT O 9 (O 100::O 101::[])))))))):List Value))∧St w0 [Cells b2 ((encA (encI .u8)) x20) 180] w) ?_ ?_
  ·
   rintro t w ⟨x19,x20,x21,H,hf,hs⟩
   obtain ⟨O,rfl⟩:=hf.open
   try dsimp only [oT]
   unfold Qan.a3 at H
   refine Qaf (Qak [0,1,2] rfl ?_)
   refine Qaa (v:=int .i64 x21) rfl rfl rfl (g_d rfl ?_)
   refine Qaa (v:=int .i64 (i64w (x21 - 1))) rfl rfl rfl (g_d rfl ?_)
   try dsimp only [Qai,Qaj]
   refine Qaa (v:=int .i64 (i64w (x21 - 1))) rfl rfl rfl (g_d rfl (Qab (Qak [0,1,2,3,4] rfl ?_)))
   refine Qaa (v:=int .i64 (i64w (x21 - 1))) rfl rfl rfl (g_d rfl ?_)
   refine Qaa (v:=int .u64 x19) rfl rfl rfl (g_d rfl ?_)
   obtain ⟨g16,H⟩:=ite_get H
   refine Qaa (v:=int .u8 (btS (⟨#[48,49,50,51,52,53,54,55,56,57,97,98,99,100,101,102,103,104,105,106,107,108,109,110,111,112,113,114,115,116,117,118,119,120,121,122]⟩:ByteArray) x19)) rfl rfl (Qcz rfl rfl rfl rfl g16.1 g16.2) (g_d rfl ?_)
   try dsimp only [Qai,Qaj]
   obtain ⟨g17,H⟩:=ite_get H
   refine Qba (n:=i64w (x21 - 1)) (m:=1) rfl (fun _=>rfl) g17.1 g17.2 rfl rfl rfl rfl rfl (g_d rfl ?_)
   refine QbN (y:=btS (⟨#[48,49,50,51,52,53,54,55,56,57,97,98,99,100,101,102,103,104,105,106,107,108,109,110,111,112,113,114,115,116,117,118,119,120,121,122]⟩:ByteArray) x19) (fkI .u8).len (fkI .u8).one g17.1 g17.2 hs rfl rfl rfl rfl rfl (fun _=>rfl) ?_
   intro w hs
   refine g_n rfl (Qab ?_)
   have hs:=hs.pull 0 rfl
   have hs:St _ [_] _:=St.take (Γ':=[]) hs
   exact ha _ _ ⟨x20.set (i64w (x21 - 1)) (btS (⟨#[48,49,50,51,52,53,54,55,56,57,97,98,99,100,101,102,103,104,105,106,107,108,109,110,111,112,113,114,115,116,117,118,119,120,121,122]⟩:ByteArray) x19),i64w (x21 - 1),H,rfl,hs⟩
  intro ha1_
  have hs:=hs.pull 0 rfl
  have hs:St _ [_] _:=St.take (Γ':=[]) hs
  refine QaZ (I:=fun n_ t w=>∃ x16:Int,∃ x17:(Ar Int 65),∃ x18:Int,rounds (fun s=>Qan.b3 N s.1 s.2.1 s.2.2) n_ (x16,x17,x18)=some o1_∧Fr t (fun O=>(slice none 0 0::int .u64 x16::O 2::bool false::bool false::O 5::O 6::O 7::O 8::O 9::slice none 0 0::string (⟨#[]⟩:ByteArray)::pointer (some ⟨b2,0,none⟩)::int .i64 x18::O 14::O 15::O 16::int .u64 (u64w 16)::O 18::O 19::oT O 2 (oT O 3 (oT O 4 (oT O 5 (oT O 6 (oT O 7 (oT O 8 (oT O 9 (O 100::O 101::[])))))))):List Value))∧St w0 [Cells b2 ((encA (encI .u8)) x17) 180] w) N ⟨a1,(Ar.rep 65 0),65,Ho,rfl,hs⟩ ?_ ?_
  ·
   rintro _ _ ⟨x16,x17,x18,h,_⟩
   exact rounds_zero h
  intro n_ ih1_
  rintro t w ⟨x16,x17,x18,Ho,hf,hs⟩
  obtain ⟨O,rfl⟩:=hf.open
  try dsimp only [oT]
  obtain ⟨x18_,H,Hx1_⟩:=rounds_succ Ho
  have H:Qan.b3 N x16 x17 x18=some x18_:=H
  unfold Qan.b3 at H
  refine Qaf (Qaf (Qak [0,1,2] rfl ?_))
  refine Qaa (v:=int .u64 x16) rfl rfl rfl (g_d rfl ?_)
  refine Qaa (v:=int .u64 (u64w 16)) rfl rfl rfl (g_d rfl ?_)
  refine QaA (B:=decide (x16≥(u64w 16))) rfl rfl rfl ?_ ?_
  ·
   intro hb
   rw [if_pos (b_dec_t hb)] at H
   refine g_d rfl ?_
   try dsimp only [Qai,Qaj]
   refine Qab (Qam rfl (QaE ?_))
   refine Qbz (Qaf (Qak [0,1,2] rfl ?_))
   refine Qaa (v:=int .i64 x18) rfl rfl rfl (g_d rfl ?_)
   refine Qaa (v:=int .i64 (i64w (x18 - 1))) rfl rfl rfl (g_d rfl ?_)
   refine Qaa (v:=int .i64 (i64w (x18 - 1))) rfl rfl rfl (g_d rfl ?_)
   try dsimp only [Qai,Qaj]
   refine Qab (Qaf (Qak [0,1,2,3] rfl ?_))
   refine Qaa (v:=int .u64 x16) rfl rfl rfl (g_d rfl ?_)
   refine Qaa (v:=int .u64 (u64w 16)) rfl rfl rfl (g_d rfl ?_)
   obtain ⟨g13,H⟩:=ite_get H
   refine Qaa (v:=int .u64 (u64w (x16.tdiv (u64w 16)))) rfl rfl (Qc2 rfl rfl rfl g13) (g_d rfl ?_)
   refine Qaa (v:=int .u64 (u64w (x16.tdiv (u64w 16)))) rfl rfl rfl (g_d rfl ?_)
   try dsimp only [Qai,Qaj]
   refine Qab (Qaf (Qak [0,1,2,3,4,5,6,7,8] rfl ?_))
   refine Qaa (v:=int .i64 (i64w (x18 - 1))) rfl rfl rfl (g_d rfl ?_)
   refine Qaa (v:=int .u64 x16) rfl rfl rfl (g_d rfl ?_)
   refine Qaa (v:=int .u64 (u64w (x16.tdiv (u64w 16)))) rfl rfl rfl (g_d rfl ?_)
   refine Qaa (v:=int .u64 (u64w 16)) rfl rfl rfl (g_d rfl ?_)
   refine Qaa (v:=int .u64 (u64w ((u64w (x16.tdiv (u64w 16)))*(u64w 16)))) rfl rfl rfl (g_d rfl ?_)
   refine Qaa (v:=int .u64 (u64w (x16 - (u64w ((u64w (x16.tdiv (u64w 16)))*(u64w 16)))))) rfl rfl rfl (g_d rfl ?_)
   try dsimp only [Qai,Qaj]
   obtain ⟨g14,H⟩:=ite_get H
   refine Qaa (v:=int .u8 (btS (⟨#[48,49,50,51,52,53,54,55,56,57,97,98,99,100,101,102,103,104,105,106,107,108,109,110,111,112,113,114,115,116,117,118,119,120,121,122]⟩:ByteArray) (u64w (x16 - (u64w ((u64w (x16.tdiv (u64w 16)))*(u64w 16))))))) rfl rfl (Qcz rfl rfl rfl rfl g14.1 g14.2) (g_d rfl ?_)
   obtain ⟨g15,H⟩:=ite_get H
   refine Qba (n:=i64w (x18 - 1)) (m:=1) rfl (fun _=>rfl) g15.1 g15.2 rfl rfl rfl rfl rfl (g_d rfl ?_)
   try dsimp only [Qai,Qaj]
   refine QbN (y:=btS (⟨#[48,49,50,51,52,53,54,55,56,57,97,98,99,100,101,102,103,104,105,106,107,108,109,110,111,112,113,114,115,116,117,118,119,120,121,122]⟩:ByteArray) (u64w (x16 - (u64w ((u64w (x16.tdiv (u64w 16)))*(u64w 16)))))) (fkI .u8).len (fkI .u8).one g15.1 g15.2 hs rfl rfl rfl rfl rfl (fun _=>rfl) ?_
   intro w hs
   refine g_n rfl (Qab (Qak [0,1] rfl ?_))
   refine Qaa (v:=int .u64 (u64w (x16.tdiv (u64w 16)))) rfl rfl rfl (g_d rfl ?_)
   refine Qaa (v:=int .u64 (u64w (x16.tdiv (u64w 16)))) rfl rfl rfl (g_d rfl (Qab ?_))
   refine QaH ?_
   obtain rfl:=QsJ H
   have hs:=hs.pull 0 rfl
   have hs:St _ [_] _:=St.take (Γ':=[]) hs
   exact ih1_ _ _ ⟨u64w (x16.tdiv (u64w 16)),x17.set (i64w (x18 - 1)) (btS (⟨#[48,49,50,51,52,53,54,55,56,57,97,98,99,100,101,102,103,104,105,106,107,108,109,110,111,112,113,114,115,116,117,118,119,120,121,122]⟩:ByteArray) (u64w (x16 - (u64w ((u64w (x16.tdiv (u64w 16)))*(u64w 16)))))),i64w (x18 - 1),Hx1_,rfl,hs⟩
  intro hb
  rw [if_neg (b_dec_f hb)] at H
  refine g_d rfl (Qab (Qap rfl ?_))
  obtain rfl:=QsJ H
  subst Hx1_
  have hs:=hs.pull 0 rfl
  have hs:St _ [_] _:=St.take (Γ':=[]) hs
  refine Qbq rfl ?_
  exact ha1_ _ _ ⟨x16,x17,x18,Hr1_,rfl,hs⟩
def istrconv_FormatUint_at_c16.post (w0:World) (r:ByteArray) (v:Value) (w:World):Prop:=v=string r∧St w0 [] w
theorem istrconv_FormatUint_at_c16.calls {N:Nat} {a1:Int} {w0:World} {r:ByteArray} (hdbr:CellU w0 7 15 4) (H:istrconv_FormatUint_at_c16.f N a1=some r):
 Calls Tryz.prog 86 #[int .u64 a1,int .i64 16] w0 fun e w=>∃ v,e= .returned v∧istrconv_FormatUint_at_c16.post w0 r v w:=by
 unfold istrconv_FormatUint_at_c16.f at H
 have hs:St w0 [] w0:=St.refl w0
 refine calls_of_g (n:=30) Tryz.func86 rfl rfl ?_
 show G _ _ _ _ [_,_,_,_,_,_,_,_,_,_,_,_,_,_,_,_,_,_,_,_,_,_,_,_,_,_,_,_,_,_,_,_] _
 refine Qaf (Qak [0] rfl ?_)
 refine Qaa (v:=string (⟨#[]⟩:ByteArray)) rfl rfl rfl ?_
 show G _ _ _ _ [_,_,_,_,_,_,_,_,_,_,_,_,_,_,_,_,_,_,_,_,_,_,_,_,_,_,_,_,_,_,_,_] _
 refine Qab (Qaf (Qaf (Qak [0,1] rfl ?_)))
 refine Qaa (v:=int .i64 16) rfl rfl rfl ?_
 refine Qaa (v:=bool false) rfl rfl rfl (Qab (Qap rfl (QaE (Qaf (Qak [0,1,2,3,4,5,6,7] rfl ?_)))))
 refine Qaa (v:=int .u64 a1) rfl rfl rfl ?_
 refine Qaa (v:=int .i64 16) rfl rfl rfl ?_
 obtain ⟨r2,Hr2,H⟩:=bind_get H
 refine Qas (args:=[slice none 0 0,int .u64 a1,int .i64 16,bool false,bool false]) rfl rfl (Qat rfl (callFunc_enter Tryz.func111 rfl rfl) rfl) (Qan.calls (a1:=a1) (hs.cellU hdbr) Hr2) ?_
 rintro _ w ⟨v3,rfl,hs2⟩
 have hs:St _ [_] _:=hs.call hs2
 refine Qaa (v:=tuple #[v3,string r2.2]) rfl rfl rfl ?_
 refine Qaa (v:=v3) rfl rfl rfl ?_
 refine Qaa (v:=string r2.2) rfl rfl rfl ?_
 refine Qaa (v:=v3) rfl rfl rfl ?_
 show G _ _ _ _ [_,_,_,_,_,_,_,_,_,_,_,_,_,_,_,_,_,_,_,_,_,_,_,_,_,_,_,_,_,_,_,_] _
 refine Qaa (v:=string r2.2) rfl rfl rfl (Qab (Qaf (Qak [0,1] rfl ?_)))
 refine Qaa (v:=string r2.2) rfl rfl rfl ?_
 refine Qaa (v:=string r2.2) rfl rfl rfl (Qab ?_)
 obtain rfl:=QsJ H
 refine Qax Tryz.func86 (v:=string r2.2) (res1 rfl rfl) ?_
 have hs:St _ [] _:=St.take (Γ':=[_]) hs
 exact ⟨_,rfl,rfl,hs⟩
def Qbj.post (w0:World) (r:ByteArray) (v:Value) (w:World):Prop:=v=string r∧St w0 [] w
theorem Qbj.calls {N:Nat} {a1:Int} {w0:World} {r:ByteArray} (hdbr:CellU w0 7 15 4) (H:Qbj.f N a1=some r):
 Calls Tryz.prog 47 #[int .u64 a1,int .i64 16] w0 fun e w=>∃ v,e= .returned v∧Qbj.post w0 r v w:=by
 unfold Qbj.f at H
 have hs:St w0 [] w0:=St.refl w0
 refine calls_of_g (n:=6) Tryz.func47 rfl rfl ?_
 show G _ _ _ _ [_,_,_,_,_,_,_,_] _
 refine Qaf (Qak [0] rfl ?_)
 refine Qaa (v:=string (⟨#[]⟩:ByteArray)) rfl rfl rfl (Qab (Qaf (Qak [0,1,2,3] rfl ?_)))
 refine Qaa (v:=int .u64 a1) rfl rfl rfl ?_
 show G _ _ _ _ [_,_,_,_,_,_,_,_] _
 refine Qaa (v:=int .i64 16) rfl rfl rfl ?_
 obtain ⟨r2,Hr2,H⟩:=bind_get H
 refine Qas (args:=[int .u64 a1,int .i64 16]) rfl rfl (Qat rfl (callFunc_enter Tryz.func86 rfl rfl) rfl) (istrconv_FormatUint_at_c16.calls (a1:=a1) (hs.cellU hdbr) Hr2) ?_
 rintro _ w ⟨rfl,hs2⟩
 have hs:St _ [] _:=hs.call hs2
 refine Qaa (v:=string r2) rfl rfl rfl ?_
 show G _ _ _ _ [_,_,_,_,_,_,_,_] _
 refine Qab ?_
 obtain rfl:=QsJ H
 refine Qax Tryz.func47 (v:=string r2) (res1 rfl rfl) ?_
 have hs:St _ [] _:=St.take (Γ':=[]) hs
 exact ⟨_,rfl,rfl,hs⟩
def Qb3.post (w0:World) (r:ByteArray) (v:Value) (w:World):Prop:=v=string r∧St w0 [] w
theorem Qb3.calls {N:Nat} {a1:ByteArray} {a2:Int} {w0:World} {r:ByteArray} (H:Qb3.f N a1 a2=some r):
 Calls Tryz.prog 48 #[.string a1, .int .i64 a2] w0 fun e w=>∃ v,e= .returned v∧Qb3.post w0 r v w:=by
 obtain ⟨⟨h1,h2,h3⟩,H⟩:=ite_get H
 obtain rfl:=QsJ H
 obtain ⟨n,rfl⟩:=Int.eq_ofNat_of_zero_le h2
 obtain rfl:a1=⟨#[48]⟩:=ByteArray.ext (Array.toList_inj.1 h1)
 exact (rep16 n (by omega) w0).mono fun e w ⟨he,hw⟩=>⟨_,he,rfl,by rw [hw];exact St.refl _⟩
def QaY.post (w0:World) (r:ByteArray) (v:Value) (w:World):Prop:=v=string r∧St w0 [] w
theorem QaY.calls {N : Nat} {a1 : Qag} {v2 : Value} {w0 : World} {r : ByteArray} (htab : Lib.TabIs Tryz.prog w0 "internal/strconv.uint64pow10" .u64 Lib.pow10Tab) (hdbr : CellU w0 7 15 4) (hr3 : RdRow Qao w0 v2 a1.Qah) (H : QaY.f N a1 = some r) :
 Calls Tryz.prog 12 #[agg (([int .i8 a1.Qac,int .i8 a1.Qae,v2]:List Value)).toArray] w0 fun e w=>∃ v,e= .returned v∧QaY.post w0 r v w:=by
 unfold QaY.f at H
 have hs:St w0 [] w0:=St.refl w0
 refine calls_of_g (n:=47) Tryz.func12 rfl rfl ?_
 show G _ _ _ _ [_,_,_,_,_,_,_,_,_,_,_,_,_,_,_,_,_,_,_,_,_,_,_,_,_,_,_,_,_,_,_,_,_,_,_,_,_,_,_,_,_,_,_,_,_,_,_,_] _
 refine Qaf (Qak [0,1] rfl ?_)
 refine Qbx hs rfl rfl (cs:=(([int .i8 a1.Qac,int .i8 a1.Qae,v2]:List Value))) rfl rfl ?_
 intro b4 w hs
 refine Qaa (v:=string (⟨#[]⟩:ByteArray)) rfl rfl rfl ?_
 show G _ _ _ _ [_,_,_,_,_,_,_,_,_,_,_,_,_,_,_,_,_,_,_,_,_,_,_,_,_,_,_,_,_,_,_,_,_,_,_,_,_,_,_,_,_,_,_,_,_,_,_,_] _
 refine Qab (Qaf (Qaf (Qak [0,1,2] rfl ?_)))
 refine QaG rfl rfl (es:=(([int .i8 a1.Qac,int .i8 a1.Qae,v2]:List Value))) rfl rfl (fun _=>rfl) (n:=3) (fun _=>rfl) rfl (cells_all (hs.cells 0 rfl)) ?_
 obtain ⟨r6,Hr6,H⟩:=bind_get H
 refine Qas (args:=[agg (([int .i8 a1.Qac,int .i8 a1.Qae,v2]:List Value)).toArray]) rfl rfl (Qat rfl (callFunc_enter Tryz.func14 rfl rfl) rfl) (Qa1.calls (a1:=(⟨a1.Qac,a1.Qae,a1.Qah⟩:Qag)) (hs.rd hr3) Hr6) ?_
 rintro _ w ⟨rfl,hs2⟩
 have hs:St _ [_] _:=hs.call hs2
 cases r6 with
 |true=>
  rw [if_pos rfl] at H
  show G _ _ _ _ [_,_,_,_,_,_,_,_,_,_,_,_,_,_,_,_,_,_,_,_,_,_,_,_,_,_,_,_,_,_,_,_,_,_,_,_,_,_,_,_,_,_,_,_,_,_,_,_] _
  refine Qaa (v:=bool false) rfl rfl rfl (Qab (Qap rfl (QaE (Qaf (Qak [0,1,2] rfl ?_)))))
  refine Qaa (v:=agg ([pointer none,slice none 0 0]).toArray) rfl rfl (QbB (cs:=[pointer none,slice none 0 0]) (segs:=[[pointer none],[slice none 0 0]]) rfl rfl (fun _=>rfl) ⟨rfl,(fun _=>rfl),rfl,(fun _=>rfl),trivial⟩ (by simp) (by first|rfl|(simp [ev];done)|(simp [ev];rfl))) ?_
  refine Qa5 hs rfl rfl (z:=(agg #[pointer none,slice none 0 0])) (cs:=[pointer none,slice none 0 0]) rfl (fun _=>rfl) rfl ?_
  intro b7 w hs
  show G _ _ _ _ [_,_,_,_,_,_,_,_,_,_,_,_,_,_,_,_,_,_,_,_,_,_,_,_,_,_,_,_,_,_,_,_,_,_,_,_,_,_,_,_,_,_,_,_,_,_,_,_] _
  refine QaB (n:=2) hs rfl rfl rfl (vs:=[pointer none,slice none 0 0]) rfl rfl rfl (fun _=>rfl) rfl (by simp [Value.oneCell']) ?_
  intro w hs
  have hs:=hs.bld0 (e:=5)
  have hs:St _ [_,_] _:=hs
  refine Qab (Qaf ?_)
  refine Qcj (n:=12) rfl [0,1,2,3,4,5,6,7,8,9,10,11] [0,1,2,3,4,5,6,7,8,9,10,11] rfl rfl ?_
  intro rest w hh hbw hO
  have hs:=hs.samew hh hbw
  show G _ _ _ _ [_,_,_,_,_,_,_,_,_,_,_,_,_,_,_,_,_,_,_,_,_,_,_,_,_,_,_,_,_,_,_,_,_,_,_,_,_,_,_,_,_,_,_,_,_,_,_,_] _
  obtain ⟨r9,Hr9,H⟩:=bind_get H
  obtain ⟨gs2,H⟩:=ite_get H
  obtain ⟨r10,Hr10,H⟩:=bind_get H
  refine Qbu ?_
  intro T hT
  refine QbV (m0:=0) hO rfl 511 [0,1,2,3,4,5,6,7,8] [0,1,3,7,15,0,32,96,239,511,1023,2047] (by decide+kernel) (fun D t w=>∃ O:Nat→Value,t=[agg (([int .i8 a1.Qac,int .i8 a1.Qae,v2]:List Value)).toArray,pointer (some ⟨b4,0,none⟩),string (⟨#[]⟩:ByteArray),pointer (some ⟨b7,0,none⟩),O 4,O 5,O 6,O 7,agg (([int .i8 a1.Qac,int .i8 a1.Qae,v2]:List Value)).toArray,bool true,bool false,agg ([pointer none,slice none 0 0]).toArray,cnd (D 0) (pointer (some ⟨b4,0,none⟩)) (O 12),cnd (D 1) (int .i8 a1.Qac) (O 13),cnd (D 2) (int .i64 (i64w a1.Qac)) (O 14),cnd (D 3) (string r9) (O 15),cnd (D 4) (string (r9++(⟨#[32]⟩:ByteArray))) (O 16),cnd (D 5) (pointer (some ⟨b4,1,none⟩)) (O 17),cnd (D 6) (int .i8 a1.Qae) (O 18),cnd (D 7) (int .i64 (i64w a1.Qae)) (O 19),cnd (D 8) (string r10) (O 20),O 21,O 22,O 23,O 24,O 25,O 26,O 27,O 28,O 29,O 30,O 31,O 32,O 33,O 34,O 35,O 36,O 37,O 38,O 39,O 40,O 41,O 42,O 43,O 44,O 45,O 46,O 47]∧St w0 [Bld 83 5 b7 (⟨#[]⟩:ByteArray),Cells b4 (([int .i8 a1.Qac,int .i8 a1.Qae,v2]:List Value)) 30] w) ?_ ⟨?_,⟨?_,⟨?_,⟨?_,⟨?_,⟨?_,⟨?_,⟨?_,⟨?_,trivial⟩⟩⟩⟩⟩⟩⟩⟩⟩ ?_
  ·exact ⟨fun i=>T.getD i undef,(by subst hT;rfl),hs⟩
  ·
   rintro D t w hD hp hcl ⟨O,ht,hs⟩ rest hk
   have hp:AllDone D []:=hp
   have q1_:=ny hcl 1 0 hD
   have q2_:=ny hcl 2 0 q1_
   have q3_:=ny hcl 3 0 q2_
   have q4_:=ny hcl 4 0 q3_
   have q8_:=ny hcl 8 1 q3_
   simp only [hD,q1_,q2_,q3_,q4_,q8_,cq,oT] at ht hs
   subst ht
   refine Qaa (v:=pointer (some ⟨b4,0,none⟩)) rfl rfl rfl ?_
   show G _ _ _ _ [_,_,_,_,_,_,_,_,_,_,_,_,_,_,_,_,_,_,_,_,_,_,_,_,_,_,_,_,_,_,_,_,_,_,_,_,_,_,_,_,_,_,_,_,_,_,_,_] _
   refine hk _ _ ⟨O,?_,hs.cast ?_⟩<;>simp only [oT,lq,cq,Nat.reduceBEq,q1_,q2_,q3_,q4_,q8_]
  ·
   rintro D t w hD hp hcl ⟨O,ht,hs⟩ rest hk
   have hp:AllDone D [0]:=hp
   obtain ⟨p0_,_⟩:=hp
   have q2_:=ny hcl 2 0 hD
   have q3_:=ny hcl 3 0 q2_
   have q4_:=ny hcl 4 0 q3_
   have q8_:=ny hcl 8 1 q3_
   simp only [hD,p0_,q2_,q3_,q4_,q8_,cq,oT] at ht hs
   subst ht
   refine Qaw rfl rfl (v:=int .i8 a1.Qac) rfl rfl (fun _=>rfl) (cells_load (hs.cells 1 rfl) 0 1 rfl) ?_
   show G _ _ _ _ [_,_,_,_,_,_,_,_,_,_,_,_,_,_,_,_,_,_,_,_,_,_,_,_,_,_,_,_,_,_,_,_,_,_,_,_,_,_,_,_,_,_,_,_,_,_,_,_] _
   refine hk _ _ ⟨O,?_,hs.cast ?_⟩<;>simp only [oT,lq,cq,Nat.reduceBEq,p0_,q2_,q3_,q4_,q8_]
  ·
   rintro D t w hD hp hcl ⟨O,ht,hs⟩ rest hk
   have hp:AllDone D [1]:=hp
   obtain ⟨p1_,_⟩:=hp
   obtain ⟨p0_,_⟩:=(show D 1=true→AllDone D [0] from hcl 1 (by decide)) p1_
   have q3_:=ny hcl 3 0 hD
   have q4_:=ny hcl 4 0 q3_
   have q8_:=ny hcl 8 1 q3_
   simp only [hD,p0_,p1_,q3_,q4_,q8_,cq,oT] at ht hs
   subst ht
   refine Qaa (v:=int .i64 (i64w a1.Qac)) rfl rfl rfl ?_
   show G _ _ _ _ [_,_,_,_,_,_,_,_,_,_,_,_,_,_,_,_,_,_,_,_,_,_,_,_,_,_,_,_,_,_,_,_,_,_,_,_,_,_,_,_,_,_,_,_,_,_,_,_] _
   refine hk _ _ ⟨O,?_,hs.cast ?_⟩<;>simp only [oT,lq,cq,Nat.reduceBEq,p0_,p1_,q3_,q4_,q8_]
  ·
   rintro D t w hD hp hcl ⟨O,ht,hs⟩ rest hk
   have hp:AllDone D [2]:=hp
   obtain ⟨p2_,_⟩:=hp
   obtain ⟨p1_,_⟩:=(show D 2=true→AllDone D [1] from hcl 2 (by decide)) p2_
   obtain ⟨p0_,_⟩:=(show D 1=true→AllDone D [0] from hcl 1 (by decide)) p1_
   have q4_:=ny hcl 4 0 hD
   have q8_:=ny hcl 8 1 hD
   simp only [hD,p0_,p1_,p2_,q4_,q8_,cq,oT] at ht hs
   subst ht
   refine Qas (args:=[int .i64 (i64w a1.Qac)]) rfl rfl (Qat rfl (callFunc_enter Tryz.func46 rfl rfl) rfl) (QbC.calls (a1:=i64w a1.Qac) (hs.tab htab) Hr9) ?_
   rintro _ w ⟨rfl,hs2⟩
   have hs:St _ [_,_] _:=hs.call hs2
   show G _ _ _ _ [_,_,_,_,_,_,_,_,_,_,_,_,_,_,_,_,_,_,_,_,_,_,_,_,_,_,_,_,_,_,_,_,_,_,_,_,_,_,_,_,_,_,_,_,_,_,_,_] _
   refine hk _ _ ⟨O,?_,hs.cast ?_⟩<;>simp only [oT,lq,cq,Nat.reduceBEq,p0_,p1_,p2_,q4_,q8_]
  ·
   rintro D t w hD hp hcl ⟨O,ht,hs⟩ rest hk
   have hp:AllDone D [3]:=hp
   obtain ⟨p3_,_⟩:=hp
   obtain ⟨p2_,_⟩:=(show D 3=true→AllDone D [2] from hcl 3 (by decide)) p3_
   obtain ⟨p1_,_⟩:=(show D 2=true→AllDone D [1] from hcl 2 (by decide)) p2_
   obtain ⟨p0_,_⟩:=(show D 1=true→AllDone D [0] from hcl 1 (by decide)) p1_
   simp only [hD,p0_,p1_,p2_,p3_,cq,oT] at ht hs
   subst ht
   refine Qaa (v:=string (r9++(⟨#[32]⟩:ByteArray))) rfl rfl (QcF rfl rfl rfl gs2) ?_
   show G _ _ _ _ [_,_,_,_,_,_,_,_,_,_,_,_,_,_,_,_,_,_,_,_,_,_,_,_,_,_,_,_,_,_,_,_,_,_,_,_,_,_,_,_,_,_,_,_,_,_,_,_] _
   refine hk _ _ ⟨O,?_,hs.cast ?_⟩<;>simp only [oT,lq,cq,Nat.reduceBEq,p0_,p1_,p2_,p3_]
  ·
   rintro D t w hD hp hcl ⟨O,ht,hs⟩ rest hk
   have hp:AllDone D []:=hp
   have q6_:=ny hcl 6 0 hD
   have q7_:=ny hcl 7 0 q6_
   have q8_:=ny hcl 8 0 q7_
   simp only [hD,q6_,q7_,q8_,cq,oT] at ht hs
   subst ht
   refine Qaa (v:=pointer (some ⟨b4,1,none⟩)) rfl rfl rfl ?_
   show G _ _ _ _ [_,_,_,_,_,_,_,_,_,_,_,_,_,_,_,_,_,_,_,_,_,_,_,_,_,_,_,_,_,_,_,_,_,_,_,_,_,_,_,_,_,_,_,_,_,_,_,_] _
   refine hk _ _ ⟨O,?_,hs.cast ?_⟩<;>simp only [oT,lq,cq,Nat.reduceBEq,q6_,q7_,q8_]
  ·
   rintro D t w hD hp hcl ⟨O,ht,hs⟩ rest hk
   have hp:AllDone D [5]:=hp
   obtain ⟨p5_,_⟩:=hp
   have q7_:=ny hcl 7 0 hD
   have q8_:=ny hcl 8 0 q7_
   simp only [hD,p5_,q7_,q8_,cq,oT] at ht hs
   subst ht
   refine Qaw rfl rfl (v:=int .i8 a1.Qae) rfl rfl (fun _=>rfl) (cells_load (hs.cells 1 rfl) 1 1 rfl) ?_
   show G _ _ _ _ [_,_,_,_,_,_,_,_,_,_,_,_,_,_,_,_,_,_,_,_,_,_,_,_,_,_,_,_,_,_,_,_,_,_,_,_,_,_,_,_,_,_,_,_,_,_,_,_] _
   refine hk _ _ ⟨O,?_,hs.cast ?_⟩<;>simp only [oT,lq,cq,Nat.reduceBEq,p5_,q7_,q8_]
  ·
   rintro D t w hD hp hcl ⟨O,ht,hs⟩ rest hk
   have hp:AllDone D [6]:=hp
   obtain ⟨p6_,_⟩:=hp
   obtain ⟨p5_,_⟩:=(show D 6=true→AllDone D [5] from hcl 6 (by decide)) p6_
   have q8_:=ny hcl 8 0 hD
   simp only [hD,p5_,p6_,q8_,cq,oT] at ht hs
   subst ht
   refine Qaa (v:=int .i64 (i64w a1.Qae)) rfl rfl rfl ?_
   show G _ _ _ _ [_,_,_,_,_,_,_,_,_,_,_,_,_,_,_,_,_,_,_,_,_,_,_,_,_,_,_,_,_,_,_,_,_,_,_,_,_,_,_,_,_,_,_,_,_,_,_,_] _
   refine hk _ _ ⟨O,?_,hs.cast ?_⟩<;>simp only [oT,lq,cq,Nat.reduceBEq,p5_,p6_,q8_]
  ·
   rintro D t w hD hp hcl ⟨O,ht,hs⟩ rest hk
   have hp:AllDone D [7,3]:=hp
   obtain ⟨p7_,p3_,_⟩:=hp
   obtain ⟨p6_,_⟩:=(show D 7=true→AllDone D [6] from hcl 7 (by decide)) p7_
   obtain ⟨p5_,_⟩:=(show D 6=true→AllDone D [5] from hcl 6 (by decide)) p6_
   obtain ⟨p2_,_⟩:=(show D 3=true→AllDone D [2] from hcl 3 (by decide)) p3_
   obtain ⟨p1_,_⟩:=(show D 2=true→AllDone D [1] from hcl 2 (by decide)) p2_
   obtain ⟨p0_,_⟩:=(show D 1=true→AllDone D [0] from hcl 1 (by decide)) p1_
   simp only [hD,p0_,p1_,p2_,p3_,p5_,p6_,p7_,cq,oT] at ht hs
   subst ht
   refine Qas (args:=[int .i64 (i64w a1.Qae)]) rfl rfl (Qat rfl (callFunc_enter Tryz.func46 rfl rfl) rfl) (QbC.calls (a1:=i64w a1.Qae) (hs.tab htab) Hr10) ?_
   rintro _ w ⟨rfl,hs2⟩
   have hs:St _ [_,_] _:=hs.call hs2
   show G _ _ _ _ [_,_,_,_,_,_,_,_,_,_,_,_,_,_,_,_,_,_,_,_,_,_,_,_,_,_,_,_,_,_,_,_,_,_,_,_,_,_,_,_,_,_,_,_,_,_,_,_] _
   refine hk _ _ ⟨O,?_,hs.cast ?_⟩<;>simp only [oT,lq,cq,Nat.reduceBEq,p0_,p1_,p2_,p3_,p5_,p6_,p7_]
  intro D t w rest hall hO1_ hI
  obtain ⟨O,ht,hs⟩:=hI
  have p0_:=hall 0 (by decide) rfl
  have p1_:=hall 1 (by decide) rfl
  have p2_:=hall 2 (by decide) rfl
  have p3_:=hall 3 (by decide) rfl
  have p4_:=hall 4 (by decide) rfl
  have p5_:=hall 5 (by decide) rfl
  have p6_:=hall 6 (by decide) rfl
  have p7_:=hall 7 (by decide) rfl
  have p8_:=hall 8 (by decide) rfl
  simp only [p0_,p1_,p2_,p3_,p4_,p5_,p6_,p7_,p8_,cq,oT] at ht hs
  subst ht
  obtain ⟨rest,rfl,hO3_⟩:=ord_one (m:=511) hO1_ rfl 9 (m':=1023) (by decide+kernel) rfl
  clear hO1_
  obtain ⟨gs4,H⟩:=ite_get H
  refine Qaa (v:=string ((r9++(⟨#[32]⟩:ByteArray))++r10)) rfl rfl (QcF rfl rfl rfl gs4) ?_
  obtain ⟨rest,rfl,hO5_⟩:=ord_one (m:=1023) hO3_ rfl 10 (m':=2047) (by decide+kernel) rfl
  clear hO3_
  obtain ⟨gs6,H⟩:=ite_get H
  refine Qaa (v:=string (((r9++(⟨#[32]⟩:ByteArray))++r10)++(⟨#[10]⟩:ByteArray))) rfl rfl (QcF rfl rfl rfl gs6) ?_
  obtain ⟨rest,rfl,hO7_⟩:=ord_one (m:=2047) hO5_ rfl 11 (m':=4095) (by decide+kernel) rfl
  clear hO5_
  obtain ⟨g,H⟩:=ite_get H
  refine QcN (x:=((r9++(⟨#[32]⟩:ByteArray))++r10)++(⟨#[10]⟩:ByteArray)) bld_write (not8_cons (not8_cells (by decide)) not8_nil) hs rfl rfl (Qat rfl (callFunc_enter Tryz.func45 rfl rfl) rfl) g ?_
  intro w hs
  show G _ _ _ _ [_,_,_,_,_,_,_,_,_,_,_,_,_,_,_,_,_,_,_,_,_,_,_,_,_,_,_,_,_,_,_,_,_,_,_,_,_,_,_,_,_,_,_,_,_,_,_,_] _
  obtain rfl:=ord_end hO7_ rfl (by decide+kernel)
  refine Qab (Qaf (Qaf (Qak [0,1,2,3] rfl ?_)))
  refine Qaa (v:=pointer (some ⟨b4,2,none⟩)) rfl rfl rfl ?_
  refine Qaw rfl rfl (v:=v2) rfl rfl (fun _=>rfl) (cells_load (hs.cells 1 rfl) 2 1 rfl) ?_
  refine Qbp (hs.rd hr3) rfl rfl rfl rfl rfl ?_
  refine Qaa (v:=int .i64 0) rfl rfl rfl (Qab ?_)
  obtain ⟨o1_,Ho,Hr1_⟩:=bind_get H
  refine QaF (J:=fun t w=>∃ x26:ByteArray,QaY.a0 N x26=some r∧Fr t (fun O=>([O 0,O 1,O 2,pointer (some ⟨b7,0,none⟩),O 4,O 5,O 6,O 7,O 8,O 9,O 10,O 11,O 12,O 13,O 14,O 15,O 16,O 17,O 18,O 19,O 20,O 21,O 22,O 23,O 24,O 25,O 26,O 27,O 28,O 29,O 30,O 31,O 32,O 33,O 34,O 35,O 36,O 37,O 38,O 39,O 40,O 41,O 42,O 43,O 44,O 45,O 46,O 47]:List Value))∧St w0 [Bld 83 5 b7 x26] w) ?_ ?_
  ·
   rintro t w ⟨x26,H,hf,hs⟩
   obtain ⟨O,rfl⟩:=hf.open
   show G _ _ _ _ [_,_,_,_,_,_,_,_,_,_,_,_,_,_,_,_,_,_,_,_,_,_,_,_,_,_,_,_,_,_,_,_,_,_,_,_,_,_,_,_,_,_,_,_,_,_,_,_] _
   unfold QaY.a0 at H
   refine Qaf (Qak [0,1] rfl ?_)
   refine QcW Tryz.Builder_String_any_k not8_nil hs rfl rfl (Qat rfl (callFunc_enter Tryz.func49 rfl rfl) rfl) ?_
   intro w hs
   refine Qaa (v:=string x26) rfl rfl rfl ?_
   show G _ _ _ _ [_,_,_,_,_,_,_,_,_,_,_,_,_,_,_,_,_,_,_,_,_,_,_,_,_,_,_,_,_,_,_,_,_,_,_,_,_,_,_,_,_,_,_,_,_,_,_,_] _
   refine Qab ?_
   obtain rfl:=QsJ H
   refine Qax Tryz.func12 (v:=string x26) (res1 rfl rfl) ?_
   have hs:St _ [] _:=St.take (Γ':=[_]) hs
   exact ⟨_,rfl,rfl,hs⟩
  intro ha1_
  have hs:=hs.pull 0 rfl
  have hs:St _ [_] _:=St.take (Γ':=[_]) hs
  refine QaZ (I:=fun n_ t w=>∃ x18:ByteArray,∃ x19:Int,rounds (fun s=>QaY.b0 N a1 s.1 s.2) n_ (x18,x19)=some o1_∧Fr t (fun O=>([O 0,O 1,O 2,pointer (some ⟨b7,0,none⟩),O 4,O 5,O 6,O 7,O 8,O 9,O 10,O 11,O 12,O 13,O 14,O 15,O 16,O 17,O 18,O 19,O 20,O 21,O 22,O 23,O 24,v2,int .i64 (a1.Qah.length:Int),int .i64 x19,O 28,O 29,O 30,O 31,O 32,O 33,O 34,O 35,O 36,O 37,O 38,O 39,O 40,O 41,O 42,O 43,O 44,O 45,O 46,O 47]:List Value))∧St w0 [Bld 83 5 b7 x18] w) N ⟨(⟨#[]⟩:ByteArray)++(((r9++(⟨#[32]⟩:ByteArray))++r10)++(⟨#[10]⟩:ByteArray)),0,Ho,rfl,hs⟩ ?_ ?_
  ·
   rintro _ _ ⟨x18,x19,h,_⟩
   exact rounds_zero h
  intro n_ ih1_
  rintro t w ⟨x18,x19,Ho,hf,hs⟩
  obtain ⟨O,rfl⟩:=hf.open
  show G _ _ _ _ [_,_,_,_,_,_,_,_,_,_,_,_,_,_,_,_,_,_,_,_,_,_,_,_,_,_,_,_,_,_,_,_,_,_,_,_,_,_,_,_,_,_,_,_,_,_,_,_] _
  obtain ⟨x18_,H,Hx1_⟩:=rounds_succ Ho
  have H:QaY.b0 N a1 x18 x19=some x18_:=H
  unfold QaY.b0 at H
  refine Qaf (Qak [0] rfl ?_)
  refine QaA (B:=decide (x19< (a1.Qah.length:Int))) rfl rfl rfl ?_ ?_
  ·
   intro hb
   rw [if_pos (b_dec_t hb)] at H
   refine Qab (Qaf (Qam rfl (QaE (Qaf ?_))))
   refine Qbz (Qaf (Qak [0,1,2,3] rfl ?_))
   obtain ⟨g13,H⟩:=ite_get H
   refine Qcm QaX Qau (hs.rd hr3) rfl (fun _=>rfl) g13.1 g13.2 rfl rfl rfl rfl rfl ?_
   intro p20 hp20 lp20 op20
   refine QaG rfl rfl (es:=(QaC (rdL a1.Qah x19 Qau))) rfl rfl (fun _=>rfl) (n:=2) (fun _=>rfl) (QaX.len _) hp20 ?_
   show G _ _ _ _ [_,_,_,_,_,_,_,_,_,_,_,_,_,_,_,_,_,_,_,_,_,_,_,_,_,_,_,_,_,_,_,_,_,_,_,_,_,_,_,_,_,_,_,_,_,_,_,_] _
   refine Qa5 hs rfl rfl (z:=(agg #[int .u64 0,bool false])) (cs:=(QaC Qau)) rfl (fun _=>rfl) rfl ?_
   intro b21 w hs
   refine QaB (n:=2) hs (QaX.len _) rfl rfl (vs:=(QaC (rdL a1.Qah x19 Qau))) rfl rfl rfl (fun _=>rfl) (QaX.len _) (QaX.one _) ?_
   intro w hs
   refine Qab (Qaf (Qak [0] rfl ?_))
   refine Qaa (v:=string (⟨#[32,110,111]⟩:ByteArray)) rfl rfl rfl (Qab (Qaf (Qaf ?_)))
   refine Qcq (J:=(fun t w=>∃ x23:ByteArray,QaY.j2 N a1 x19 x18 x23=some x18_∧Fr t (fun O=>([O 0,O 1,O 2,pointer (some ⟨b7,0,none⟩),O 4,pointer (some ⟨b21,0,none⟩),string x23,O 7,O 8,O 9,O 10,O 11,O 12,O 13,O 14,O 15,O 16,O 17,O 18,O 19,O 20,O 21,O 22,O 23,O 24,v2,int .i64 (a1.Qah.length:Int),int .i64 x19,O 28,O 29,O 30,O 31,O 32,O 33,O 34,O 35,O 36,O 37,O 38,O 39,O 40,O 41,O 42,O 43,O 44,O 45,O 46,O 47]:List Value))∧St w0 [Bld 83 5 b7 x18,Cells b21 (QaC (rdL a1.Qah x19 Qau)) 61] w)) ?_ ?_
   ·
    rintro t w ⟨x23,H,hf,hs⟩
    obtain ⟨O,rfl⟩:=hf.open
    show G _ _ _ _ [_,_,_,_,_,_,_,_,_,_,_,_,_,_,_,_,_,_,_,_,_,_,_,_,_,_,_,_,_,_,_,_,_,_,_,_,_,_,_,_,_,_,_,_,_,_,_,_] _
    unfold QaY.j2 at H
    refine Qaf (Qak [0,1,2,3] rfl ?_)
    refine Qaa (v:=pointer (some ⟨b21,0,none⟩)) rfl rfl rfl ?_
    refine Qaw rfl rfl (v:=int .u64 ((rdL a1.Qah x19 Qau).Qbh)) rfl rfl (fun _=>rfl) (cells_load (hs.cells 1 rfl) 0 1 rfl) ?_
    show G _ _ _ _ [_,_,_,_,_,_,_,_,_,_,_,_,_,_,_,_,_,_,_,_,_,_,_,_,_,_,_,_,_,_,_,_,_,_,_,_,_,_,_,_,_,_,_,_,_,_,_,_] _
    obtain ⟨r24,Hr24,H⟩:=bind_get H
    refine Qas (args:=[int .u64 ((rdL a1.Qah x19 Qau).Qbh),int .i64 16]) rfl rfl (Qat rfl (callFunc_enter Tryz.func47 rfl rfl) rfl) (Qbj.calls (a1:=(rdL a1.Qah x19 Qau).Qbh) (hs.cellU hdbr) Hr24) ?_
    rintro _ w ⟨rfl,hs2⟩
    have hs:St _ [_,_] _:=hs.call hs2
    refine Qaa (v:=string r24) rfl rfl rfl (Qab (Qak [0,1,2,3,4,5,6,7,8,9] rfl ?_))
    refine Qaa (v:=string r24) rfl rfl rfl ?_
    refine Qaa (v:=int .i64 (r24.size:Int)) rfl rfl (QcY rfl rfl rfl) ?_
    show G _ _ _ _ [_,_,_,_,_,_,_,_,_,_,_,_,_,_,_,_,_,_,_,_,_,_,_,_,_,_,_,_,_,_,_,_,_,_,_,_,_,_,_,_,_,_,_,_,_,_,_,_] _
    refine Qaa (v:=int .i64 (i64w (16 - (r24.size:Int)))) rfl rfl rfl ?_
    obtain ⟨r25,Hr25,H⟩:=bind_get H
    refine Qas (args:=[string (⟨#[48]⟩:ByteArray),int .i64 (i64w (16 - (r24.size:Int)))]) rfl rfl (Qat rfl (callFunc_enter Tryz.func48 rfl rfl) rfl) (Qb3.calls (a1:=(⟨#[48]⟩:ByteArray)) (a2:=i64w (16 - (r24.size:Int))) Hr25) ?_
    rintro _ w ⟨rfl,hs2⟩
    have hs:St _ [_,_] _:=hs.call hs2
    refine Qaa (v:=string r24) rfl rfl rfl ?_
    obtain ⟨gs15,H⟩:=ite_get H
    refine Qaa (v:=string (r25++r24)) rfl rfl (QcF rfl rfl rfl gs15) ?_
    show G _ _ _ _ [_,_,_,_,_,_,_,_,_,_,_,_,_,_,_,_,_,_,_,_,_,_,_,_,_,_,_,_,_,_,_,_,_,_,_,_,_,_,_,_,_,_,_,_,_,_,_,_] _
    refine Qaa (v:=string x23) rfl rfl rfl ?_
    obtain ⟨gs16,H⟩:=ite_get H
    refine Qaa (v:=string ((r25++r24)++x23)) rfl rfl (QcF rfl rfl rfl gs16) ?_
    obtain ⟨gs17,H⟩:=ite_get H
    refine Qaa (v:=string (((r25++r24)++x23)++(⟨#[10]⟩:ByteArray))) rfl rfl (QcF rfl rfl rfl gs17) ?_
    obtain ⟨g,H⟩:=ite_get H
    refine QcN (x:=((r25++r24)++x23)++(⟨#[10]⟩:ByteArray)) bld_write (not8_cons (not8_cells (by decide)) not8_nil) hs rfl rfl (Qat rfl (callFunc_enter Tryz.func45 rfl rfl) rfl) g ?_
    intro w hs
    show G _ _ _ _ [_,_,_,_,_,_,_,_,_,_,_,_,_,_,_,_,_,_,_,_,_,_,_,_,_,_,_,_,_,_,_,_,_,_,_,_,_,_,_,_,_,_,_,_,_,_,_,_] _
    refine Qab ?_
    refine QaH (Qak [0,1] rfl ?_)
    refine Qaa (v:=int .i64 (i64w (x19+1))) rfl rfl rfl ?_
    refine Qaa (v:=int .i64 (i64w (x19+1))) rfl rfl rfl (Qab ?_)
    obtain rfl:=QsJ H
    have hs:=hs.pull 0 rfl
    have hs:St _ [_] _:=St.take (Γ':=[_]) hs
    exact ih1_ _ _ ⟨x18++(((r25++r24)++x23)++(⟨#[10]⟩:ByteArray)),i64w (x19+1),Hx1_,rfl,hs⟩
   intro ha
   refine Qak [0,1] rfl ?_
   refine Qaa (v:=pointer (some ⟨b21,1,none⟩)) rfl rfl rfl ?_
   by_cases hb14_:(rdL a1.Qah x19 Qau).QbH=true
   ·
    rw [if_pos hb14_] at H
    refine Qaw rfl rfl (v:=bool true) rfl rfl (fun _=>rfl) (cells_load (hs.cells 0 rfl) 1 1 (Eq.trans (b:=[bool ((rdL a1.Qah x19 Qau).QbH)]) rfl (congrArg (fun b=>[bool b]) hb14_))) (Qab (Qam rfl (Qak [0] rfl ?_)))
    refine Qaa (v:=string (⟨#[32,121,101,115]⟩:ByteArray)) rfl rfl rfl (Qab ?_)
    have hs:=hs.pull 0 rfl
    have hs:=hs.pull 1 rfl
    have hs:St _ [_,_] _:=St.take (Γ':=[]) hs
    exact ha _ _ ⟨(⟨#[32,121,101,115]⟩:ByteArray),H,rfl,hs⟩
   rw [if_neg hb14_] at H
   refine Qaw rfl rfl (v:=bool false) rfl rfl (fun _=>rfl) (cells_load (hs.cells 0 rfl) 1 1 (Eq.trans (b:=[bool ((rdL a1.Qah x19 Qau).QbH)]) rfl (congrArg (fun b=>[bool b]) (Bool.eq_false_iff.2 hb14_)))) ?_
   show G _ _ _ _ [_,_,_,_,_,_,_,_,_,_,_,_,_,_,_,_,_,_,_,_,_,_,_,_,_,_,_,_,_,_,_,_,_,_,_,_,_,_,_,_,_,_,_,_,_,_,_,_] _
   refine Qab (Qap rfl (QaE ?_))
   have hs:=hs.pull 0 rfl
   have hs:=hs.pull 1 rfl
   have hs:St _ [_,_] _:=St.take (Γ':=[]) hs
   exact ha _ _ ⟨(⟨#[32,110,111]⟩:ByteArray),H,rfl,hs⟩
  intro hb
  rw [if_neg (b_dec_f hb)] at H
  show G _ _ _ _ [_,_,_,_,_,_,_,_,_,_,_,_,_,_,_,_,_,_,_,_,_,_,_,_,_,_,_,_,_,_,_,_,_,_,_,_,_,_,_,_,_,_,_,_,_,_,_,_] _
  refine Qab (Qaf (Qap rfl ?_))
  obtain rfl:=QsJ H
  subst Hx1_
  have hs:=hs.pull 0 rfl
  have hs:St _ [_] _:=St.take (Γ':=[]) hs
  refine Qbq rfl ?_
  exact ha1_ _ _ ⟨x18,Hr1_,rfl,hs⟩
 |false=>
  rw [if_neg Bool.false_ne_true] at H
  refine Qaa (v:=bool true) rfl rfl rfl ?_
  show G _ _ _ _ [_,_,_,_,_,_,_,_,_,_,_,_,_,_,_,_,_,_,_,_,_,_,_,_,_,_,_,_,_,_,_,_,_,_,_,_,_,_,_,_,_,_,_,_,_,_,_,_] _
  refine Qab (Qam rfl (Qaf (Qak [0] rfl ?_)))
  refine Qaa (v:=string (⟨#[]⟩:ByteArray)) rfl rfl rfl (Qab ?_)
  obtain rfl:=QsJ H
  refine Qax Tryz.func12 (v:=string (⟨#[]⟩:ByteArray)) (res1 rfl rfl) ?_
  have hs:St _ [] _:=St.take (Γ':=[_]) hs
  exact ⟨_,rfl,rfl,hs⟩
def strings_Split.post (w0:World) (r:(List ByteArray)) (v:Value) (w:World):Prop:=St w0 [Row 9 K.str v r] w
theorem strings_Split.calls {N:Nat} {a1 a2:ByteArray} {w0:World} {r:(List ByteArray)} (hmax:CellI w0 0) (H:strings_Split.f N a1 a2=some r):
 Calls Tryz.prog 41 #[.string a1, .string a2] w0 fun e w=>∃ v,e= .returned v∧strings_Split.post w0 r v w:=by
 obtain ⟨hg,H⟩:=ite_get H
 obtain rfl:=QsJ H
 obtain ⟨m,hm⟩:=hmax
 exact (Tryz.strings_Split a1 a2 m w0 hg.1 hm hg.2).mono fun e w ⟨he,hw⟩=>⟨_,he,split_row (Lib.splitB_all a2 hg.2 0 _ a1 rfl) (by have:=Lib.countB_le a2 hg.2 a1.size a1 (Nat.le_refl _);omega) hw⟩
def strings_Cut.post (w0:World) (r:(ByteArray×ByteArray×Bool)) (v:Value) (w:World):Prop:=v=tuple #[string r.1,string r.2.1,bool r.2.2]∧St w0 [] w
theorem strings_Cut.calls {N:Nat} {a1 a2:ByteArray} {w0:World} {r:(ByteArray×ByteArray×Bool)} (hmax:CellI w0 0) (H:strings_Cut.f N a1 a2=some r):
 Calls Tryz.prog 42 #[.string a1, .string a2] w0 fun e w=>∃ v,e= .returned v∧strings_Cut.post w0 r v w:=by
 obtain ⟨hg,H⟩:=ite_get H
 obtain rfl:=QsJ H
 obtain ⟨m,hm⟩:=hmax
 exact (Tryz.strings_Cut a1 a2 m w0 hg hm).mono fun e w ⟨he,n,hw⟩=>⟨_,he,rfl,St.of_drew hw⟩
def Qb1.post (w0:World) (r:(Int×Bool)) (v:Value) (w:World):Prop:=∃ u1:Value,v=tuple #[int .i64 r.1,u1]∧ErrIs u1 r.2∧St w0 [] w
theorem Qb1.calls {N:Nat} {a1:ByteArray} {a2 a3:Int} {w0:World} {r:(Int×Bool)} (hsyn:CellE w0 2) (hrng:CellE w0 3) (H:Qb1.f N a1 a2 a3=some r):
 Calls Tryz.prog 82 #[.string a1, .int .i64 a2, .int .i64 a3] w0 fun e w=>∃ v,e= .returned v∧Qb1.post w0 r v w:=by
 obtain ⟨⟨hg,e2,e3⟩,H2⟩:=ite_get H
 subst e2 e3
 obtain rfl:=QsJ H2
 unfold Qb1.post parsed
 have h9:a1.size≤9223372036854775806:=by omega
 cases hp:Lib.parseIntB 64 a1.data.toList with
 |ok v=>exact (Tryz.strconv_ParseInt_10_at64_ok a1 h9 _ hp w0).mono fun e w ⟨he,hw⟩=>⟨_,he,_,rfl, .inl ⟨rfl,rfl⟩,St.of_bytes hw⟩
 |range=>
  obtain ⟨ev,h1,h2⟩:=hrng
  exact (Tryz.strconv_ParseInt_10_at64_range a1 hg hp ev w0 h1 h2).mono fun e w ⟨n,he,_,_,hb⟩=>⟨_,he,_,rfl, .inr ⟨rfl,_,_,rfl⟩,St.of_below hb⟩
 |_=>
  obtain ⟨ev,h1,h2⟩:=hsyn
  exact (Tryz.Qcs a1 hg (by rw [hp];intro v g;cases g) (by rw [hp];intro g;cases g) ev w0 h1 h2).mono fun e w ⟨n,he,_,_,hb⟩=>⟨_,he,_,rfl, .inr ⟨rfl,_,_,rfl⟩,St.of_below hb⟩
def Qb4.post (w0:World) (r:(Int×Bool)) (v:Value) (w:World):Prop:=v=tuple #[int .i64 r.1,bool r.2]∧St w0 [] w
theorem Qb4.calls {N : Nat} {a1 : ByteArray} {a2 : Int} {w0 : World} {r : (Int × Bool)} (htab : Lib.TabIs Tryz.prog w0 "internal/strconv.uint64pow10" .u64 Lib.pow10Tab) (hsyn : CellE w0 2) (hrng : CellE w0 3) (H : Qb4.f N a1 a2 = some r) :
 Calls Tryz.prog 43 #[string a1,int .i64 a2] w0 fun e w=>∃ v,e= .returned v∧Qb4.post w0 r v w:=by
 unfold Qb4.f at H
 have hs:St w0 [] w0:=St.refl w0
 refine calls_of_g (n:=26) Tryz.func43 rfl rfl ?_
 show G _ _ _ _ [_,_,_,_,_,_,_,_,_,_,_,_,_,_,_,_,_,_,_,_,_,_,_,_,_,_,_,_] _
 refine Qaf (Qak [0,1] rfl ?_)
 refine Qaa (v:=int .i64 0) rfl rfl rfl ?_
 refine Qaa (v:=bool false) rfl rfl rfl (Qab (Qaf (Qak [0,1,2,3,4,5,6] rfl ?_)))
 refine Qaa (v:=string a1) rfl rfl rfl ?_
 obtain ⟨r3,Hr3,H⟩:=bind_get H
 refine Qas (args:=[string a1,int .i64 10,int .i64 64]) rfl rfl (Qat rfl (callFunc_enter Tryz.func82 rfl rfl) rfl) (Qb1.calls (a1:=a1) (a2:=10) (a3:=64) (hs.cellE hsyn) (hs.cellE hrng) Hr3) ?_
 rintro _ w ⟨v4,rfl,hEv4,hs2⟩
 have hs:St _ [] _:=hs.call hs2
 show G _ _ _ _ [_,_,_,_,_,_,_,_,_,_,_,_,_,_,_,_,_,_,_,_,_,_,_,_,_,_,_,_] _
 refine Qaa (v:=tuple #[int .i64 r3.1,v4]) rfl rfl rfl ?_
 refine Qaa (v:=int .i64 r3.1) rfl rfl rfl ?_
 refine Qaa (v:=v4) rfl rfl rfl ?_
 refine Qaa (v:=int .i64 r3.1) rfl rfl rfl ?_
 refine Qaa (v:=v4) rfl rfl rfl (Qab (Qaf (Qaf (Qak [0,1,2,3,4,5,6,7,8,9,10,11,12,13] rfl ?_))))
 refine Qaa (v:=v4) rfl rfl rfl ?_
 refine QaA (B:=r3.2) rfl rfl (Qda rfl (by kernel_rfl) rfl hEv4) ?_ ?_
 ·
  intro hb
  rw [if_pos (b_var_t hb)] at H
  refine Qaa (v:=bool true) rfl rfl rfl (Qad rfl rfl (Qad rfl rfl (Qad rfl rfl (Qad rfl rfl ?_))))
  show G _ _ _ _ [_,_,_,_,_,_,_,_,_,_,_,_,_,_,_,_,_,_,_,_,_,_,_,_,_,_,_,_] _
  refine Qaa (v:=bool true) rfl rfl rfl ?_
  refine Qaa (v:=bool true) rfl rfl rfl (Qad rfl rfl (Qad rfl rfl (Qad rfl rfl (Qad rfl rfl ?_))))
  show G _ _ _ _ [_,_,_,_,_,_,_,_,_,_,_,_,_,_,_,_,_,_,_,_,_,_,_,_,_,_,_,_] _
  refine Qaa (v:=bool true) rfl rfl rfl (Qab (Qam rfl (Qaf (Qak [0,1] rfl ?_))))
  refine Qaa (v:=int .i64 0) rfl rfl rfl ?_
  refine Qaa (v:=bool false) rfl rfl rfl ?_
  show G _ _ _ _ [_,_,_,_,_,_,_,_,_,_,_,_,_,_,_,_,_,_,_,_,_,_,_,_,_,_,_,_] _
  refine Qab ?_
  obtain rfl:=QsJ H
  refine Qax Tryz.func43 (v:=tuple #[int .i64 0,bool false]) (resN (l:=Tryz.f43.results.toList) (vs:=[int .i64 0,bool false]) rfl ⟨rfl,rfl,trivial⟩ (by simp)) ?_
  have hs:St _ [] _:=St.take (Γ':=[]) hs
  exact ⟨_,rfl,rfl,hs⟩
 intro hb
 rw [if_neg (b_var_f hb)] at H
 show G _ _ _ _ [_,_,_,_,_,_,_,_,_,_,_,_,_,_,_,_,_,_,_,_,_,_,_,_,_,_,_,_] _
 refine Qaa (v:=bool false) rfl rfl rfl ?_
 refine Qaa (v:=int .i64 r3.1) rfl rfl rfl ?_
 obtain ⟨r5,Hr5,H⟩:=bind_get H
 refine Qas (args:=[int .i64 r3.1]) rfl rfl (Qat rfl (callFunc_enter Tryz.func46 rfl rfl) rfl) (QbC.calls (a1:=r3.1) (hs.tab htab) Hr5) ?_
 rintro _ w ⟨rfl,hs2⟩
 have hs:St _ [] _:=hs.call hs2
 refine Qaa (v:=string a1) rfl rfl rfl ?_
 refine Qaa (v:=bool (!(r5.toList==a1.toList))) rfl rfl rfl ?_
 refine QaA (B:=!(r5.toList==a1.toList)) rfl rfl rfl ?_ ?_
 ·
  intro hb
  rw [if_neg (b_nbeq_t hb)] at H
  refine Qaa (v:=bool true) rfl rfl rfl (Qad rfl rfl (Qad rfl rfl (Qad rfl rfl (Qad rfl rfl ?_))))
  show G _ _ _ _ [_,_,_,_,_,_,_,_,_,_,_,_,_,_,_,_,_,_,_,_,_,_,_,_,_,_,_,_] _
  refine Qaa (v:=bool true) rfl rfl rfl (Qab (Qam rfl (Qaf (Qak [0,1] rfl ?_))))
  refine Qaa (v:=int .i64 0) rfl rfl rfl ?_
  refine Qaa (v:=bool false) rfl rfl rfl ?_
  show G _ _ _ _ [_,_,_,_,_,_,_,_,_,_,_,_,_,_,_,_,_,_,_,_,_,_,_,_,_,_,_,_] _
  refine Qab ?_
  obtain rfl:=QsJ H
  refine Qax Tryz.func43 (v:=tuple #[int .i64 0,bool false]) (resN (l:=Tryz.f43.results.toList) (vs:=[int .i64 0,bool false]) rfl ⟨rfl,rfl,trivial⟩ (by simp)) ?_
  have hs:St _ [] _:=St.take (Γ':=[]) hs
  exact ⟨_,rfl,rfl,hs⟩
 intro hb
 rw [if_pos (b_nbeq_f hb)] at H
 show G _ _ _ _ [_,_,_,_,_,_,_,_,_,_,_,_,_,_,_,_,_,_,_,_,_,_,_,_,_,_,_,_] _
 refine Qaa (v:=bool false) rfl rfl rfl ?_
 refine Qaa (v:=int .i64 r3.1) rfl rfl rfl ?_
 refine Qaa (v:=int .i64 a2) rfl rfl rfl ?_
 obtain ⟨r6,Hr6,H⟩:=bind_get H
 refine Qas (args:=[int .i64 r3.1,int .i64 0,int .i64 a2]) rfl rfl (Qat rfl (callFunc_enter Tryz.func35 rfl rfl) rfl) (Qbg.calls (a1:=r3.1) (a2:=0) (a3:=a2) Hr6) ?_
 rintro _ w ⟨rfl,hs2⟩
 have hs:St _ [] _:=hs.call hs2
 cases r6 with
 |true=>
  rw [if_pos rfl] at H
  show G _ _ _ _ [_,_,_,_,_,_,_,_,_,_,_,_,_,_,_,_,_,_,_,_,_,_,_,_,_,_,_,_] _
  refine Qaa (v:=bool false) rfl rfl rfl ?_
  refine Qaa (v:=bool false) rfl rfl rfl (Qab (Qap rfl (QaE (Qaf (Qak [0,1,2] rfl ?_)))))
  refine Qaa (v:=int .i64 r3.1) rfl rfl rfl ?_
  refine Qaa (v:=int .i64 r3.1) rfl rfl rfl ?_
  show G _ _ _ _ [_,_,_,_,_,_,_,_,_,_,_,_,_,_,_,_,_,_,_,_,_,_,_,_,_,_,_,_] _
  refine Qaa (v:=bool true) rfl rfl rfl (Qab ?_)
  obtain rfl:=QsJ H
  refine Qax Tryz.func43 (v:=tuple #[int .i64 r3.1,bool true]) (resN (l:=Tryz.f43.results.toList) (vs:=[int .i64 r3.1,bool true]) rfl ⟨rfl,rfl,trivial⟩ (by simp)) ?_
  have hs:St _ [] _:=St.take (Γ':=[]) hs
  exact ⟨_,rfl,rfl,hs⟩
 |false=>
  rw [if_neg Bool.false_ne_true] at H
  refine Qaa (v:=bool true) rfl rfl rfl ?_
  refine Qaa (v:=bool true) rfl rfl rfl ?_
  show G _ _ _ _ [_,_,_,_,_,_,_,_,_,_,_,_,_,_,_,_,_,_,_,_,_,_,_,_,_,_,_,_] _
  refine Qab (Qam rfl (Qaf (Qak [0,1] rfl ?_)))
  refine Qaa (v:=int .i64 0) rfl rfl rfl ?_
  refine Qaa (v:=bool false) rfl rfl rfl (Qab ?_)
  obtain rfl:=QsJ H
  refine Qax Tryz.func43 (v:=tuple #[int .i64 0,bool false]) (resN (l:=Tryz.f43.results.toList) (vs:=[int .i64 0,bool false]) rfl ⟨rfl,rfl,trivial⟩ (by simp)) ?_
  have hs:St _ [] _:=St.take (Γ':=[]) hs
  exact ⟨_,rfl,rfl,hs⟩
def strings_IndexByte.post (w0:World) (r:Int) (v:Value) (w:World):Prop:=v=int .i64 r∧St w0 [] w
theorem strings_IndexByte.calls {N:Nat} {a1:ByteArray} {a2:Int} {w0:World} {r:Int} (H:strings_IndexByte.f N a1 a2=some r):
 Calls Tryz.prog 83 #[.string a1, .int .u8 a2] w0 fun e w=>∃ v,e= .returned v∧strings_IndexByte.post w0 r v w:=by
 obtain rfl:=QsJ H
 exact (Tryz.strings_IndexByte a1 a2 w0).mono fun e w ⟨he,hw⟩=>⟨_,he,rfl,by rw [hw];exact St.refl _⟩
def Qbm.post (w0:World) (r:Int) (v:Value) (w:World):Prop:=v=int .u64 r∧St w0 [] w
theorem Qbm.calls {N:Nat} {a1:ByteArray} {w0:World} {r:Int} (H:Qbm.f N a1=some r):
 Calls Tryz.prog 44 #[string a1] w0 fun e w=>∃ v,e= .returned v∧Qbm.post w0 r v w:=by
 unfold Qbm.f at H
 have hs:St w0 [] w0:=St.refl w0
 refine calls_of_g (n:=20) Tryz.func44 rfl rfl ?_
 show G _ _ _ _ [_,_,_,_,_,_,_,_,_,_,_,_,_,_,_,_,_,_,_,_,_] _
 refine Qaf (Qak [0] rfl ?_)
 refine Qaa (v:=int .u64 0) rfl rfl rfl ?_
 show G _ _ _ _ [_,_,_,_,_,_,_,_,_,_,_,_,_,_,_,_,_,_,_,_,_] _
 refine Qab (Qaf (Qak [0] rfl ?_))
 refine Qaa (v:=int .u64 0) rfl rfl rfl (Qab (Qaf (Qaf (Qak [0,1,2] rfl ?_))))
 refine Qaa (v:=string a1) rfl rfl rfl ?_
 refine Qaa (v:=int .i64 (a1.size:Int)) rfl rfl (QcY rfl rfl rfl) ?_
 show G _ _ _ _ [_,_,_,_,_,_,_,_,_,_,_,_,_,_,_,_,_,_,_,_,_] _
 refine Qaa (v:=int .i64 0) rfl rfl rfl (Qab ?_)
 obtain ⟨o1_,Ho,Hr1_⟩:=bind_get H
 refine QaF (J:=fun t w=>∃ x5:Int,Qbm.a0 N x5=some r∧Fr t (fun O=>([O 0,O 1,O 2,int .u64 x5,O 4,O 5,O 6,O 7,O 8,O 9,O 10,O 11,O 12,O 13,O 14,O 15,O 16,O 17,O 18,O 19,O 20]:List Value))∧St w0 [] w) ?_ ?_
 ·
  rintro t w ⟨x5,H,hf,hs⟩
  obtain ⟨O,rfl⟩:=hf.open
  show G _ _ _ _ [_,_,_,_,_,_,_,_,_,_,_,_,_,_,_,_,_,_,_,_,_] _
  unfold Qbm.a0 at H
  refine Qaf (Qak [0,1] rfl ?_)
  refine Qaa (v:=int .u64 x5) rfl rfl rfl ?_
  show G _ _ _ _ [_,_,_,_,_,_,_,_,_,_,_,_,_,_,_,_,_,_,_,_,_] _
  refine Qaa (v:=int .u64 x5) rfl rfl rfl (Qab ?_)
  obtain rfl:=QsJ H
  refine Qax Tryz.func44 (v:=int .u64 x5) (res1 rfl rfl) ?_
  have hs:St _ [] _:=St.take (Γ':=[]) hs
  exact ⟨_,rfl,rfl,hs⟩
 intro ha1_
 have hs:St _ [] _:=St.take (Γ':=[]) hs
 refine QaZ (I:=fun n_ t w=>∃ x2:Int,∃ x3:Int,rounds (fun s=>Qbm.b0 N a1 s.1 s.2) n_ (x2,x3)=some o1_∧Fr t (fun O=>([string a1,O 1,O 2,int .u64 x2,O 4,O 5,int .i64 (a1.size:Int),int .i64 x3,O 8,O 9,O 10,O 11,O 12,O 13,O 14,O 15,O 16,O 17,O 18,O 19,O 20]:List Value))∧St w0 [] w) N ⟨0,0,Ho,rfl,hs⟩ ?_ ?_
 ·
  rintro _ _ ⟨x2,x3,h,_⟩
  exact rounds_zero h
 intro n_ ih1_
 rintro t w ⟨x2,x3,Ho,hf,hs⟩
 obtain ⟨O,rfl⟩:=hf.open
 show G _ _ _ _ [_,_,_,_,_,_,_,_,_,_,_,_,_,_,_,_,_,_,_,_,_] _
 obtain ⟨x2_,H,Hx1_⟩:=rounds_succ Ho
 have H:Qbm.b0 N a1 x2 x3=some x2_:=H
 unfold Qbm.b0 at H
 refine Qaf (Qak [0] rfl ?_)
 refine QaA (B:=decide (x3< (a1.size:Int))) rfl rfl rfl ?_ ?_
 ·
  intro hb
  rw [if_pos (b_dec_t hb)] at H
  show G _ _ _ _ [_,_,_,_,_,_,_,_,_,_,_,_,_,_,_,_,_,_,_,_,_] _
  refine Qab (Qaf (Qam rfl (QaE (Qaf ?_))))
  refine Qbz (Qaf (Qak [0,1] rfl ?_))
  refine Qaa (v:=int .i64 x3) rfl rfl rfl ?_
  refine Qaa (v:=int .i64 x3) rfl rfl rfl (Qab (Qak [0,1,2,3,4,5,6,7,8,9] rfl ?_))
  refine Qaa (v:=int .u64 x2) rfl rfl rfl ?_
  show G _ _ _ _ [_,_,_,_,_,_,_,_,_,_,_,_,_,_,_,_,_,_,_,_,_] _
  refine Qaa (v:=int .u64 (shlI .u64 x2 4)) rfl rfl rfl ?_
  refine Qaa (v:=string a1) rfl rfl rfl ?_
  refine Qaa (v:=int .i64 x3) rfl rfl rfl ?_
  show G _ _ _ _ [_,_,_,_,_,_,_,_,_,_,_,_,_,_,_,_,_,_,_,_,_] _
  obtain ⟨g1,H⟩:=ite_get H
  refine Qaa (v:=int .u8 (btS a1 x3)) rfl rfl (Qcz rfl rfl rfl rfl g1.1 g1.2) ?_
  obtain ⟨r4,Hr4,H⟩:=bind_get H
  refine Qas (args:=[string (⟨#[48,49,50,51,52,53,54,55,56,57,97,98,99,100,101,102]⟩:ByteArray),int .u8 (btS a1 x3)]) rfl rfl (Qat rfl (callFunc_enter Tryz.func83 rfl rfl) rfl) (strings_IndexByte.calls (a1:=(⟨#[48,49,50,51,52,53,54,55,56,57,97,98,99,100,101,102]⟩:ByteArray)) (a2:=btS a1 x3) Hr4) ?_
  rintro _ w ⟨rfl,hs2⟩
  have hs:St _ [] _:=hs.call hs2
  refine Qaa (v:=int .i64 (mxI r4 0)) rfl rfl (Qc6 rfl rfl rfl) ?_
  show G _ _ _ _ [_,_,_,_,_,_,_,_,_,_,_,_,_,_,_,_,_,_,_,_,_] _
  refine Qaa (v:=int .u64 (u64w (mxI r4 0))) rfl rfl rfl ?_
  refine Qaa (v:=int .u64 (bOr .u64 (shlI .u64 x2 4) (u64w (mxI r4 0)))) rfl rfl rfl ?_
  refine Qaa (v:=int .u64 (bOr .u64 (shlI .u64 x2 4) (u64w (mxI r4 0)))) rfl rfl rfl ?_
  show G _ _ _ _ [_,_,_,_,_,_,_,_,_,_,_,_,_,_,_,_,_,_,_,_,_] _
  refine Qab ?_
  refine QaH (Qak [0,1] rfl ?_)
  refine Qaa (v:=int .i64 (i64w (x3+1))) rfl rfl rfl ?_
  refine Qaa (v:=int .i64 (i64w (x3+1))) rfl rfl rfl (Qab ?_)
  obtain rfl:=QsJ H
  have hs:St _ [] _:=St.take (Γ':=[]) hs
  exact ih1_ _ _ ⟨bOr .u64 (shlI .u64 x2 4) (u64w (mxI r4 0)),i64w (x3+1),Hx1_,rfl,hs⟩
 intro hb
 rw [if_neg (b_dec_f hb)] at H
 refine Qab (Qaf (Qap rfl ?_))
 obtain rfl:=QsJ H
 subst Hx1_
 have hs:St _ [] _:=St.take (Γ':=[]) hs
 refine Qbq rfl ?_
 exact ha1_ _ _ ⟨x2,Hr1_,rfl,hs⟩
end Go.Proofs.YtdnipilfcjkfoaaGreatDoorX
