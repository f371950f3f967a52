import Derived.Test.YtljkpeeabpdalaaDoorP7
namespace Go.Proofs.YtljkpeeabpdalaaDoorX
open Go Go.RowKit Go.Proofs
open Go.Value (int pointer bool agg slice string tuple)
set_option maxHeartbeats 8000000
set_option maxRecDepth 100000
set_option linter.unusedVariables false
set_option linter.unusedSimpArgs false
def Qae.post (w0:World) (r:((List Int)×ByteArray)) (v:Value) (w:World):Prop:=∃ u1:Value,v=tuple #[u1,string r.2]∧St w0 [Row 5 (K.int .u8) u1 r.1] w
theorem Qae.calls {N:Nat} {a1:Int} {w0:World} {r:((List Int)×ByteArray)} (hdbr:CellU w0 5 15 4) (H:Qae.f N a1=some r):
 Calls Tryd.prog 63 #[(slice none 0 0),int .u64 a1,int .i64 16,bool false,bool false] w0 fun e w=>∃ v,e= .returned v∧Qae.post w0 r v w:=by
 unfold Qae.f at H
 have hs:St w0 [] w0:=St.refl w0
 refine calls_of_g (n:=97) Tryd.func63 rfl rfl ?_
 show G _ _ _ _ (_::_::_::_::_::_::_::_::_::_::_::_::_::_::_::_::_::_::_::_::_::_::_::_::_::_::_::_::_::_::_::_::_::_::_::_::_::_::_::_::_::_::_::_::_::_::_::_::_::_::_::_::_::_::_::_::_::_::_::_::_::_::_::_::_::_::_::_::_::_::_::_::_::_::_::_::_::_::_::_::_::_::_::_::_::_::_::_::_::_::_::_::_::_::_::_::_::_::_::_::_::_::[]) _
 refine Qad (Qaj [0,1] rfl ?_)
 refine Qaa (v:=slice none 0 0) rfl rfl rfl (g_d rfl ?_)
 try dsimp only [Qam,Qan]
 refine Qaa (v:=string (⟨#[]⟩:ByteArray)) rfl rfl rfl (g_d rfl (Qab (Qad (Qad (Qaj [0,1,2,3,4,5,6,7,8,9] rfl ?_)))))
 refine Qaa (v:=int .i64 16) rfl rfl rfl (g_d rfl ?_)
 refine Qaa (v:=bool false) rfl rfl rfl (g_d rfl ?_)
 try dsimp only [Qam,Qan]
 refine Qaa (v:=bool false) rfl rfl rfl (g_d rfl ?_)
 refine Qaa (v:=int .i64 16) rfl rfl rfl (g_d rfl ?_)
 refine Qaa (v:=bool false) rfl rfl rfl (g_d rfl ?_)
 refine Qaa (v:=bool false) rfl rfl rfl (g_d rfl ?_)
 try dsimp only [Qam,Qan]
 refine Qaa (v:=bool false) rfl rfl rfl (g_d rfl ?_)
 refine Qaa (v:=int .i64 16) rfl rfl rfl (g_d rfl ?_)
 refine Qaa (v:=bool false) rfl rfl rfl (g_d rfl ?_)
 refine Qaa (v:=bool false) rfl rfl rfl (g_d rfl ?_)
 try dsimp only [Qam,Qan]
 refine Qab (Qag rfl (Qay (Qad (Qaj [0] rfl ?_))))
 refine Qbe hs rfl rfl (z:=(agg #[int .u8 0,int .u8 0,int .u8 0,int .u8 0,int .u8 0,int .u8 0,int .u8 0,int .u8 0,int .u8 0,int .u8 0,int .u8 0,int .u8 0,int .u8 0,int .u8 0,int .u8 0,int .u8 0,int .u8 0,int .u8 0,int .u8 0,int .u8 0,int .u8 0,int .u8 0,int .u8 0,int .u8 0,int .u8 0,int .u8 0,int .u8 0,int .u8 0,int .u8 0,int .u8 0,int .u8 0,int .u8 0,int .u8 0,int .u8 0,int .u8 0,int .u8 0,int .u8 0,int .u8 0,int .u8 0,int .u8 0,int .u8 0,int .u8 0,int .u8 0,int .u8 0,int .u8 0,int .u8 0,int .u8 0,int .u8 0,int .u8 0,int .u8 0,int .u8 0,int .u8 0,int .u8 0,int .u8 0,int .u8 0,int .u8 0,int .u8 0,int .u8 0,int .u8 0,int .u8 0,int .u8 0,int .u8 0,int .u8 0,int .u8 0,int .u8 0])) (cs:=((encA (encI .u8)) (Ar.rep 65 0))) rfl (fun _=>rfl) rfl ?_
 intro b2 w hs
 refine g_d rfl (Qab (Qad (Qaj [0] rfl ?_)))
 refine Qaa (v:=int .i64 65) rfl rfl rfl (g_d rfl ?_)
 try dsimp only [Qam,Qan]
 refine Qab (Qad (Qad (Qaj [0] rfl ?_)))
 refine Qaa (v:=bool false) rfl rfl rfl (g_d rfl (Qab (Qag rfl (Qay (Qad (Qad ?_))))))
 refine Qbx (J:=(fun t w=>∃ x22:(Ar Int 65),∃ x23:Int,Qae.j0 N x22 x23=some r∧Fr t (fun O=>(slice none 0 0::O 1::O 2::bool false::bool false::O 5::O 6::O 7::O 8::O 9::slice none 0 0::string (⟨#[]⟩:ByteArray)::pointer (some ⟨b2,0,none⟩)::int .i64 x23::O 14::O 15::O 16::O 17::O 18::O 19::oT O 2 (oT O 3 (oT O 4 (oT O 5 (oT O 6 (oT O 7 (oT O 8 (oT O 9 (O 100::O 101::[])))))))):List Value))∧St w0 [Cells b2 ((encA (encI .u8)) x22) 114] w)) ?_ ?_
 ·
  rintro t w ⟨x22,x23,H,hf,hs⟩
  obtain ⟨O,rfl⟩:=hf.open
  try dsimp only [oT]
  unfold Qae.j0 at H
  refine Qad (Qad (Qaj [0] rfl ?_))
  refine Qaa (v:=bool false) rfl rfl rfl (g_d rfl (Qab (Qag rfl (Qay (Qad (Qad (Qaj [0] rfl ?_)))))))
  refine Qaa (v:=bool false) rfl rfl rfl (g_d rfl (Qab (Qag rfl (Qay (Qad (Qaj [0,1,2,3] rfl ?_))))))
  refine Qaa (v:=int .i64 x23) rfl rfl rfl (g_d rfl ?_)
  obtain ⟨g19,H⟩:=ite_get H
  refine Qaa (v:=subV (slice (some ⟨b2,0,none⟩) 65 65) 1 (x23).toNat ((65:Nat):Int).toNat) rfl rfl (QbO rfl rfl (fun _=>rfl) rfl rfl g19.1 g19.2) (g_d rfl ?_)
  refine Qaa (v:=string (bsOf ((x22.l.drop (x23).toNat).take (((65:Nat):Int).toNat - (x23).toNat)))) rfl rfl (Qbt rfl rfl rfl rfl rfl (rdSub (rdBox (fkI .u8) (hs.cells 0 rfl)) 1 rfl g19.1 g19.2 (by rw [Ar.h];exact Int.le_refl _))) (g_d rfl ?_)
  refine Qaa (v:=string (bsOf ((x22.l.drop (x23).toNat).take (((65:Nat):Int).toNat - (x23).toNat)))) rfl rfl rfl (g_d rfl ?_)
  try dsimp only [Qam,Qan]
  refine Qab ?_
  obtain rfl:=QsJ H
  refine Qax Tryd.func63 (v:=tuple #[slice none 0 0,string (bsOf ((x22.l.drop (x23).toNat).take (((65:Nat):Int).toNat - (x23).toNat)))]) (resN (l:=Tryd.f63.results.toList) (vs:=[slice none 0 0,string (bsOf ((x22.l.drop (x23).toNat).take (((65:Nat):Int).toNat - (x23).toNat)))]) rfl ⟨rfl,rfl,trivial⟩ (by simp)) ?_
  have hs:=hs.nil 5 (K.int .u8)
  have hs:=hs.pull 0 rfl
  have hs:St _ [_] _:=St.take (Γ':=[_]) hs
  exact ⟨_,rfl,(slice none 0 0),rfl,hs⟩
 intro ha
 refine Qaj [0,1] rfl ?_
 refine Qaa (v:=int .i64 16) rfl rfl rfl (g_d rfl ?_)
 obtain ⟨r4,Hr4,H⟩:=bind_get H
 refine Qaz (args:=[int .i64 16]) rfl rfl (Qaw rfl (callFunc_enter Tryd.func78 rfl rfl) rfl) (QaR.calls (a1:=16) Hr4) ?_
 rintro _ w ⟨rfl,hs2⟩
 have hs:St _ [_] _:=hs.call hs2
 cases r4 with
 |true=>
  rw [if_pos rfl] at H
  refine g_d rfl ?_
  try dsimp only [Qam,Qan]
  refine Qab (Qap rfl (Qad (Qaj [0,1,2,3,4] rfl ?_)))
  refine Qaa (v:=int .i64 16) rfl rfl rfl (g_d rfl ?_)
  refine Qaa (v:=int .u64 (u64w 16)) rfl rfl rfl (g_d rfl ?_)
  obtain ⟨r5,Hr5,H⟩:=bind_get H
  refine Qaz (args:=[int .u64 (u64w 16)]) rfl rfl (Qaw rfl (callFunc_enter Tryd.func79 rfl rfl) rfl) (QaU.calls (a1:=u64w 16) (hs.cellU hdbr) Hr5) ?_
  rintro _ w ⟨rfl,hs2⟩
  have hs:St _ [_] _:=hs.call hs2
  refine g_d rfl ?_
  refine Qaa (v:=int .u64 (u64w r5)) rfl rfl rfl (g_d rfl ?_)
  refine Qaa (v:=int .u64 (u64w r5)) rfl rfl rfl (g_d rfl ?_)
  try dsimp only [Qam,Qan]
  refine Qab (Qad (Qaj [0,1,2] rfl ?_))
  refine Qaa (v:=int .i64 16) rfl rfl rfl (g_d rfl ?_)
  refine Qaa (v:=int .u64 (u64w 16)) rfl rfl rfl (g_d rfl ?_)
  refine Qaa (v:=int .u64 (u64w 16)) rfl rfl rfl (g_d rfl (Qab (Qad (Qaj [0,1,2,3] rfl ?_))))
  refine Qaa (v:=int .i64 16) rfl rfl rfl (g_d rfl ?_)
  refine Qaa (v:=int .u64 (u64w 16)) rfl rfl rfl (g_d rfl ?_)
  refine Qaa (v:=int .u64 (u64w ((u64w 16) - 1))) rfl rfl rfl (g_d rfl ?_)
  try dsimp only [Qam,Qan]
  refine Qaa (v:=int .u64 (u64w ((u64w 16) - 1))) rfl rfl rfl (g_d rfl (Qab (Qad ?_)))
  obtain ⟨o1_,Ho,Hr1_⟩:=bind_get H
  refine QaT (J:=fun t w=>∃ x11:Int,∃ x12:(Ar Int 65),∃ x13:Int,Qae.a1 N x11 x12 x13=some r∧Fr t (fun O=>(slice none 0 0::int .u64 x11::O 2::bool false::bool false::O 5::O 6::O 7::O 8::O 9::slice none 0 0::string (⟨#[]⟩:ByteArray)::pointer (some ⟨b2,0,none⟩)::int .i64 x13::O 14::O 15::O 16::O 17::O 18::O 19::oT O 2 (oT O 3 (oT O 4 (oT O 5 (oT O 6 (oT O 7 (oT O 8 (oT O 9 (O 100::O 101::[])))))))):List Value))∧St w0 [Cells b2 ((encA (encI .u8)) x12) 114] w) ?_ ?_
  ·
   rintro t w ⟨x11,x12,x13,H,hf,hs⟩
   obtain ⟨O,rfl⟩:=hf.open
   try dsimp only [oT]
   unfold Qae.a1 at H
   refine Qad (Qaj [0,1,2] rfl ?_)
   refine Qaa (v:=int .i64 x13) rfl rfl rfl (g_d rfl ?_)
   refine Qaa (v:=int .i64 (i64w (x13 - 1))) rfl rfl rfl (g_d rfl ?_)
   refine Qaa (v:=int .i64 (i64w (x13 - 1))) rfl rfl rfl (g_d rfl ?_)
   try dsimp only [Qam,Qan]
   refine Qab (Qaj [0,1,2,3,4] rfl ?_)
   refine Qaa (v:=int .i64 (i64w (x13 - 1))) rfl rfl rfl (g_d rfl ?_)
   refine Qaa (v:=int .u64 x11) rfl rfl rfl (g_d rfl ?_)
   obtain ⟨g7,H⟩:=ite_get H
   refine Qaa (v:=int .u8 (btS (⟨#[48,49,50,51,52,53,54,55,56,57,97,98,99,100,101,102,103,104,105,106,107,108,109,110,111,112,113,114,115,116,117,118,119,120,121,122]⟩:ByteArray) x11)) rfl rfl (Qbm rfl rfl rfl rfl g7.1 g7.2) (g_d rfl ?_)
   obtain ⟨g8,H⟩:=ite_get H
   refine QbA (n:=i64w (x13 - 1)) (m:=1) rfl (fun _=>rfl) g8.1 g8.2 rfl rfl rfl rfl rfl (g_d rfl ?_)
   try dsimp only [Qam,Qan]
   refine Qbs (y:=btS (⟨#[48,49,50,51,52,53,54,55,56,57,97,98,99,100,101,102,103,104,105,106,107,108,109,110,111,112,113,114,115,116,117,118,119,120,121,122]⟩:ByteArray) x11) (fkI .u8).len (fkI .u8).one g8.1 g8.2 hs rfl rfl rfl rfl rfl (fun _=>rfl) ?_
   intro w hs
   refine g_n rfl (Qab ?_)
   have hs:=hs.pull 0 rfl
   have hs:St _ [_] _:=St.take (Γ':=[]) hs
   exact ha _ _ ⟨x12.set (i64w (x13 - 1)) (btS (⟨#[48,49,50,51,52,53,54,55,56,57,97,98,99,100,101,102,103,104,105,106,107,108,109,110,111,112,113,114,115,116,117,118,119,120,121,122]⟩:ByteArray) x11),i64w (x13 - 1),H,rfl,hs⟩
  intro ha1_
  have hs:=hs.pull 0 rfl
  have hs:St _ [_] _:=St.take (Γ':=[]) hs
  refine Qa2 (I:=fun n_ t w=>∃ x8:Int,∃ x9:(Ar Int 65),∃ x10:Int,rounds (fun s=>Qae.b1 N r5 s.1 s.2.1 s.2.2) n_ (x8,x9,x10)=some o1_∧Fr t (fun O=>(slice none 0 0::int .u64 x8::O 2::bool false::bool false::O 5::O 6::O 7::O 8::O 9::slice none 0 0::string (⟨#[]⟩:ByteArray)::pointer (some ⟨b2,0,none⟩)::int .i64 x10::int .u64 (u64w r5)::int .u64 (u64w 16)::int .u64 (u64w ((u64w 16) - 1))::O 17::O 18::O 19::oT O 2 (oT O 3 (oT O 4 (oT O 5 (oT O 6 (oT O 7 (oT O 8 (oT O 9 (O 100::O 101::[])))))))):List Value))∧St w0 [Cells b2 ((encA (encI .u8)) x9) 114] w) N ⟨a1,(Ar.rep 65 0),65,Ho,rfl,hs⟩ ?_ ?_
  ·
   rintro _ _ ⟨x8,x9,x10,h,_⟩
   exact rounds_zero h
  intro n_ ih1_
  rintro t w ⟨x8,x9,x10,Ho,hf,hs⟩
  obtain ⟨O,rfl⟩:=hf.open
  try dsimp only [oT]
  obtain ⟨x9_,H,Hx1_⟩:=rounds_succ Ho
  have H:Qae.b1 N r5 x8 x9 x10=some x9_:=H
  unfold Qae.b1 at H
  refine Qad (Qad (Qaj [0,1,2] rfl ?_))
  refine Qaa (v:=int .u64 x8) rfl rfl rfl (g_d rfl ?_)
  refine Qaa (v:=int .u64 (u64w 16)) rfl rfl rfl (g_d rfl ?_)
  refine Qau (B:=decide (x8≥(u64w 16))) rfl rfl rfl ?_ ?_
  ·
   intro hb
   rw [if_pos (b_dec_t hb)] at H
   refine g_d rfl (Qab (Qap rfl (Qay ?_)))
   refine Qbd (Qad (Qaj [0,1,2] rfl ?_))
   refine Qaa (v:=int .i64 x10) rfl rfl rfl (g_d rfl ?_)
   refine Qaa (v:=int .i64 (i64w (x10 - 1))) rfl rfl rfl (g_d rfl ?_)
   try dsimp only [Qam,Qan]
   refine Qaa (v:=int .i64 (i64w (x10 - 1))) rfl rfl rfl (g_d rfl (Qab (Qad (Qaj [0,1,2,3,4,5,6] rfl ?_))))
   refine Qaa (v:=int .i64 (i64w (x10 - 1))) rfl rfl rfl (g_d rfl ?_)
   refine Qaa (v:=int .u64 x8) rfl rfl rfl (g_d rfl ?_)
   refine Qaa (v:=int .u64 (u64w ((u64w 16) - 1))) rfl rfl rfl (g_d rfl ?_)
   refine Qaa (v:=int .u64 (bAnd .u64 x8 (u64w ((u64w 16) - 1)))) rfl rfl rfl (g_d rfl ?_)
   try dsimp only [Qam,Qan]
   obtain ⟨g4,H⟩:=ite_get H
   refine Qaa (v:=int .u8 (btS (⟨#[48,49,50,51,52,53,54,55,56,57,97,98,99,100,101,102,103,104,105,106,107,108,109,110,111,112,113,114,115,116,117,118,119,120,121,122]⟩:ByteArray) (bAnd .u64 x8 (u64w ((u64w 16) - 1))))) rfl rfl (Qbm rfl rfl rfl rfl g4.1 g4.2) (g_d rfl ?_)
   obtain ⟨g5,H⟩:=ite_get H
   refine QbA (n:=i64w (x10 - 1)) (m:=1) rfl (fun _=>rfl) g5.1 g5.2 rfl rfl rfl rfl rfl (g_d rfl ?_)
   try dsimp only [Qam,Qan]
   refine Qbs (y:=btS (⟨#[48,49,50,51,52,53,54,55,56,57,97,98,99,100,101,102,103,104,105,106,107,108,109,110,111,112,113,114,115,116,117,118,119,120,121,122]⟩:ByteArray) (bAnd .u64 x8 (u64w ((u64w 16) - 1)))) (fkI .u8).len (fkI .u8).one g5.1 g5.2 hs rfl rfl rfl rfl rfl (fun _=>rfl) ?_
   intro w hs
   refine g_n rfl (Qab (Qaj [0,1,2,3] rfl ?_))
   refine Qaa (v:=int .u64 x8) rfl rfl rfl (g_d rfl ?_)
   refine Qaa (v:=int .u64 (u64w r5)) rfl rfl rfl (g_d rfl ?_)
   obtain ⟨g6,H⟩:=ite_get H
   refine Qaa (v:=int .u64 (shrI .u64 x8 (u64w r5))) rfl rfl (QbM rfl rfl rfl g6) (g_d rfl ?_)
   refine Qaa (v:=int .u64 (shrI .u64 x8 (u64w r5))) rfl rfl rfl (g_d rfl ?_)
   try dsimp only [Qam,Qan]
   refine Qab ?_
   refine QaB ?_
   obtain rfl:=QsJ H
   have hs:=hs.pull 0 rfl
   have hs:St _ [_] _:=St.take (Γ':=[]) hs
   exact ih1_ _ _ ⟨shrI .u64 x8 (u64w r5),x9.set (i64w (x10 - 1)) (btS (⟨#[48,49,50,51,52,53,54,55,56,57,97,98,99,100,101,102,103,104,105,106,107,108,109,110,111,112,113,114,115,116,117,118,119,120,121,122]⟩:ByteArray) (bAnd .u64 x8 (u64w ((u64w 16) - 1)))),i64w (x10 - 1),Hx1_,rfl,hs⟩
  intro hb
  rw [if_neg (b_dec_f hb)] at H
  refine g_d rfl ?_
  try dsimp only [Qam,Qan]
  refine Qab (Qag rfl ?_)
  obtain rfl:=QsJ H
  subst Hx1_
  have hs:=hs.pull 0 rfl
  have hs:St _ [_] _:=St.take (Γ':=[]) hs
  refine Qbh rfl ?_
  exact ha1_ _ _ ⟨x8,x9,x10,Hr1_,rfl,hs⟩
 |false=>
  rw [if_neg Bool.false_ne_true] at H
  refine g_d rfl (Qab (Qag rfl (Qad (Qaj [0,1,2] rfl ?_))))
  refine Qaa (v:=int .i64 16) rfl rfl rfl (g_d rfl ?_)
  refine Qaa (v:=int .u64 (u64w 16)) rfl rfl rfl (g_d rfl ?_)
  refine Qaa (v:=int .u64 (u64w 16)) rfl rfl rfl (g_d rfl ?_)
  try dsimp only [Qam,Qan]
  refine Qab (Qad ?_)
  obtain ⟨o1_,Ho,Hr1_⟩:=bind_get H
  refine QaT (J:=fun t w=>∃ x19:Int,∃ x20:(Ar Int 65),∃ x21:Int,Qae.a3 N x19 x20 x21=some r∧Fr t (fun O=>(slice none 0 0::int .u64 x19::O 2::bool false::bool false::O 5::O 6::O 7::O 8::O 9::slice none 0 0::string (⟨#[]⟩:ByteArray)::pointer (some ⟨b2,0,none⟩)::int .i64 x21::O 14::O 15::O 16::O 17::O 18::O 19::oT O 2 (oT O 3 (oT O 4 (oT O 5 (oT O 6 (oT O 7 (oT O 8 (oT O 9 (O 100::O 101::[])))))))):List Value))∧St w0 [Cells b2 ((encA (encI .u8)) x20) 114] w) ?_ ?_
  ·
   rintro t w ⟨x19,x20,x21,H,hf,hs⟩
   obtain ⟨O,rfl⟩:=hf.open
   try dsimp only [oT]
   unfold Qae.a3 at H
   refine Qad (Qaj [0,1,2] rfl ?_)
   refine Qaa (v:=int .i64 x21) rfl rfl rfl (g_d rfl ?_)
   refine Qaa (v:=int .i64 (i64w (x21 - 1))) rfl rfl rfl (g_d rfl ?_)
   try dsimp only [Qam,Qan]
   refine Qaa (v:=int .i64 (i64w (x21 - 1))) rfl rfl rfl (g_d rfl (Qab (Qaj [0,1,2,3,4] rfl ?_)))
   refine Qaa (v:=int .i64 (i64w (x21 - 1))) rfl rfl rfl (g_d rfl ?_)
   refine Qaa (v:=int .u64 x19) rfl rfl rfl (g_d rfl ?_)
   obtain ⟨g16,H⟩:=ite_get H
   refine Qaa (v:=int .u8 (btS (⟨#[48,49,50,51,52,53,54,55,56,57,97,98,99,100,101,102,103,104,105,106,107,108,109,110,111,112,113,114,115,116,117,118,119,120,121,122]⟩:ByteArray) x19)) rfl rfl (Qbm rfl rfl rfl rfl g16.1 g16.2) (g_d rfl ?_)
   try dsimp only [Qam,Qan]
   obtain ⟨g17,H⟩:=ite_get H
   refine QbA (n:=i64w (x21 - 1)) (m:=1) rfl (fun _=>rfl) g17.1 g17.2 rfl rfl rfl rfl rfl (g_d rfl ?_)
   refine Qbs (y:=btS (⟨#[48,49,50,51,52,53,54,55,56,57,97,98,99,100,101,102,103,104,105,106,107,108,109,110,111,112,113,114,115,116,117,118,119,120,121,122]⟩:ByteArray) x19) (fkI .u8).len (fkI .u8).one g17.1 g17.2 hs rfl rfl rfl rfl rfl (fun _=>rfl) ?_
   intro w hs
   refine g_n rfl (Qab ?_)
   have hs:=hs.pull 0 rfl
   have hs:St _ [_] _:=St.take (Γ':=[]) hs
   exact ha _ _ ⟨x20.set (i64w (x21 - 1)) (btS (⟨#[48,49,50,51,52,53,54,55,56,57,97,98,99,100,101,102,103,104,105,106,107,108,109,110,111,112,113,114,115,116,117,118,119,120,121,122]⟩:ByteArray) x19),i64w (x21 - 1),H,rfl,hs⟩
  intro ha1_
  have hs:=hs.pull 0 rfl
  have hs:St _ [_] _:=St.take (Γ':=[]) hs
  refine Qa2 (I:=fun n_ t w=>∃ x16:Int,∃ x17:(Ar Int 65),∃ x18:Int,rounds (fun s=>Qae.b3 N s.1 s.2.1 s.2.2) n_ (x16,x17,x18)=some o1_∧Fr t (fun O=>(slice none 0 0::int .u64 x16::O 2::bool false::bool false::O 5::O 6::O 7::O 8::O 9::slice none 0 0::string (⟨#[]⟩:ByteArray)::pointer (some ⟨b2,0,none⟩)::int .i64 x18::O 14::O 15::O 16::int .u64 (u64w 16)::O 18::O 19::oT O 2 (oT O 3 (oT O 4 (oT O 5 (oT O 6 (oT O 7 (oT O 8 (oT O 9 (O 100::O 101::[])))))))):List Value))∧St w0 [Cells b2 ((encA (encI .u8)) x17) 114] w) N ⟨a1,(Ar.rep 65 0),65,Ho,rfl,hs⟩ ?_ ?_
  ·
   rintro _ _ ⟨x16,x17,x18,h,_⟩
   exact rounds_zero h
  intro n_ ih1_
  rintro t w ⟨x16,x17,x18,Ho,hf,hs⟩
  obtain ⟨O,rfl⟩:=hf.open
  try dsimp only [oT]
  obtain ⟨x18_,H,Hx1_⟩:=rounds_succ Ho
  have H:Qae.b3 N x16 x17 x18=some x18_:=H
  unfold Qae.b3 at H
  refine Qad (Qad (Qaj [0,1,2] rfl ?_))
  refine Qaa (v:=int .u64 x16) rfl rfl rfl (g_d rfl ?_)
  refine Qaa (v:=int .u64 (u64w 16)) rfl rfl rfl (g_d rfl ?_)
  refine Qau (B:=decide (x16≥(u64w 16))) rfl rfl rfl ?_ ?_
  ·
   intro hb
   rw [if_pos (b_dec_t hb)] at H
   refine g_d rfl ?_
   try dsimp only [Qam,Qan]
   refine Qab (Qap rfl (Qay ?_))
   refine Qbd (Qad (Qaj [0,1,2] rfl ?_))
   refine Qaa (v:=int .i64 x18) rfl rfl rfl (g_d rfl ?_)
   refine Qaa (v:=int .i64 (i64w (x18 - 1))) rfl rfl rfl (g_d rfl ?_)
   refine Qaa (v:=int .i64 (i64w (x18 - 1))) rfl rfl rfl (g_d rfl ?_)
   try dsimp only [Qam,Qan]
   refine Qab (Qad (Qaj [0,1,2,3] rfl ?_))
   refine Qaa (v:=int .u64 x16) rfl rfl rfl (g_d rfl ?_)
   refine Qaa (v:=int .u64 (u64w 16)) rfl rfl rfl (g_d rfl ?_)
   obtain ⟨g13,H⟩:=ite_get H
   refine Qaa (v:=int .u64 (u64w (x16.tdiv (u64w 16)))) rfl rfl (QbI rfl rfl rfl g13) (g_d rfl ?_)
   refine Qaa (v:=int .u64 (u64w (x16.tdiv (u64w 16)))) rfl rfl rfl (g_d rfl ?_)
   try dsimp only [Qam,Qan]
   refine Qab (Qad (Qaj [0,1,2,3,4,5,6,7,8] rfl ?_))
   refine Qaa (v:=int .i64 (i64w (x18 - 1))) rfl rfl rfl (g_d rfl ?_)
   refine Qaa (v:=int .u64 x16) rfl rfl rfl (g_d rfl ?_)
   refine Qaa (v:=int .u64 (u64w (x16.tdiv (u64w 16)))) rfl rfl rfl (g_d rfl ?_)
   refine Qaa (v:=int .u64 (u64w 16)) rfl rfl rfl (g_d rfl ?_)
   refine Qaa (v:=int .u64 (u64w ((u64w (x16.tdiv (u64w 16)))*(u64w 16)))) rfl rfl rfl (g_d rfl ?_)
   refine Qaa (v:=int .u64 (u64w (x16 - (u64w ((u64w (x16.tdiv (u64w 16)))*(u64w 16)))))) rfl rfl rfl (g_d rfl ?_)
   try dsimp only [Qam,Qan]
   obtain ⟨g14,H⟩:=ite_get H
   refine Qaa (v:=int .u8 (btS (⟨#[48,49,50,51,52,53,54,55,56,57,97,98,99,100,101,102,103,104,105,106,107,108,109,110,111,112,113,114,115,116,117,118,119,120,121,122]⟩:ByteArray) (u64w (x16 - (u64w ((u64w (x16.tdiv (u64w 16)))*(u64w 16))))))) rfl rfl (Qbm rfl rfl rfl rfl g14.1 g14.2) (g_d rfl ?_)
   obtain ⟨g15,H⟩:=ite_get H
   refine QbA (n:=i64w (x18 - 1)) (m:=1) rfl (fun _=>rfl) g15.1 g15.2 rfl rfl rfl rfl rfl (g_d rfl ?_)
   try dsimp only [Qam,Qan]
   refine Qbs (y:=btS (⟨#[48,49,50,51,52,53,54,55,56,57,97,98,99,100,101,102,103,104,105,106,107,108,109,110,111,112,113,114,115,116,117,118,119,120,121,122]⟩:ByteArray) (u64w (x16 - (u64w ((u64w (x16.tdiv (u64w 16)))*(u64w 16)))))) (fkI .u8).len (fkI .u8).one g15.1 g15.2 hs rfl rfl rfl rfl rfl (fun _=>rfl) ?_
   intro w hs
   refine g_n rfl (Qab (Qaj [0,1] rfl ?_))
   refine Qaa (v:=int .u64 (u64w (x16.tdiv (u64w 16)))) rfl rfl rfl (g_d rfl ?_)
   refine Qaa (v:=int .u64 (u64w (x16.tdiv (u64w 16)))) rfl rfl rfl (g_d rfl (Qab ?_))
   refine QaB ?_
   obtain rfl:=QsJ H
   have hs:=hs.pull 0 rfl
   have hs:St _ [_] _:=St.take (Γ':=[]) hs
   exact ih1_ _ _ ⟨u64w (x16.tdiv (u64w 16)),x17.set (i64w (x18 - 1)) (btS (⟨#[48,49,50,51,52,53,54,55,56,57,97,98,99,100,101,102,103,104,105,106,107,108,109,110,111,112,113,114,115,116,117,118,119,120,121,122]⟩:ByteArray) (u64w (x16 - (u64w ((u64w (x16.tdiv (u64w 16)))*(u64w 16)))))),i64w (x18 - 1),Hx1_,rfl,hs⟩
  intro hb
  rw [if_neg (b_dec_f hb)] at H
  refine g_d rfl (Qab (Qag rfl ?_))
  obtain rfl:=QsJ H
  subst Hx1_
  have hs:=hs.pull 0 rfl
  have hs:St _ [_] _:=St.take (Γ':=[]) hs
  refine Qbh rfl ?_
  exact ha1_ _ _ ⟨x16,x17,x18,Hr1_,rfl,hs⟩
def istrconv_FormatUint_at_c16.post (w0:World) (r:ByteArray) (v:Value) (w:World):Prop:=v=string r∧St w0 [] w
theorem istrconv_FormatUint_at_c16.calls {N:Nat} {a1:Int} {w0:World} {r:ByteArray} (hdbr:CellU w0 5 15 4) (H:istrconv_FormatUint_at_c16.f N a1=some r):
 Calls Tryd.prog 45 #[int .u64 a1,int .i64 16] w0 fun e w=>∃ v,e= .returned v∧istrconv_FormatUint_at_c16.post w0 r v w:=by
 unfold istrconv_FormatUint_at_c16.f at H
 have hs:St w0 [] w0:=St.refl w0
 refine calls_of_g (n:=30) Tryd.func45 rfl rfl ?_
 show G _ _ _ _ [_,_,_,_,_,_,_,_,_,_,_,_,_,_,_,_,_,_,_,_,_,_,_,_,_,_,_,_,_,_,_,_] _
 refine Qad (Qaj [0] rfl ?_)
 refine Qaa (v:=string (⟨#[]⟩:ByteArray)) rfl rfl rfl ?_
 show G _ _ _ _ [_,_,_,_,_,_,_,_,_,_,_,_,_,_,_,_,_,_,_,_,_,_,_,_,_,_,_,_,_,_,_,_] _
 refine Qab (Qad (Qad (Qaj [0,1] rfl ?_)))
 refine Qaa (v:=int .i64 16) rfl rfl rfl ?_
 refine Qaa (v:=bool false) rfl rfl rfl (Qab (Qag rfl (Qay (Qad (Qaj [0,1,2,3,4,5,6,7] rfl ?_)))))
 refine Qaa (v:=int .u64 a1) rfl rfl rfl ?_
 refine Qaa (v:=int .i64 16) rfl rfl rfl ?_
 obtain ⟨r2,Hr2,H⟩:=bind_get H
 refine Qaz (args:=[slice none 0 0,int .u64 a1,int .i64 16,bool false,bool false]) rfl rfl (Qaw rfl (callFunc_enter Tryd.func63 rfl rfl) rfl) (Qae.calls (a1:=a1) (hs.cellU hdbr) Hr2) ?_
 rintro _ w ⟨v3,rfl,hs2⟩
 have hs:St _ [_] _:=hs.call hs2
 refine Qaa (v:=tuple #[v3,string r2.2]) rfl rfl rfl ?_
 refine Qaa (v:=v3) rfl rfl rfl ?_
 refine Qaa (v:=string r2.2) rfl rfl rfl ?_
 refine Qaa (v:=v3) rfl rfl rfl ?_
 show G _ _ _ _ [_,_,_,_,_,_,_,_,_,_,_,_,_,_,_,_,_,_,_,_,_,_,_,_,_,_,_,_,_,_,_,_] _
 refine Qaa (v:=string r2.2) rfl rfl rfl (Qab (Qad (Qaj [0,1] rfl ?_)))
 refine Qaa (v:=string r2.2) rfl rfl rfl ?_
 refine Qaa (v:=string r2.2) rfl rfl rfl (Qab ?_)
 obtain rfl:=QsJ H
 refine Qax Tryd.func45 (v:=string r2.2) (res1 rfl rfl) ?_
 have hs:St _ [] _:=St.take (Γ':=[_]) hs
 exact ⟨_,rfl,rfl,hs⟩
def QaJ.post (w0:World) (r:ByteArray) (v:Value) (w:World):Prop:=v=string r∧St w0 [] w
theorem QaJ.calls {N:Nat} {a1:Int} {w0:World} {r:ByteArray} (hdbr:CellU w0 5 15 4) (H:QaJ.f N a1=some r):
 Calls Tryd.prog 21 #[int .u64 a1,int .i64 16] w0 fun e w=>∃ v,e= .returned v∧QaJ.post w0 r v w:=by
 unfold QaJ.f at H
 have hs:St w0 [] w0:=St.refl w0
 refine calls_of_g (n:=6) Tryd.func21 rfl rfl ?_
 show G _ _ _ _ [_,_,_,_,_,_,_,_] _
 refine Qad (Qaj [0] rfl ?_)
 refine Qaa (v:=string (⟨#[]⟩:ByteArray)) rfl rfl rfl (Qab (Qad (Qaj [0,1,2,3] rfl ?_)))
 refine Qaa (v:=int .u64 a1) rfl rfl rfl ?_
 show G _ _ _ _ [_,_,_,_,_,_,_,_] _
 refine Qaa (v:=int .i64 16) rfl rfl rfl ?_
 obtain ⟨r2,Hr2,H⟩:=bind_get H
 refine Qaz (args:=[int .u64 a1,int .i64 16]) rfl rfl (Qaw rfl (callFunc_enter Tryd.func45 rfl rfl) rfl) (istrconv_FormatUint_at_c16.calls (a1:=a1) (hs.cellU hdbr) Hr2) ?_
 rintro _ w ⟨rfl,hs2⟩
 have hs:St _ [] _:=hs.call hs2
 refine Qaa (v:=string r2) rfl rfl rfl ?_
 show G _ _ _ _ [_,_,_,_,_,_,_,_] _
 refine Qab ?_
 obtain rfl:=QsJ H
 refine Qax Tryd.func21 (v:=string r2) (res1 rfl rfl) ?_
 have hs:St _ [] _:=St.take (Γ':=[]) hs
 exact ⟨_,rfl,rfl,hs⟩
def bits_Mul64.post (w0:World) (r:(Int×Int)) (v:Value) (w:World):Prop:=v=tuple #[int .u64 r.1,int .u64 r.2]∧St w0 [] w
theorem bits_Mul64.calls {N:Nat} {a1:Int} {a2:Int} {w0:World} {r:(Int×Int)} (H:bits_Mul64.f N a1 a2=some r):
 Calls Tryd.prog 65 #[int .u64 a1,int .u64 a2] w0 fun e w=>∃ v,e= .returned v∧bits_Mul64.post w0 r v w:=by
 unfold bits_Mul64.f at H
 have hs:St w0 [] w0:=St.refl w0
 refine calls_of_g (n:=49) Tryd.func65 rfl rfl ?_
 show G _ _ _ _ [_,_,_,_,_,_,_,_,_,_,_,_,_,_,_,_,_,_,_,_,_,_,_,_,_,_,_,_,_,_,_,_,_,_,_,_,_,_,_,_,_,_,_,_,_,_,_,_,_,_,_] _
 refine Qad (Qaj [0,1] rfl ?_)
 refine Qaa (v:=int .u64 0) rfl rfl rfl ?_
 show G _ _ _ _ [_,_,_,_,_,_,_,_,_,_,_,_,_,_,_,_,_,_,_,_,_,_,_,_,_,_,_,_,_,_,_,_,_,_,_,_,_,_,_,_,_,_,_,_,_,_,_,_,_,_,_] _
 refine Qaa (v:=int .u64 0) rfl rfl rfl (Qab (Qad (Qaj [0,1,2] rfl ?_)))
 refine Qaa (v:=int .u64 a1) rfl rfl rfl ?_
 refine Qaa (v:=int .u64 (bAnd .u64 a1 4294967295)) rfl rfl rfl ?_
 refine Qaa (v:=int .u64 (bAnd .u64 a1 4294967295)) rfl rfl rfl ?_
 show G _ _ _ _ [_,_,_,_,_,_,_,_,_,_,_,_,_,_,_,_,_,_,_,_,_,_,_,_,_,_,_,_,_,_,_,_,_,_,_,_,_,_,_,_,_,_,_,_,_,_,_,_,_,_,_] _
 refine Qab (Qad (Qaj [0,1,2] rfl ?_))
 refine Qaa (v:=int .u64 a1) rfl rfl rfl ?_
 refine Qaa (v:=int .u64 (shrI .u64 a1 32)) rfl rfl rfl ?_
 refine Qaa (v:=int .u64 (shrI .u64 a1 32)) rfl rfl rfl (Qab (Qad (Qaj [0,1,2] rfl ?_)))
 refine Qaa (v:=int .u64 a2) rfl rfl rfl ?_
 refine Qaa (v:=int .u64 (bAnd .u64 a2 4294967295)) rfl rfl rfl ?_
 show G _ _ _ _ [_,_,_,_,_,_,_,_,_,_,_,_,_,_,_,_,_,_,_,_,_,_,_,_,_,_,_,_,_,_,_,_,_,_,_,_,_,_,_,_,_,_,_,_,_,_,_,_,_,_,_] _
 refine Qaa (v:=int .u64 (bAnd .u64 a2 4294967295)) rfl rfl rfl (Qab (Qad (Qaj [0,1,2] rfl ?_)))
 refine Qaa (v:=int .u64 a2) rfl rfl rfl ?_
 refine Qaa (v:=int .u64 (shrI .u64 a2 32)) rfl rfl rfl ?_
 refine Qaa (v:=int .u64 (shrI .u64 a2 32)) rfl rfl rfl ?_
 show G _ _ _ _ [_,_,_,_,_,_,_,_,_,_,_,_,_,_,_,_,_,_,_,_,_,_,_,_,_,_,_,_,_,_,_,_,_,_,_,_,_,_,_,_,_,_,_,_,_,_,_,_,_,_,_] _
 refine Qab (Qad (Qaj [0,1,2,3] rfl ?_))
 refine Qaa (v:=int .u64 (bAnd .u64 a1 4294967295)) rfl rfl rfl ?_
 refine Qaa (v:=int .u64 (bAnd .u64 a2 4294967295)) rfl rfl rfl ?_
 refine Qaa (v:=int .u64 (u64w ((bAnd .u64 a1 4294967295)*(bAnd .u64 a2 4294967295)))) rfl rfl rfl ?_
 refine Qaa (v:=int .u64 (u64w ((bAnd .u64 a1 4294967295)*(bAnd .u64 a2 4294967295)))) rfl rfl rfl (Qab (Qad (Qaj [0,1,2,3,4,5,6] rfl ?_)))
 refine Qaa (v:=int .u64 (shrI .u64 a1 32)) rfl rfl rfl ?_
 refine Qaa (v:=int .u64 (bAnd .u64 a2 4294967295)) rfl rfl rfl ?_
 refine Qaa (v:=int .u64 (u64w ((shrI .u64 a1 32)*(bAnd .u64 a2 4294967295)))) rfl rfl rfl ?_
 show G _ _ _ _ [_,_,_,_,_,_,_,_,_,_,_,_,_,_,_,_,_,_,_,_,_,_,_,_,_,_,_,_,_,_,_,_,_,_,_,_,_,_,_,_,_,_,_,_,_,_,_,_,_,_,_] _
 refine Qaa (v:=int .u64 (u64w ((bAnd .u64 a1 4294967295)*(bAnd .u64 a2 4294967295)))) rfl rfl rfl ?_
 refine Qaa (v:=int .u64 (shrI .u64 (u64w ((bAnd .u64 a1 4294967295)*(bAnd .u64 a2 4294967295))) 32)) rfl rfl rfl ?_
 refine Qaa (v:=int .u64 (u64w ((u64w ((shrI .u64 a1 32)*(bAnd .u64 a2 4294967295)))+(shrI .u64 (u64w ((bAnd .u64 a1 4294967295)*(bAnd .u64 a2 4294967295))) 32)))) rfl rfl rfl ?_
 refine Qaa (v:=int .u64 (u64w ((u64w ((shrI .u64 a1 32)*(bAnd .u64 a2 4294967295)))+(shrI .u64 (u64w ((bAnd .u64 a1 4294967295)*(bAnd .u64 a2 4294967295))) 32)))) rfl rfl rfl ?_
 show G _ _ _ _ [_,_,_,_,_,_,_,_,_,_,_,_,_,_,_,_,_,_,_,_,_,_,_,_,_,_,_,_,_,_,_,_,_,_,_,_,_,_,_,_,_,_,_,_,_,_,_,_,_,_,_] _
 refine Qab (Qad (Qaj [0,1,2] rfl ?_))
 refine Qaa (v:=int .u64 (u64w ((u64w ((shrI .u64 a1 32)*(bAnd .u64 a2 4294967295)))+(shrI .u64 (u64w ((bAnd .u64 a1 4294967295)*(bAnd .u64 a2 4294967295))) 32)))) rfl rfl rfl ?_
 refine Qaa (v:=int .u64 (bAnd .u64 (u64w ((u64w ((shrI .u64 a1 32)*(bAnd .u64 a2 4294967295)))+(shrI .u64 (u64w ((bAnd .u64 a1 4294967295)*(bAnd .u64 a2 4294967295))) 32))) 4294967295)) rfl rfl rfl ?_
 refine Qaa (v:=int .u64 (bAnd .u64 (u64w ((u64w ((shrI .u64 a1 32)*(bAnd .u64 a2 4294967295)))+(shrI .u64 (u64w ((bAnd .u64 a1 4294967295)*(bAnd .u64 a2 4294967295))) 32))) 4294967295)) rfl rfl rfl (Qab (Qad (Qaj [0,1,2] rfl ?_)))
 refine Qaa (v:=int .u64 (u64w ((u64w ((shrI .u64 a1 32)*(bAnd .u64 a2 4294967295)))+(shrI .u64 (u64w ((bAnd .u64 a1 4294967295)*(bAnd .u64 a2 4294967295))) 32)))) rfl rfl rfl ?_
 refine Qaa (v:=int .u64 (shrI .u64 (u64w ((u64w ((shrI .u64 a1 32)*(bAnd .u64 a2 4294967295)))+(shrI .u64 (u64w ((bAnd .u64 a1 4294967295)*(bAnd .u64 a2 4294967295))) 32))) 32)) rfl rfl rfl ?_
 show G _ _ _ _ [_,_,_,_,_,_,_,_,_,_,_,_,_,_,_,_,_,_,_,_,_,_,_,_,_,_,_,_,_,_,_,_,_,_,_,_,_,_,_,_,_,_,_,_,_,_,_,_,_,_,_] _
 refine Qaa (v:=int .u64 (shrI .u64 (u64w ((u64w ((shrI .u64 a1 32)*(bAnd .u64 a2 4294967295)))+(shrI .u64 (u64w ((bAnd .u64 a1 4294967295)*(bAnd .u64 a2 4294967295))) 32))) 32)) rfl rfl rfl (Qab (Qad (Qaj [0,1,2,3,4,5] rfl ?_)))
 refine Qaa (v:=int .u64 (bAnd .u64 (u64w ((u64w ((shrI .u64 a1 32)*(bAnd .u64 a2 4294967295)))+(shrI .u64 (u64w ((bAnd .u64 a1 4294967295)*(bAnd .u64 a2 4294967295))) 32))) 4294967295)) rfl rfl rfl ?_
 refine Qaa (v:=int .u64 (bAnd .u64 a1 4294967295)) rfl rfl rfl ?_
 refine Qaa (v:=int .u64 (shrI .u64 a2 32)) rfl rfl rfl ?_
 refine Qaa (v:=int .u64 (u64w ((bAnd .u64 a1 4294967295)*(shrI .u64 a2 32)))) rfl rfl rfl ?_
 refine Qaa (v:=int .u64 (u64w ((bAnd .u64 (u64w ((u64w ((shrI .u64 a1 32)*(bAnd .u64 a2 4294967295)))+(shrI .u64 (u64w ((bAnd .u64 a1 4294967295)*(bAnd .u64 a2 4294967295))) 32))) 4294967295)+(u64w ((bAnd .u64 a1 4294967295)*(shrI .u64 a2 32)))))) rfl rfl rfl ?_
 show G _ _ _ _ [_,_,_,_,_,_,_,_,_,_,_,_,_,_,_,_,_,_,_,_,_,_,_,_,_,_,_,_,_,_,_,_,_,_,_,_,_,_,_,_,_,_,_,_,_,_,_,_,_,_,_] _
 refine Qaa (v:=int .u64 (u64w ((bAnd .u64 (u64w ((u64w ((shrI .u64 a1 32)*(bAnd .u64 a2 4294967295)))+(shrI .u64 (u64w ((bAnd .u64 a1 4294967295)*(bAnd .u64 a2 4294967295))) 32))) 4294967295)+(u64w ((bAnd .u64 a1 4294967295)*(shrI .u64 a2 32)))))) rfl rfl rfl (Qab (Qad (Qaj [0,1,2,3,4,5,6,7,8] rfl ?_)))
 refine Qaa (v:=int .u64 (shrI .u64 a1 32)) rfl rfl rfl ?_
 refine Qaa (v:=int .u64 (shrI .u64 a2 32)) rfl rfl rfl ?_
 refine Qaa (v:=int .u64 (u64w ((shrI .u64 a1 32)*(shrI .u64 a2 32)))) rfl rfl rfl ?_
 refine Qaa (v:=int .u64 (shrI .u64 (u64w ((u64w ((shrI .u64 a1 32)*(bAnd .u64 a2 4294967295)))+(shrI .u64 (u64w ((bAnd .u64 a1 4294967295)*(bAnd .u64 a2 4294967295))) 32))) 32)) rfl rfl rfl ?_
 refine Qaa (v:=int .u64 (u64w ((u64w ((shrI .u64 a1 32)*(shrI .u64 a2 32)))+(shrI .u64 (u64w ((u64w ((shrI .u64 a1 32)*(bAnd .u64 a2 4294967295)))+(shrI .u64 (u64w ((bAnd .u64 a1 4294967295)*(bAnd .u64 a2 4294967295))) 32))) 32)))) rfl rfl rfl ?_
 show G _ _ _ _ [_,_,_,_,_,_,_,_,_,_,_,_,_,_,_,_,_,_,_,_,_,_,_,_,_,_,_,_,_,_,_,_,_,_,_,_,_,_,_,_,_,_,_,_,_,_,_,_,_,_,_] _
 refine Qaa (v:=int .u64 (u64w ((bAnd .u64 (u64w ((u64w ((shrI .u64 a1 32)*(bAnd .u64 a2 4294967295)))+(shrI .u64 (u64w ((bAnd .u64 a1 4294967295)*(bAnd .u64 a2 4294967295))) 32))) 4294967295)+(u64w ((bAnd .u64 a1 4294967295)*(shrI .u64 a2 32)))))) rfl rfl rfl ?_
 refine Qaa (v:=int .u64 (shrI .u64 (u64w ((bAnd .u64 (u64w ((u64w ((shrI .u64 a1 32)*(bAnd .u64 a2 4294967295)))+(shrI .u64 (u64w ((bAnd .u64 a1 4294967295)*(bAnd .u64 a2 4294967295))) 32))) 4294967295)+(u64w ((bAnd .u64 a1 4294967295)*(shrI .u64 a2 32))))) 32)) rfl rfl rfl ?_
 refine Qaa (v:=int .u64 (u64w ((u64w ((u64w ((shrI .u64 a1 32)*(shrI .u64 a2 32)))+(shrI .u64 (u64w ((u64w ((shrI .u64 a1 32)*(bAnd .u64 a2 4294967295)))+(shrI .u64 (u64w ((bAnd .u64 a1 4294967295)*(bAnd .u64 a2 4294967295))) 32))) 32)))+(shrI .u64 (u64w ((bAnd .u64 (u64w ((u64w ((shrI .u64 a1 32)*(bAnd .u64 a2 4294967295)))+(shrI .u64 (u64w ((bAnd .u64 a1 4294967295)*(bAnd .u64 a2 4294967295))) 32))) 4294967295)+(u64w ((bAnd .u64 a1 4294967295)*(shrI .u64 a2 32))))) 32)))) rfl rfl rfl ?_
 refine Qaa (v:=int .u64 (u64w ((u64w ((u64w ((shrI .u64 a1 32)*(shrI .u64 a2 32)))+(shrI .u64 (u64w ((u64w ((shrI .u64 a1 32)*(bAnd .u64 a2 4294967295)))+(shrI .u64 (u64w ((bAnd .u64 a1 4294967295)*(bAnd .u64 a2 4294967295))) 32))) 32)))+(shrI .u64 (u64w ((bAnd .u64 (u64w ((u64w ((shrI .u64 a1 32)*(bAnd .u64 a2 4294967295)))+(shrI .u64 (u64w ((bAnd .u64 a1 4294967295)*(bAnd .u64 a2 4294967295))) 32))) 4294967295)+(u64w ((bAnd .u64 a1 4294967295)*(shrI .u64 a2 32))))) 32)))) rfl rfl rfl ?_
 show G _ _ _ _ [_,_,_,_,_,_,_,_,_,_,_,_,_,_,_,_,_,_,_,_,_,_,_,_,_,_,_,_,_,_,_,_,_,_,_,_,_,_,_,_,_,_,_,_,_,_,_,_,_,_,_] _
 refine Qab (Qad (Qaj [0,1,2,3] rfl ?_))
 refine Qaa (v:=int .u64 a1) rfl rfl rfl ?_
 refine Qaa (v:=int .u64 a2) rfl rfl rfl ?_
 refine Qaa (v:=int .u64 (u64w (a1*a2))) rfl rfl rfl ?_
 refine Qaa (v:=int .u64 (u64w (a1*a2))) rfl rfl rfl (Qab ?_)
 obtain rfl:=QsJ H
 refine Qax Tryd.func65 (v:=tuple #[int .u64 (u64w ((u64w ((u64w ((shrI .u64 a1 32)*(shrI .u64 a2 32)))+(shrI .u64 (u64w ((u64w ((shrI .u64 a1 32)*(bAnd .u64 a2 4294967295)))+(shrI .u64 (u64w ((bAnd .u64 a1 4294967295)*(bAnd .u64 a2 4294967295))) 32))) 32)))+(shrI .u64 (u64w ((bAnd .u64 (u64w ((u64w ((shrI .u64 a1 32)*(bAnd .u64 a2 4294967295)))+(shrI .u64 (u64w ((bAnd .u64 a1 4294967295)*(bAnd .u64 a2 4294967295))) 32))) 4294967295)+(u64w ((bAnd .u64 a1 4294967295)*(shrI .u64 a2 32))))) 32))),int .u64 (u64w (a1*a2))]) (resN (l:=Tryd.f65.results.toList) (vs:=[int .u64 (u64w ((u64w ((u64w ((shrI .u64 a1 32)*(shrI .u64 a2 32)))+(shrI .u64 (u64w ((u64w ((shrI .u64 a1 32)*(bAnd .u64 a2 4294967295)))+(shrI .u64 (u64w ((bAnd .u64 a1 4294967295)*(bAnd .u64 a2 4294967295))) 32))) 32)))+(shrI .u64 (u64w ((bAnd .u64 (u64w ((u64w ((shrI .u64 a1 32)*(bAnd .u64 a2 4294967295)))+(shrI .u64 (u64w ((bAnd .u64 a1 4294967295)*(bAnd .u64 a2 4294967295))) 32))) 4294967295)+(u64w ((bAnd .u64 a1 4294967295)*(shrI .u64 a2 32))))) 32))),int .u64 (u64w (a1*a2))]) rfl ⟨rfl,rfl,trivial⟩ (by simp)) ?_
 have hs:St _ [] _:=St.take (Γ':=[]) hs
 exact ⟨_,rfl,rfl,hs⟩
def bits_Mul.post (w0:World) (r:(Int×Int)) (v:Value) (w:World):Prop:=v=tuple #[int .u64 r.1,int .u64 r.2]∧St w0 [] w
theorem bits_Mul.calls {N:Nat} {a1:Int} {a2:Int} {w0:World} {r:(Int×Int)} (H:bits_Mul.f N a1 a2=some r):
 Calls Tryd.prog 46 #[int .u64 a1,int .u64 a2] w0 fun e w=>∃ v,e= .returned v∧bits_Mul.post w0 r v w:=by
 unfold bits_Mul.f at H
 have hs:St w0 [] w0:=St.refl w0
 refine calls_of_g (n:=28) Tryd.func46 rfl rfl ?_
 show G _ _ _ _ [_,_,_,_,_,_,_,_,_,_,_,_,_,_,_,_,_,_,_,_,_,_,_,_,_,_,_,_,_,_] _
 refine Qad (Qaj [0,1] rfl ?_)
 refine Qaa (v:=int .u64 0) rfl rfl rfl ?_
 refine Qaa (v:=int .u64 0) rfl rfl rfl (Qab (Qad (Qag rfl (Qay (Qad (Qaj [0,1,2,3,4,5,6,7] rfl ?_))))))
 refine Qaa (v:=int .u64 a1) rfl rfl rfl ?_
 refine Qaa (v:=int .u64 a2) rfl rfl rfl ?_
 obtain ⟨r3,Hr3,H⟩:=bind_get H
 refine Qaz (args:=[int .u64 a1,int .u64 a2]) rfl rfl (Qaw rfl (callFunc_enter Tryd.func65 rfl rfl) rfl) (bits_Mul64.calls (a1:=a1) (a2:=a2) Hr3) ?_
 rintro _ w ⟨rfl,hs2⟩
 have hs:St _ [] _:=hs.call hs2
 show G _ _ _ _ [_,_,_,_,_,_,_,_,_,_,_,_,_,_,_,_,_,_,_,_,_,_,_,_,_,_,_,_,_,_] _
 refine Qaa (v:=tuple #[int .u64 r3.1,int .u64 r3.2]) rfl rfl rfl ?_
 refine Qaa (v:=int .u64 r3.1) rfl rfl rfl ?_
 refine Qaa (v:=int .u64 r3.2) rfl rfl rfl ?_
 refine Qaa (v:=int .u64 r3.1) rfl rfl rfl ?_
 refine Qaa (v:=int .u64 r3.2) rfl rfl rfl (Qab (Qad (Qaj [0,1,2,3] rfl ?_)))
 refine Qaa (v:=int .u64 r3.1) rfl rfl rfl ?_
 refine Qaa (v:=int .u64 r3.2) rfl rfl rfl ?_
 refine Qaa (v:=int .u64 r3.1) rfl rfl rfl ?_
 show G _ _ _ _ [_,_,_,_,_,_,_,_,_,_,_,_,_,_,_,_,_,_,_,_,_,_,_,_,_,_,_,_,_,_] _
 refine Qaa (v:=int .u64 r3.2) rfl rfl rfl (Qab ?_)
 obtain rfl:=QsJ H
 refine Qax Tryd.func46 (v:=tuple #[int .u64 r3.1,int .u64 r3.2]) (resN (l:=Tryd.f46.results.toList) (vs:=[int .u64 r3.1,int .u64 r3.2]) rfl ⟨rfl,rfl,trivial⟩ (by simp)) ?_
 have hs:St _ [] _:=St.take (Γ':=[]) hs
 exact ⟨_,rfl,rfl,hs⟩
def stringslite_HasPrefix.post (w0:World) (r:Bool) (v:Value) (w:World):Prop:=v=bool r∧St w0 [] w
theorem stringslite_HasPrefix.calls {N:Nat} {a1:ByteArray} {a2:ByteArray} {w0:World} {r:Bool} (H:stringslite_HasPrefix.f N a1 a2=some r):
 Calls Tryd.prog 66 #[string a1,string a2] w0 fun e w=>∃ v,e= .returned v∧stringslite_HasPrefix.post w0 r v w:=by
 unfold stringslite_HasPrefix.f at H
 have hs:St w0 [] w0:=St.refl w0
 refine calls_of_g (n:=16) Tryd.func66 rfl rfl ?_
 show G _ _ _ _ [_,_,_,_,_,_,_,_,_,_,_,_,_,_,_,_,_,_] _
 refine Qad (Qaj [0] rfl ?_)
 refine Qaa (v:=bool false) rfl rfl rfl (Qab (Qad (Qaj [0,1,2,3,4,5,6,7,8,9,10,11,12,13] rfl ?_)))
 refine Qaa (v:=string a1) rfl rfl rfl ?_
 refine Qaa (v:=int .i64 (a1.size:Int)) rfl rfl (Qbk rfl rfl rfl) ?_
 show G _ _ _ _ [_,_,_,_,_,_,_,_,_,_,_,_,_,_,_,_,_,_] _
 refine Qaa (v:=string a2) rfl rfl rfl ?_
 refine Qaa (v:=int .i64 (a2.size:Int)) rfl rfl (Qbk rfl rfl rfl) ?_
 refine Qau (B:=decide ((a1.size:Int)≥(a2.size:Int))) rfl rfl rfl ?_ ?_
 ·
  intro hb
  rw [if_pos (b_dec_t hb)] at H
  refine Qaa (v:=bool true) rfl rfl rfl ?_
  refine Qaa (v:=string a1) rfl rfl rfl ?_
  show G _ _ _ _ [_,_,_,_,_,_,_,_,_,_,_,_,_,_,_,_,_,_] _
  refine Qaa (v:=string a2) rfl rfl rfl ?_
  refine Qaa (v:=int .i64 (a2.size:Int)) rfl rfl (Qbk rfl rfl rfl) ?_
  obtain ⟨g,H⟩:=ite_get H
  refine Qaa (v:=string (subS a1 0 (a2.size:Int))) rfl rfl (QaK rfl rfl rfl (.inl ⟨rfl,rfl⟩) (.inr ⟨_,_,rfl,rfl⟩) g.1 g.2.1 g.2.2) ?_
  show G _ _ _ _ [_,_,_,_,_,_,_,_,_,_,_,_,_,_,_,_,_,_] _
  refine Qaa (v:=string a2) rfl rfl rfl ?_
  refine Qaa (v:=bool ((subS a1 0 (a2.size:Int)).toList==a2.toList)) rfl rfl rfl ?_
  refine Qaa (v:=bool ((subS a1 0 (a2.size:Int)).toList==a2.toList)) rfl rfl rfl ?_
  show G _ _ _ _ [_,_,_,_,_,_,_,_,_,_,_,_,_,_,_,_,_,_] _
  refine Qaa (v:=bool ((subS a1 0 (a2.size:Int)).toList==a2.toList)) rfl rfl rfl (Qab ?_)
  obtain rfl:=QsJ H
  refine Qax Tryd.func66 (v:=bool ((subS a1 0 (a2.size:Int)).toList==a2.toList)) (res1 rfl rfl) ?_
  have hs:St _ [] _:=St.take (Γ':=[]) hs
  exact ⟨_,rfl,rfl,hs⟩
 intro hb
 rw [if_neg (b_dec_f hb)] at H
 show G _ _ _ _ [_,_,_,_,_,_,_,_,_,_,_,_,_,_,_,_,_,_] _
 refine Qaa (v:=bool false) rfl rfl rfl (Qaq rfl rfl (Qaq rfl rfl ?_))
 show G _ _ _ _ [_,_,_,_,_,_,_,_,_,_,_,_,_,_,_,_,_,_] _
 refine Qaq rfl rfl (Qaq rfl rfl (Qaq rfl rfl ?_))
 show G _ _ _ _ [_,_,_,_,_,_,_,_,_,_,_,_,_,_,_,_,_,_] _
 refine Qaq rfl rfl ?_
 refine Qaa (v:=bool false) rfl rfl rfl ?_
 refine Qaa (v:=bool false) rfl rfl rfl ?_
 show G _ _ _ _ [_,_,_,_,_,_,_,_,_,_,_,_,_,_,_,_,_,_] _
 refine Qab ?_
 obtain rfl:=QsJ H
 refine Qax Tryd.func66 (v:=bool false) (res1 rfl rfl) ?_
 have hs:St _ [] _:=St.take (Γ':=[]) hs
 exact ⟨_,rfl,rfl,hs⟩
def Qai.post (w0:World) (r:Bool) (v:Value) (w:World):Prop:=v=bool r∧St w0 [] w
theorem Qai.calls {N:Nat} {a1:ByteArray} {a2:ByteArray} {w0:World} {r:Bool} (H:Qai.f N a1 a2=some r):
 Calls Tryd.prog 47 #[string a1,string a2] w0 fun e w=>∃ v,e= .returned v∧Qai.post w0 r v w:=by
 unfold Qai.f at H
 have hs:St w0 [] w0:=St.refl w0
 refine calls_of_g (n:=6) Tryd.func47 rfl rfl ?_
 show G _ _ _ _ [_,_,_,_,_,_,_,_] _
 refine Qad (Qaj [0] rfl ?_)
 refine Qaa (v:=bool false) rfl rfl rfl (Qab (Qad (Qaj [0,1,2,3] rfl ?_)))
 refine Qaa (v:=string a1) rfl rfl rfl ?_
 show G _ _ _ _ [_,_,_,_,_,_,_,_] _
 refine Qaa (v:=string a2) rfl rfl rfl ?_
 obtain ⟨r3,Hr3,H⟩:=bind_get H
 refine Qaz (args:=[string a1,string a2]) rfl rfl (Qaw rfl (callFunc_enter Tryd.func66 rfl rfl) rfl) (stringslite_HasPrefix.calls (a1:=a1) (a2:=a2) Hr3) ?_
 rintro _ w ⟨rfl,hs2⟩
 have hs:St _ [] _:=hs.call hs2
 refine Qaa (v:=bool r3) rfl rfl rfl ?_
 show G _ _ _ _ [_,_,_,_,_,_,_,_] _
 refine Qab ?_
 obtain rfl:=QsJ H
 refine Qax Tryd.func47 (v:=bool r3) (res1 rfl rfl) ?_
 have hs:St _ [] _:=St.take (Γ':=[]) hs
 exact ⟨_,rfl,rfl,hs⟩
end Go.Proofs.YtljkpeeabpdalaaDoorX
