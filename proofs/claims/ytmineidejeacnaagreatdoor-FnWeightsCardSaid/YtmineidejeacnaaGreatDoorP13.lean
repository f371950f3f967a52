import Derived.Test.YtmineidejeacnaaGreatDoorP12
namespace Go.Proofs.YtmineidejeacnaaGreatDoorX
open Go Go.RowKit Go.Proofs
open Go.Value (int pointer bool agg slice string tuple)
set_option maxHeartbeats 8000000
set_option maxRecDepth 100000
set_option linter.unusedVariables false
set_option linter.unusedSimpArgs false
def Qbj.post (w0:World) (r:ByteArray) (v:Value) (w:World):Prop:=v=string r∧St w0 [] w
theorem Qbj.calls {N:Nat} {a1:(List Int)} {v2:Value} {w0:World} {r:ByteArray} (hr0:RdRow (K.int .i8) w0 v2 a1) (H:Qbj.f N a1=some r):
 Calls Tryz.prog 17 #[v2] w0 fun e w=>∃ v,e= .returned v∧Qbj.post w0 r v w:=by
 unfold Qbj.f at H
 have hs:St w0 [] w0:=St.refl w0
 refine calls_of_g (n:=17) Tryz.func17 rfl rfl ?_
 show G _ _ _ _ [_,_,_,_,_,_,_,_,_,_,_,_,_,_,_,_,_,_] _
 refine Qad (Qag [0] rfl ?_)
 refine Qaa (v:=string (⟨#[]⟩:ByteArray)) rfl rfl rfl (Qac (Qad (Qag [0,1,2,3,4,5,6] rfl ?_)))
 refine Qaa (v:=v2) rfl rfl rfl ?_
 show G _ _ _ _ [_,_,_,_,_,_,_,_,_,_,_,_,_,_,_,_,_,_] _
 obtain ⟨r3,Hr3,H⟩:=bind_get H
 refine Qaw (args:=[v2]) rfl rfl (Qax rfl (callFunc_enter Tryz.func48 rfl rfl) rfl) (Qa9.calls (a1:=a1) (hs.rd hr0) Hr3) ?_
 rintro _ w ⟨rfl,hs2⟩
 have hs:St _ [] _:=hs.call hs2
 refine Qaa (v:=tuple #[string r3.1,bool r3.2]) rfl rfl rfl ?_
 refine Qaa (v:=string r3.1) rfl rfl rfl ?_
 show G _ _ _ _ [_,_,_,_,_,_,_,_,_,_,_,_,_,_,_,_,_,_] _
 refine Qaa (v:=bool r3.2) rfl rfl rfl ?_
 refine Qaa (v:=string r3.1) rfl rfl rfl ?_
 refine Qaa (v:=bool r3.2) rfl rfl rfl ?_
 show G _ _ _ _ [_,_,_,_,_,_,_,_,_,_,_,_,_,_,_,_,_,_] _
 refine Qac (Qad (Qad (Qag [0,1,2,3,4,5,6] rfl ?_)))
 refine Qas (B:=r3.2) rfl rfl rfl ?_ ?_
 ·
  intro hb
  rw [if_pos (b_var_t hb)] at H
  show G _ _ _ _ [_,_,_,_,_,_,_,_,_,_,_,_,_,_,_,_,_,_] _
  refine Qaa (v:=bool false) rfl rfl rfl ?_
  refine Qaa (v:=bool false) rfl rfl rfl ?_
  refine Qaa (v:=v2) rfl rfl rfl ?_
  show G _ _ _ _ [_,_,_,_,_,_,_,_,_,_,_,_,_,_,_,_,_,_] _
  refine Qba (hs.rd hr0) rfl rfl rfl rfl rfl ?_
  refine Qas (B:=decide ((a1.length:Int)>16)) rfl rfl rfl ?_ ?_
  ·
   intro hb
   rw [if_pos (b_dec_t hb)] at H
   refine Qaa (v:=bool true) rfl rfl rfl ?_
   show G _ _ _ _ [_,_,_,_,_,_,_,_,_,_,_,_,_,_,_,_,_,_] _
   refine Qac (Qai rfl (Qad (Qag [0] rfl ?_)))
   refine Qaa (v:=string (⟨#[]⟩:ByteArray)) rfl rfl rfl (Qac ?_)
   obtain rfl:=QsJ H
   refine Qaq Tryz.func17 (v:=string (⟨#[]⟩:ByteArray)) (res1 rfl rfl) ?_
   have hs:St _ [] _:=St.take (Γ':=[]) hs
   exact ⟨_,rfl,rfl,hs⟩
  intro hb
  rw [if_neg (b_dec_f hb)] at H
  refine Qaa (v:=bool false) rfl rfl rfl ?_
  show G _ _ _ _ [_,_,_,_,_,_,_,_,_,_,_,_,_,_,_,_,_,_] _
  refine Qac (Qal rfl (Qay (Qad (Qag [0,1] rfl ?_))))
  refine Qaa (v:=string r3.1) rfl rfl rfl ?_
  refine Qaa (v:=string r3.1) rfl rfl rfl (Qac ?_)
  obtain rfl:=QsJ H
  refine Qaq Tryz.func17 (v:=string r3.1) (res1 rfl rfl) ?_
  have hs:St _ [] _:=St.take (Γ':=[]) hs
  exact ⟨_,rfl,rfl,hs⟩
 intro hb
 rw [if_neg (b_var_f hb)] at H
 refine Qaa (v:=bool true) rfl rfl rfl ?_
 refine Qaa (v:=bool true) rfl rfl rfl ?_
 show G _ _ _ _ [_,_,_,_,_,_,_,_,_,_,_,_,_,_,_,_,_,_] _
 refine Qab rfl rfl (Qab rfl rfl (Qab rfl rfl ?_))
 show G _ _ _ _ [_,_,_,_,_,_,_,_,_,_,_,_,_,_,_,_,_,_] _
 refine Qaa (v:=bool true) rfl rfl rfl (Qac (Qai rfl (Qad (Qag [0] rfl ?_))))
 refine Qaa (v:=string (⟨#[]⟩:ByteArray)) rfl rfl rfl (Qac ?_)
 obtain rfl:=QsJ H
 refine Qaq Tryz.func17 (v:=string (⟨#[]⟩:ByteArray)) (res1 rfl rfl) ?_
 have hs:St _ [] _:=St.take (Γ':=[]) hs
 exact ⟨_,rfl,rfl,hs⟩
def strings_IndexByte.post (w0:World) (r:Int) (v:Value) (w:World):Prop:=v=int .i64 r∧St w0 [] w
theorem strings_IndexByte.calls {N:Nat} {a1:ByteArray} {a2:Int} {w0:World} {r:Int} (H:strings_IndexByte.f N a1 a2=some r):
 Calls Tryz.prog 69 #[.string a1, .int .u8 a2] w0 fun e w=>∃ v,e= .returned v∧strings_IndexByte.post w0 r v w:=by
 obtain rfl:=QsJ H
 exact (Tryz.strings_IndexByte a1 a2 w0).mono fun e w ⟨he,hw⟩=>⟨_,he,rfl,by rw [hw];exact St.refl _⟩
def QaZ.post (w0:World) (r:((List Int)×Bool)) (v:Value) (w:World):Prop:=∃ u1:Value,v=tuple #[u1,bool r.2]∧St w0 [Row 49 (K.int .i8) u1 r.1] w
theorem QaZ.calls {N:Nat} {a1:ByteArray} {w0:World} {r:((List Int)×Bool)} (H:QaZ.f N a1=some r):
 Calls Tryz.prog 45 #[string a1] w0 fun e w=>∃ v,e= .returned v∧QaZ.post w0 r v w:=by
 unfold QaZ.f at H
 have hs:St w0 [] w0:=St.refl w0
 refine calls_of_g (n:=26) Tryz.func45 rfl rfl ?_
 show G _ _ _ _ [_,_,_,_,_,_,_,_,_,_,_,_,_,_,_,_,_,_,_,_,_,_,_,_,_,_,_] _
 refine Qad (Qag [0,1] rfl ?_)
 refine Qaa (v:=slice none 0 0) rfl rfl rfl ?_
 refine Qaa (v:=bool false) rfl rfl rfl ?_
 show G _ _ _ _ [_,_,_,_,_,_,_,_,_,_,_,_,_,_,_,_,_,_,_,_,_,_,_,_,_,_,_] _
 refine Qac (Qad (Qag [0,1] rfl ?_))
 refine QbJ (κ:=(K.int .i8)) hs rfl rfl rfl rfl (fun _=>rfl) ?_
 intro v2 w hs
 refine Qaa (v:=v2) rfl rfl rfl (Qac (Qad (Qad (Qag [0,1,2] rfl ?_))))
 refine Qaa (v:=string a1) rfl rfl rfl ?_
 refine Qaa (v:=int .i64 (a1.size:Int)) rfl rfl (QcD rfl rfl rfl) ?_
 show G _ _ _ _ [_,_,_,_,_,_,_,_,_,_,_,_,_,_,_,_,_,_,_,_,_,_,_,_,_,_,_] _
 refine Qaa (v:=int .i64 0) rfl rfl rfl (Qac ?_)
 obtain ⟨o1_,Ho,Hr1_⟩:=bind_get H
 refine QaC (J:=fun t w=>∃ v13:Value,∃ x14:(List Int),QaZ.a0 N x14=some r∧Fr t (fun O=>([O 0,O 1,O 2,O 3,v13,O 5,O 6,O 7,O 8,O 9,O 10,O 11,O 12,O 13,O 14,O 15,O 16,O 17,O 18,O 19,O 20,O 21,O 22,O 23,O 24,O 25,O 26]:List Value))∧St w0 [Row 49 (K.int .i8) v13 x14] w) ?_ ?_
 ·
  rintro t w ⟨v13,x14,H,hf,hs⟩
  obtain ⟨O,rfl⟩:=hf.open
  show G _ _ _ _ [_,_,_,_,_,_,_,_,_,_,_,_,_,_,_,_,_,_,_,_,_,_,_,_,_,_,_] _
  unfold QaZ.a0 at H
  refine Qad (Qag [0,1,2] rfl ?_)
  refine Qaa (v:=v13) rfl rfl rfl ?_
  refine Qaa (v:=v13) rfl rfl rfl ?_
  refine Qaa (v:=bool true) rfl rfl rfl ?_
  show G _ _ _ _ [_,_,_,_,_,_,_,_,_,_,_,_,_,_,_,_,_,_,_,_,_,_,_,_,_,_,_] _
  refine Qac ?_
  obtain rfl:=QsJ H
  refine Qaq Tryz.func45 (v:=tuple #[v13,bool true]) (resN (l:=Tryz.f45.results.toList) (vs:=[v13,bool true]) rfl ⟨rfl,rfl,trivial⟩ (by simp)) ?_
  have hs:=hs.pull 0 rfl
  have hs:St _ [_] _:=St.take (Γ':=[]) hs
  exact ⟨_,rfl,v13,rfl,hs⟩
 intro ha1_
 have hs:=hs.pull 0 rfl
 have hs:St _ [_] _:=St.take (Γ':=[]) hs
 refine QaP (I:=fun n_ t w=>∃ v5:Value,∃ x6:(List Int),∃ x7:Int,rounds (fun s=>QaZ.b0 N a1 s.1 s.2) n_ (x6,x7)=some o1_∧Fr t (fun O=>([string a1,O 1,O 2,O 3,v5,O 5,O 6,O 7,O 8,int .i64 (a1.size:Int),int .i64 x7,O 11,O 12,O 13,O 14,O 15,O 16,O 17,O 18,O 19,O 20,O 21,O 22,O 23,O 24,O 25,O 26]:List Value))∧St w0 [Row 49 (K.int .i8) v5 x6] w) N ⟨v2,([]:List Int),0,Ho,rfl,hs⟩ ?_ ?_
 ·
  rintro _ _ ⟨v5,x6,x7,h,_⟩
  exact rounds_zero h
 intro n_ ih1_
 rintro t w ⟨v5,x6,x7,Ho,hf,hs⟩
 obtain ⟨O,rfl⟩:=hf.open
 show G _ _ _ _ [_,_,_,_,_,_,_,_,_,_,_,_,_,_,_,_,_,_,_,_,_,_,_,_,_,_,_] _
 obtain ⟨x2_,H,Hx1_⟩:=rounds_succ Ho
 have H:QaZ.b0 N a1 x6 x7=some x2_:=H
 unfold QaZ.b0 at H
 refine Qad (Qag [0] rfl ?_)
 refine Qas (B:=decide (x7< (a1.size:Int))) rfl rfl rfl ?_ ?_
 ·
  intro hb
  rw [if_pos (b_dec_t hb)] at H
  refine Qac (Qad (Qai rfl (Qay (Qad ?_))))
  refine Qbe (Qad (Qag [0,1] rfl ?_))
  refine Qaa (v:=int .i64 x7) rfl rfl rfl ?_
  refine Qaa (v:=int .i64 x7) rfl rfl rfl ?_
  show G _ _ _ _ [_,_,_,_,_,_,_,_,_,_,_,_,_,_,_,_,_,_,_,_,_,_,_,_,_,_,_] _
  refine Qac (Qad (Qag [0,1,2,3,4] rfl ?_))
  refine Qaa (v:=string a1) rfl rfl rfl ?_
  refine Qaa (v:=int .i64 x7) rfl rfl rfl ?_
  obtain ⟨g1,H⟩:=ite_get H
  refine Qaa (v:=int .u8 (btS a1 x7)) rfl rfl (Qcb rfl rfl rfl rfl g1.1 g1.2) ?_
  obtain ⟨r8,Hr8,H⟩:=bind_get H
  refine Qaw (args:=[string (⟨#[45,48,43]⟩:ByteArray),int .u8 (btS a1 x7)]) rfl rfl (Qax rfl (callFunc_enter Tryz.func69 rfl rfl) rfl) (strings_IndexByte.calls (a1:=(⟨#[45,48,43]⟩:ByteArray)) (a2:=btS a1 x7) Hr8) ?_
  rintro _ w ⟨rfl,hs2⟩
  have hs:St _ [_] _:=hs.call hs2
  refine Qaa (v:=int .i64 r8) rfl rfl rfl ?_
  show G _ _ _ _ [_,_,_,_,_,_,_,_,_,_,_,_,_,_,_,_,_,_,_,_,_,_,_,_,_,_,_] _
  refine Qac (Qad (Qad (Qag [0,1] rfl ?_)))
  refine Qaa (v:=int .i64 r8) rfl rfl rfl ?_
  refine Qas (B:=decide (r8< 0)) rfl rfl rfl ?_ ?_
  ·
   intro hb
   rw [if_pos (b_dec_t hb)] at H
   refine Qac (Qai rfl (Qad (Qag [0,1] rfl ?_)))
   refine Qaa (v:=slice none 0 0) rfl rfl rfl ?_
   show G _ _ _ _ [_,_,_,_,_,_,_,_,_,_,_,_,_,_,_,_,_,_,_,_,_,_,_,_,_,_,_] _
   refine Qaa (v:=bool false) rfl rfl rfl (Qac ?_)
   obtain rfl:=QsJ H
   subst Hx1_
   have H:=QsJ Hr1_
   subst H
   refine Qaq Tryz.func45 (v:=tuple #[slice none 0 0,bool false]) (resN (l:=Tryz.f45.results.toList) (vs:=[slice none 0 0,bool false]) rfl ⟨rfl,rfl,trivial⟩ (by simp)) ?_
   have hs:=hs.nil 49 (K.int .i8)
   have hs:=hs.pull 0 rfl
   have hs:St _ [_] _:=St.take (Γ':=[_]) hs
   exact ⟨_,rfl,(slice none 0 0),rfl,hs⟩
  intro hb
  rw [if_neg (b_dec_f hb)] at H
  refine Qac (Qal rfl (Qay (Qag [0,1,2,3,4,5,6] rfl ?_)))
  refine Qaa (v:=v5) rfl rfl rfl ?_
  refine Qaa (v:=int .i64 r8) rfl rfl rfl ?_
  refine Qaa (v:=int .i64 (i64w (r8 - 1))) rfl rfl rfl ?_
  refine Qaa (v:=int .i8 (i8w (i64w (r8 - 1)))) rfl rfl rfl ?_
  show G _ _ _ _ [_,_,_,_,_,_,_,_,_,_,_,_,_,_,_,_,_,_,_,_,_,_,_,_,_,_,_] _
  refine QbL (fkI .i8) (y:=i8w (i64w (r8 - 1))) hs rfl rfl rfl rfl (fun _=>rfl) (zv:=(int .i8 0)) (fun _=>rfl) rfl (by decide) (by decide) rfl ?_
  intro v9 w hs
  have hs:St _ [_,_] _:=hs.pull 1 rfl
  obtain ⟨g,H⟩:=ite_get H
  refine QbI (fkI .i8) (zv:=(int .i8 0)) (B:=1) hs (hs.row 1 rfl) rfl rfl rfl rfl rfl rfl rfl rfl rfl (by decide) rfl rfl (by decide) (by omega) ?_
  intro v11 w hs
  refine Qaa (v:=v11) rfl rfl rfl ?_
  show G _ _ _ _ [_,_,_,_,_,_,_,_,_,_,_,_,_,_,_,_,_,_,_,_,_,_,_,_,_,_,_] _
  refine Qac ?_
  refine QaH (Qag [0,1] rfl ?_)
  refine Qaa (v:=int .i64 (i64w (x7+1))) rfl rfl rfl ?_
  refine Qaa (v:=int .i64 (i64w (x7+1))) rfl rfl rfl (Qac ?_)
  obtain rfl:=QsJ H
  have hs:=hs.pull 0 rfl
  have hs:St _ [_] _:=St.take (Γ':=[_]) hs
  exact ih1_ _ _ ⟨v11,x6++([i8w (i64w (r8 - 1))]),i64w (x7+1),Hx1_,rfl,hs⟩
 intro hb
 rw [if_neg (b_dec_f hb)] at H
 refine Qac (Qad (Qal rfl ?_))
 obtain rfl:=QsJ H
 subst Hx1_
 have hs:=hs.pull 0 rfl
 have hs:St _ [_] _:=St.take (Γ':=[]) hs
 refine Qbc rfl ?_
 exact ha1_ _ _ ⟨v5,x6,Hr1_,rfl,hs⟩
def Qbw.post (w0:World) (r:Int) (v:Value) (w:World):Prop:=v=int .i64 r∧St w0 [] w
theorem Qbw.calls {N:Nat} {a1:(List Int)} {v2:Value} {w0:World} {r:Int} (hr0:RdRow (K.int .i8) w0 v2 a1) (H:Qbw.f N a1=some r):
 Calls Tryz.prog 47 #[v2] w0 fun e w=>∃ v,e= .returned v∧Qbw.post w0 r v w:=by
 unfold Qbw.f at H
 have hs:St w0 [] w0:=St.refl w0
 refine calls_of_g (n:=4) Tryz.func47 rfl rfl ?_
 show G _ _ _ _ [_,_,_,_,_] _
 refine Qad (Qag [0] rfl ?_)
 refine Qaa (v:=int .i64 0) rfl rfl rfl (Qac (Qad (Qag [0,1,2] rfl ?_)))
 refine Qaa (v:=v2) rfl rfl rfl ?_
 refine Qba (hs.rd hr0) rfl rfl rfl rfl rfl ?_
 show G _ _ _ _ [_,_,_,_,_] _
 refine Qaa (v:=int .i64 (a1.length:Int)) rfl rfl rfl (Qac ?_)
 obtain rfl:=QsJ H
 refine Qaq Tryz.func47 (v:=int .i64 (a1.length:Int)) (res1 rfl rfl) ?_
 have hs:St _ [] _:=St.take (Γ':=[]) hs
 exact ⟨_,rfl,rfl,hs⟩
def Qbk.post (w0:World) (r:((List Int)×Int)) (v:Value) (w:World):Prop:=∃ u1:Value,v=tuple #[u1,int .i64 r.2]∧St w0 [Row 49 (K.int .i8) u1 r.1] w
theorem Qbk.calls {N:Nat} {a1:ByteArray} {w0:World} {r:((List Int)×Int)} (H:Qbk.f N a1=some r):
 Calls Tryz.prog 16 #[string a1] w0 fun e w=>∃ v,e= .returned v∧Qbk.post w0 r v w:=by
 unfold Qbk.f at H
 have hs:St w0 [] w0:=St.refl w0
 refine calls_of_g (n:=19) Tryz.func16 rfl rfl ?_
 show G _ _ _ _ [_,_,_,_,_,_,_,_,_,_,_,_,_,_,_,_,_,_,_,_] _
 refine Qad (Qag [0,1] rfl ?_)
 refine Qaa (v:=slice none 0 0) rfl rfl rfl ?_
 refine Qaa (v:=int .i64 0) rfl rfl rfl (Qac (Qad (Qag [0,1,2,3,4,5,6] rfl ?_)))
 refine Qaa (v:=string a1) rfl rfl rfl ?_
 show G _ _ _ _ [_,_,_,_,_,_,_,_,_,_,_,_,_,_,_,_,_,_,_,_] _
 obtain ⟨r2,Hr2,H⟩:=bind_get H
 refine Qaw (args:=[string a1]) rfl rfl (Qax rfl (callFunc_enter Tryz.func45 rfl rfl) rfl) (QaZ.calls (a1:=a1) Hr2) ?_
 rintro _ w ⟨v3,rfl,hs2⟩
 have hs:St _ [_] _:=hs.call hs2
 refine Qaa (v:=tuple #[v3,bool r2.2]) rfl rfl rfl ?_
 refine Qaa (v:=v3) rfl rfl rfl ?_
 show G _ _ _ _ [_,_,_,_,_,_,_,_,_,_,_,_,_,_,_,_,_,_,_,_] _
 refine Qaa (v:=bool r2.2) rfl rfl rfl ?_
 refine Qaa (v:=v3) rfl rfl rfl ?_
 refine Qaa (v:=bool r2.2) rfl rfl rfl ?_
 show G _ _ _ _ [_,_,_,_,_,_,_,_,_,_,_,_,_,_,_,_,_,_,_,_] _
 refine Qac (Qad (Qad (Qag [0,1,2,3,4,5,6,7] rfl ?_)))
 refine Qas (B:=r2.2) rfl rfl rfl ?_ ?_
 ·
  intro hb
  rw [if_pos (b_var_t hb)] at H
  refine Qaa (v:=bool false) rfl rfl rfl ?_
  show G _ _ _ _ [_,_,_,_,_,_,_,_,_,_,_,_,_,_,_,_,_,_,_,_] _
  refine Qaa (v:=bool false) rfl rfl rfl ?_
  refine Qaa (v:=v3) rfl rfl rfl ?_
  obtain ⟨r5,Hr5,H⟩:=bind_get H
  refine Qaw (args:=[v3]) rfl rfl (Qax rfl (callFunc_enter Tryz.func47 rfl rfl) rfl) (Qbw.calls (a1:=r2.1) (hs.row 0 rfl) Hr5) ?_
  rintro _ w ⟨rfl,hs2⟩
  have hs:St _ [_] _:=hs.call hs2
  show G _ _ _ _ [_,_,_,_,_,_,_,_,_,_,_,_,_,_,_,_,_,_,_,_] _
  obtain ⟨r6,Hr6,H⟩:=bind_get H
  refine Qaw (args:=[int .i64 r5,int .i64 1,int .i64 16]) rfl rfl (Qax rfl (callFunc_enter Tryz.func46 rfl rfl) rfl) (Qa5.calls (a1:=r5) (a2:=1) (a3:=16) Hr6) ?_
  rintro _ w ⟨rfl,hs2⟩
  have hs:St _ [_] _:=hs.call hs2
  cases r6 with
  |true=>
   rw [if_pos rfl] at H
   show G _ _ _ _ [_,_,_,_,_,_,_,_,_,_,_,_,_,_,_,_,_,_,_,_] _
   refine Qaa (v:=bool false) rfl rfl rfl ?_
   refine Qaa (v:=bool false) rfl rfl rfl (Qac (Qal rfl (Qay (Qad (Qag [0,1,2] rfl ?_)))))
   refine Qaa (v:=v3) rfl rfl rfl ?_
   show G _ _ _ _ [_,_,_,_,_,_,_,_,_,_,_,_,_,_,_,_,_,_,_,_] _
   refine Qaa (v:=v3) rfl rfl rfl ?_
   refine Qaa (v:=int .i64 0) rfl rfl rfl (Qac ?_)
   obtain rfl:=QsJ H
   refine Qaq Tryz.func16 (v:=tuple #[v3,int .i64 0]) (resN (l:=Tryz.f16.results.toList) (vs:=[v3,int .i64 0]) rfl ⟨rfl,rfl,trivial⟩ (by simp)) ?_
   have hs:=hs.pull 0 rfl
   have hs:St _ [_] _:=St.take (Γ':=[]) hs
   exact ⟨_,rfl,v3,rfl,hs⟩
  |false=>
   rw [if_neg Bool.false_ne_true] at H
   refine Qaa (v:=bool true) rfl rfl rfl ?_
   refine Qaa (v:=bool true) rfl rfl rfl ?_
   show G _ _ _ _ [_,_,_,_,_,_,_,_,_,_,_,_,_,_,_,_,_,_,_,_] _
   refine Qac (Qai rfl (Qad (Qag [0,1] rfl ?_)))
   refine Qaa (v:=slice none 0 0) rfl rfl rfl ?_
   refine Qaa (v:=int .i64 5) rfl rfl rfl (Qac ?_)
   obtain rfl:=QsJ H
   refine Qaq Tryz.func16 (v:=tuple #[slice none 0 0,int .i64 5]) (resN (l:=Tryz.f16.results.toList) (vs:=[slice none 0 0,int .i64 5]) rfl ⟨rfl,rfl,trivial⟩ (by simp)) ?_
   have hs:=hs.nil 49 (K.int .i8)
   have hs:=hs.pull 0 rfl
   have hs:St _ [_] _:=St.take (Γ':=[_]) hs
   exact ⟨_,rfl,(slice none 0 0),rfl,hs⟩
 intro hb
 rw [if_neg (b_var_f hb)] at H
 refine Qaa (v:=bool true) rfl rfl rfl ?_
 refine Qaa (v:=bool true) rfl rfl rfl ?_
 show G _ _ _ _ [_,_,_,_,_,_,_,_,_,_,_,_,_,_,_,_,_,_,_,_] _
 refine Qab rfl rfl (Qab rfl rfl (Qab rfl rfl ?_))
 show G _ _ _ _ [_,_,_,_,_,_,_,_,_,_,_,_,_,_,_,_,_,_,_,_] _
 refine Qab rfl rfl ?_
 refine Qaa (v:=bool true) rfl rfl rfl (Qac (Qai rfl (Qad (Qag [0,1] rfl ?_))))
 refine Qaa (v:=slice none 0 0) rfl rfl rfl ?_
 show G _ _ _ _ [_,_,_,_,_,_,_,_,_,_,_,_,_,_,_,_,_,_,_,_] _
 refine Qaa (v:=int .i64 5) rfl rfl rfl (Qac ?_)
 obtain rfl:=QsJ H
 refine Qaq Tryz.func16 (v:=tuple #[slice none 0 0,int .i64 5]) (resN (l:=Tryz.f16.results.toList) (vs:=[slice none 0 0,int .i64 5]) rfl ⟨rfl,rfl,trivial⟩ (by simp)) ?_
 have hs:=hs.nil 49 (K.int .i8)
 have hs:=hs.pull 0 rfl
 have hs:St _ [_] _:=St.take (Γ':=[_]) hs
 exact ⟨_,rfl,(slice none 0 0),rfl,hs⟩
def Qbh.post (w0:World) (r:(Int×Int)) (v:Value) (w:World):Prop:=v=tuple #[int .i64 r.1,int .i64 r.2]∧St w0 [] w
theorem Qbh.calls {N:Nat} {a1:(List Int)} {v2:Value} {w0:World} {r:(Int×Int)} (hr0:RdRow (K.int .i16) w0 v2 a1) (H:Qbh.f N a1=some r):
 Calls Tryz.prog 18 #[v2] w0 fun e w=>∃ v,e= .returned v∧Qbh.post w0 r v w:=by
 unfold Qbh.f at H
 have hs:St w0 [] w0:=St.refl w0
 refine calls_of_g (n:=8) Tryz.func18 rfl rfl ?_
 show G _ _ _ _ [_,_,_,_,_,_,_,_,_] _
 refine Qad (Qag [0,1] rfl ?_)
 refine Qaa (v:=int .i64 0) rfl rfl rfl ?_
 show G _ _ _ _ [_,_,_,_,_,_,_,_,_] _
 refine Qaa (v:=int .i64 0) rfl rfl rfl (Qac (Qad (Qad (Qag [0,1,2] rfl ?_))))
 refine Qaa (v:=v2) rfl rfl rfl ?_
 obtain ⟨r3,Hr3,H⟩:=bind_get H
 refine Qaw (args:=[v2]) rfl rfl (Qax rfl (callFunc_enter Tryz.func21 rfl rfl) rfl) (QaE.calls (a1:=a1) (hs.rd hr0) Hr3) ?_
 rintro _ w ⟨rfl,hs2⟩
 have hs:St _ [] _:=hs.call hs2
 cases r3 with
 |true=>
  rw [if_pos rfl] at H
  show G _ _ _ _ [_,_,_,_,_,_,_,_,_] _
  refine Qaa (v:=bool false) rfl rfl rfl (Qac (Qal rfl (Qay (Qad (Qag [0,1,2,3] rfl ?_)))))
  refine Qaa (v:=v2) rfl rfl rfl ?_
  obtain ⟨r4,Hr4,H⟩:=bind_get H
  refine Qaw (args:=[v2]) rfl rfl (Qax rfl (callFunc_enter Tryz.func49 rfl rfl) rfl) (QaF.calls (a1:=a1) (hs.rd hr0) Hr4) ?_
  rintro _ w ⟨rfl,hs2⟩
  have hs:St _ [] _:=hs.call hs2
  show G _ _ _ _ [_,_,_,_,_,_,_,_,_] _
  refine Qaa (v:=int .i64 r4) rfl rfl rfl ?_
  refine Qaa (v:=int .i64 0) rfl rfl rfl (Qac ?_)
  obtain rfl:=QsJ H
  refine Qaq Tryz.func18 (v:=tuple #[int .i64 r4,int .i64 0]) (resN (l:=Tryz.f18.results.toList) (vs:=[int .i64 r4,int .i64 0]) rfl ⟨rfl,rfl,trivial⟩ (by simp)) ?_
  have hs:St _ [] _:=St.take (Γ':=[]) hs
  exact ⟨_,rfl,rfl,hs⟩
 |false=>
  rw [if_neg Bool.false_ne_true] at H
  show G _ _ _ _ [_,_,_,_,_,_,_,_,_] _
  refine Qaa (v:=bool true) rfl rfl rfl (Qac (Qai rfl (Qad (Qag [0,1] rfl ?_))))
  refine Qaa (v:=int .i64 0) rfl rfl rfl ?_
  refine Qaa (v:=int .i64 1) rfl rfl rfl ?_
  show G _ _ _ _ [_,_,_,_,_,_,_,_,_] _
  refine Qac ?_
  obtain rfl:=QsJ H
  refine Qaq Tryz.func18 (v:=tuple #[int .i64 0,int .i64 1]) (resN (l:=Tryz.f18.results.toList) (vs:=[int .i64 0,int .i64 1]) rfl ⟨rfl,rfl,trivial⟩ (by simp)) ?_
  have hs:St _ [] _:=St.take (Γ':=[]) hs
  exact ⟨_,rfl,rfl,hs⟩
def QaV.post (w0:World) (r:Bool) (v:Value) (w:World):Prop:=v=bool r∧St w0 [] w
theorem QaV.calls {N:Nat} {a1:(List Int)} {a3:(List Int)} {v2:Value} {v4:Value} {w0:World} {r:Bool} (hr0:RdRow (K.int .i8) w0 v2 a1) (hr1:RdRow (K.int .i8) w0 v4 a3) (H:QaV.f N a1 a3=some r):
 Calls Tryz.prog 19 #[v2,v4] w0 fun e w=>∃ v,e= .returned v∧QaV.post w0 r v w:=by
 unfold QaV.f at H
 have hs:St w0 [] w0:=St.refl w0
 refine calls_of_g (n:=24) Tryz.func19 rfl rfl ?_
 show G _ _ _ _ [_,_,_,_,_,_,_,_,_,_,_,_,_,_,_,_,_,_,_,_,_,_,_,_,_,_] _
 refine Qad (Qag [0] rfl ?_)
 refine Qaa (v:=bool false) rfl rfl rfl (Qac (Qad (Qad (Qag [0,1,2,3,4] rfl ?_))))
 refine Qaa (v:=v2) rfl rfl rfl ?_
 refine Qba (hs.rd hr0) rfl rfl rfl rfl rfl ?_
 refine Qaa (v:=v4) rfl rfl rfl ?_
 refine Qba (hs.rd hr1) rfl rfl rfl rfl rfl ?_
 show G _ _ _ _ [_,_,_,_,_,_,_,_,_,_,_,_,_,_,_,_,_,_,_,_,_,_,_,_,_,_] _
 refine Qas (B:=(a1.length:Int) !=(a3.length:Int)) rfl rfl rfl ?_ ?_
 ·
  intro hb
  rw [if_neg (b_bne_t hb)] at H
  show G _ _ _ _ [_,_,_,_,_,_,_,_,_,_,_,_,_,_,_,_,_,_,_,_,_,_,_,_,_,_] _
  refine Qac (Qai rfl (Qad (Qag [0] rfl ?_)))
  refine Qaa (v:=bool false) rfl rfl rfl (Qac ?_)
  obtain rfl:=QsJ H
  refine Qaq Tryz.func19 (v:=bool false) (res1 rfl rfl) ?_
  have hs:St _ [] _:=St.take (Γ':=[]) hs
  exact ⟨_,rfl,rfl,hs⟩
 intro hb
 rw [if_pos (b_bne_f hb)] at H
 refine Qac (Qal rfl (Qay (Qad (Qad (Qag [0] rfl ?_)))))
 refine Qaa (v:=int .i64 0) rfl rfl rfl (Qac ?_)
 obtain ⟨o1_,Ho,Hr1_⟩:=bind_get H
 refine QaC (J:=fun t w=>QaV.a0 N=some r∧Fr t (fun O=>([O 0,O 1,O 2,O 3,O 4,O 5,O 6,O 7,O 8,O 9,O 10,O 11,O 12,O 13,O 14,O 15,O 16,O 17,O 18,O 19,O 20,O 21,O 22,O 23,O 24,O 25]:List Value))∧St w0 [] w) ?_ ?_
 ·
  rintro t w ⟨H,hf,hs⟩
  obtain ⟨O,rfl⟩:=hf.open
  show G _ _ _ _ [_,_,_,_,_,_,_,_,_,_,_,_,_,_,_,_,_,_,_,_,_,_,_,_,_,_] _
  unfold QaV.a0 at H
  refine Qad (Qag [0] rfl ?_)
  refine Qaa (v:=bool true) rfl rfl rfl (Qac ?_)
  obtain rfl:=QsJ H
  refine Qaq Tryz.func19 (v:=bool true) (res1 rfl rfl) ?_
  have hs:St _ [] _:=St.take (Γ':=[]) hs
  exact ⟨_,rfl,rfl,hs⟩
 intro ha1_
 have hs:St _ [] _:=St.take (Γ':=[]) hs
 refine QaP (I:=fun n_ t w=>∃ x5:Int,rounds (fun s=>QaV.b0 N a1 a3 s) n_ x5=some o1_∧Fr t (fun O=>([v2,v4,O 2,O 3,O 4,int .i64 x5,O 6,O 7,O 8,O 9,O 10,O 11,O 12,O 13,O 14,O 15,O 16,O 17,O 18,O 19,O 20,O 21,O 22,O 23,O 24,O 25]:List Value))∧St w0 [] w) N ⟨0,Ho,rfl,hs⟩ ?_ ?_
 ·
  rintro _ _ ⟨x5,h,_⟩
  exact rounds_zero h
 intro n_ ih1_
 rintro t w ⟨x5,Ho,hf,hs⟩
 obtain ⟨O,rfl⟩:=hf.open
 show G _ _ _ _ [_,_,_,_,_,_,_,_,_,_,_,_,_,_,_,_,_,_,_,_,_,_,_,_,_,_] _
 obtain ⟨x7_,H,Hx1_⟩:=rounds_succ Ho
 have H:QaV.b0 N a1 a3 x5=some x7_:=H
 unfold QaV.b0 at H
 refine Qad (Qad (Qag [0,1,2,3] rfl ?_))
 refine Qaa (v:=int .i64 x5) rfl rfl rfl ?_
 refine Qaa (v:=v2) rfl rfl rfl ?_
 refine Qba (hs.rd hr0) rfl rfl rfl rfl rfl ?_
 show G _ _ _ _ [_,_,_,_,_,_,_,_,_,_,_,_,_,_,_,_,_,_,_,_,_,_,_,_,_,_] _
 refine Qas (B:=decide (x5< (a1.length:Int))) rfl rfl rfl ?_ ?_
 ·
  intro hb
  rw [if_pos (b_dec_t hb)] at H
  refine Qac (Qai rfl (Qay (Qad ?_)))
  refine Qbe (Qad ?_)
  refine QbP (n:=9) rfl [0,1,2,3,4,5,6,7,8] [0,1,2,3,4,5,6,7,8] rfl rfl ?_
  intro rest w hh hbw hO
  have hs:=hs.samew hh hbw
  show G _ _ _ _ [_,_,_,_,_,_,_,_,_,_,_,_,_,_,_,_,_,_,_,_,_,_,_,_,_,_] _
  obtain ⟨gd2,H⟩:=ite_get H
  obtain ⟨ad3_,ad3_N,ad3_C,had3_⟩:=sl_at (hs.rd hr0) gd2.1 gd2.2
  obtain ⟨gd4,H⟩:=ite_get H
  obtain ⟨ad5_,ad5_N,ad5_C,had5_⟩:=sl_at (hs.rd hr1) gd4.1 gd4.2
  refine Qbz ?_
  intro T hT
  refine QbA (m0:=0) hO rfl 255 [0,1,2,3,4,5,6,7] [0,0,3,7,0,0,48,112,255] (by decide+kernel) (fun D t w=>∃ O:Nat→Value,t=[v2,v4,O 2,O 3,O 4,int .i64 x5,O 6,O 7,O 8,O 9,O 10,int .i64 x5,v2,int .i64 (a1.length:Int),bool true,O 15,O 16,cnd (D 0) v2 (O 17),cnd (D 1) (int .i64 x5) (O 18),cnd (D 2) (pointer (some (ad3_.add (x5.toNat*1)))) (O 19),cnd (D 3) (int .i8 (rdL a1 x5 0)) (O 20),cnd (D 4) v4 (O 21),cnd (D 5) (int .i64 x5) (O 22),cnd (D 6) (pointer (some (ad5_.add (x5.toNat*1)))) (O 23),cnd (D 7) (int .i8 (rdL a3 x5 0)) (O 24),O 25]∧St w0 [] w) ?_ ⟨?_,⟨?_,⟨?_,⟨?_,⟨?_,⟨?_,⟨?_,⟨?_,trivial⟩⟩⟩⟩⟩⟩⟩⟩ ?_
  ·exact ⟨fun i=>T.getD i undef,(by subst hT;rfl),hs⟩
  ·
   rintro D t w hD hp hcl ⟨O,ht,hs⟩ rest hk
   have hp:AllDone D []:=hp
   have q2_:=ny hcl 2 0 hD
   have q3_:=ny hcl 3 0 q2_
   simp only [hD,q2_,q3_,cq,oT] at ht hs
   subst ht
   refine Qaa (v:=v2) rfl rfl rfl ?_
   show G _ _ _ _ [_,_,_,_,_,_,_,_,_,_,_,_,_,_,_,_,_,_,_,_,_,_,_,_,_,_] _
   refine hk _ _ ⟨O,?_,hs.cast ?_⟩<;>simp only [oT,lq,cq,Nat.reduceBEq,q2_,q3_]
  ·
   rintro D t w hD hp hcl ⟨O,ht,hs⟩ rest hk
   have hp:AllDone D []:=hp
   have q2_:=ny hcl 2 1 hD
   have q3_:=ny hcl 3 0 q2_
   simp only [hD,q2_,q3_,cq,oT] at ht hs
   subst ht
   refine Qaa (v:=int .i64 x5) rfl rfl rfl ?_
   show G _ _ _ _ [_,_,_,_,_,_,_,_,_,_,_,_,_,_,_,_,_,_,_,_,_,_,_,_,_,_] _
   refine hk _ _ ⟨O,?_,hs.cast ?_⟩<;>simp only [oT,lq,cq,Nat.reduceBEq,q2_,q3_]
  ·
   rintro D t w hD hp hcl ⟨O,ht,hs⟩ rest hk
   have hp:AllDone D [0,1]:=hp
   obtain ⟨p0_,p1_,_⟩:=hp
   have q3_:=ny hcl 3 0 hD
   simp only [hD,p0_,p1_,q3_,cq,oT] at ht hs
   subst ht
   refine QbG (κ:=(K.int .i8)) (m:=1) rfl (hs.rd hr0) rfl (fun _=>rfl) gd2.1 gd2.2 had3_ rfl rfl rfl rfl rfl ?_
   show G _ _ _ _ [_,_,_,_,_,_,_,_,_,_,_,_,_,_,_,_,_,_,_,_,_,_,_,_,_,_] _
   refine hk _ _ ⟨O,?_,hs.cast ?_⟩<;>simp only [oT,lq,cq,Nat.reduceBEq,p0_,p1_,q3_]
  ·
   rintro D t w hD hp hcl ⟨O,ht,hs⟩ rest hk
   have hp:AllDone D [2]:=hp
   obtain ⟨p2_,_⟩:=hp
   obtain ⟨p0_,p1_,_⟩:=(show D 2=true→AllDone D [0,1] from hcl 2 (by decide)) p2_
   simp only [hD,p0_,p1_,p2_,cq,oT] at ht hs
   subst ht
   refine QaA rfl rfl (v:=int .i8 (rdL a1 x5 0)) rfl rfl (fun _=>rfl) (cellsAt_of (fkI .i8) 0 (hs.rd hr0) had3_ gd2.1 gd2.2) ?_
   show G _ _ _ _ [_,_,_,_,_,_,_,_,_,_,_,_,_,_,_,_,_,_,_,_,_,_,_,_,_,_] _
   refine hk _ _ ⟨O,?_,hs.cast ?_⟩<;>simp only [oT,lq,cq,Nat.reduceBEq,p0_,p1_,p2_]
  ·
   rintro D t w hD hp hcl ⟨O,ht,hs⟩ rest hk
   have hp:AllDone D []:=hp
   have q6_:=ny hcl 6 0 hD
   have q7_:=ny hcl 7 0 q6_
   simp only [hD,q6_,q7_,cq,oT] at ht hs
   subst ht
   refine Qaa (v:=v4) rfl rfl rfl ?_
   show G _ _ _ _ [_,_,_,_,_,_,_,_,_,_,_,_,_,_,_,_,_,_,_,_,_,_,_,_,_,_] _
   refine hk _ _ ⟨O,?_,hs.cast ?_⟩<;>simp only [oT,lq,cq,Nat.reduceBEq,q6_,q7_]
  ·
   rintro D t w hD hp hcl ⟨O,ht,hs⟩ rest hk
   have hp:AllDone D []:=hp
   have q6_:=ny hcl 6 1 hD
   have q7_:=ny hcl 7 0 q6_
   simp only [hD,q6_,q7_,cq,oT] at ht hs
   subst ht
   refine Qaa (v:=int .i64 x5) rfl rfl rfl ?_
   show G _ _ _ _ [_,_,_,_,_,_,_,_,_,_,_,_,_,_,_,_,_,_,_,_,_,_,_,_,_,_] _
   refine hk _ _ ⟨O,?_,hs.cast ?_⟩<;>simp only [oT,lq,cq,Nat.reduceBEq,q6_,q7_]
  ·
   rintro D t w hD hp hcl ⟨O,ht,hs⟩ rest hk
   have hp:AllDone D [4,5]:=hp
   obtain ⟨p4_,p5_,_⟩:=hp
   have q7_:=ny hcl 7 0 hD
   simp only [hD,p4_,p5_,q7_,cq,oT] at ht hs
   subst ht
   refine QbG (κ:=(K.int .i8)) (m:=1) rfl (hs.rd hr1) rfl (fun _=>rfl) gd4.1 gd4.2 had5_ rfl rfl rfl rfl rfl ?_
   show G _ _ _ _ [_,_,_,_,_,_,_,_,_,_,_,_,_,_,_,_,_,_,_,_,_,_,_,_,_,_] _
   refine hk _ _ ⟨O,?_,hs.cast ?_⟩<;>simp only [oT,lq,cq,Nat.reduceBEq,p4_,p5_,q7_]
  ·
   rintro D t w hD hp hcl ⟨O,ht,hs⟩ rest hk
   have hp:AllDone D [6]:=hp
   obtain ⟨p6_,_⟩:=hp
   obtain ⟨p4_,p5_,_⟩:=(show D 6=true→AllDone D [4,5] from hcl 6 (by decide)) p6_
   simp only [hD,p4_,p5_,p6_,cq,oT] at ht hs
   subst ht
   refine QaA rfl rfl (v:=int .i8 (rdL a3 x5 0)) rfl rfl (fun _=>rfl) (cellsAt_of (fkI .i8) 0 (hs.rd hr1) had5_ gd4.1 gd4.2) ?_
   show G _ _ _ _ [_,_,_,_,_,_,_,_,_,_,_,_,_,_,_,_,_,_,_,_,_,_,_,_,_,_] _
   refine hk _ _ ⟨O,?_,hs.cast ?_⟩<;>simp only [oT,lq,cq,Nat.reduceBEq,p4_,p5_,p6_]
  intro D t w rest hall hO1_ hI
  obtain ⟨O,ht,hs⟩:=hI
  have p0_:=hall 0 (by decide) rfl
  have p1_:=hall 1 (by decide) rfl
  have p2_:=hall 2 (by decide) rfl
  have p3_:=hall 3 (by decide) rfl
  have p4_:=hall 4 (by decide) rfl
  have p5_:=hall 5 (by decide) rfl
  have p6_:=hall 6 (by decide) rfl
  have p7_:=hall 7 (by decide) rfl
  simp only [p0_,p1_,p2_,p3_,p4_,p5_,p6_,p7_,cq,oT] at ht hs
  subst ht
  obtain ⟨rest,rfl,hO6_⟩:=ord_one (m:=255) hO1_ rfl 8 (m':=511) (by decide+kernel) rfl
  clear hO1_
  refine Qas (B:=(rdL a1 x5 0) !=(rdL a3 x5 0)) rfl rfl rfl ?_ ?_
  ·
   intro hb
   rw [if_neg (b_bne_t hb)] at H
   show G _ _ _ _ [_,_,_,_,_,_,_,_,_,_,_,_,_,_,_,_,_,_,_,_,_,_,_,_,_,_] _
   obtain rfl:=ord_end hO6_ rfl (by decide+kernel)
   refine Qac (Qai rfl (Qad (Qag [0] rfl ?_)))
   refine Qaa (v:=bool false) rfl rfl rfl (Qac ?_)
   obtain rfl:=QsJ H
   subst Hx1_
   have H:=QsJ Hr1_
   subst H
   refine Qaq Tryz.func19 (v:=bool false) (res1 rfl rfl) ?_
   have hs:St _ [] _:=St.take (Γ':=[]) hs
   exact ⟨_,rfl,rfl,hs⟩
  intro hb
  rw [if_pos (b_bne_f hb)] at H
  show G _ _ _ _ [_,_,_,_,_,_,_,_,_,_,_,_,_,_,_,_,_,_,_,_,_,_,_,_,_,_] _
  obtain rfl:=ord_end hO6_ rfl (by decide+kernel)
  refine Qac (Qal rfl (Qay ?_))
  refine QaH (Qag [0,1,2] rfl ?_)
  refine Qaa (v:=int .i64 x5) rfl rfl rfl ?_
  refine Qaa (v:=int .i64 (i64w (x5+1))) rfl rfl rfl ?_
  refine Qaa (v:=int .i64 (i64w (x5+1))) rfl rfl rfl (Qac ?_)
  obtain rfl:=QsJ H
  have hs:St _ [] _:=St.take (Γ':=[]) hs
  exact ih1_ _ _ ⟨i64w (x5+1),Hx1_,rfl,hs⟩
 intro hb
 rw [if_neg (b_dec_f hb)] at H
 refine Qac (Qal rfl ?_)
 obtain rfl:=QsJ H
 subst Hx1_
 have hs:St _ [] _:=St.take (Γ':=[]) hs
 refine Qbc rfl ?_
 exact ha1_ _ _ ⟨Hr1_,rfl,hs⟩
def QaL.post (w0:World) (r:Bool) (v:Value) (w:World):Prop:=v=bool r∧St w0 [] w
theorem QaL.calls {N:Nat} {a1:(List Int)} {a3:(List Int)} {v2:Value} {v4:Value} {w0:World} {r:Bool} (hr0:RdRow (K.int .i16) w0 v2 a1) (hr1:RdRow (K.int .i16) w0 v4 a3) (H:QaL.f N a1 a3=some r):
 Calls Tryz.prog 20 #[v2,v4] w0 fun e w=>∃ v,e= .returned v∧QaL.post w0 r v w:=by
 unfold QaL.f at H
 have hs:St w0 [] w0:=St.refl w0
 refine calls_of_g (n:=24) Tryz.func20 rfl rfl ?_
 show G _ _ _ _ [_,_,_,_,_,_,_,_,_,_,_,_,_,_,_,_,_,_,_,_,_,_,_,_,_,_] _
 refine Qad (Qag [0] rfl ?_)
 refine Qaa (v:=bool false) rfl rfl rfl (Qac (Qad (Qad (Qag [0,1,2,3,4] rfl ?_))))
 refine Qaa (v:=v2) rfl rfl rfl ?_
 refine Qba (hs.rd hr0) rfl rfl rfl rfl rfl ?_
 refine Qaa (v:=v4) rfl rfl rfl ?_
 refine Qba (hs.rd hr1) rfl rfl rfl rfl rfl ?_
 show G _ _ _ _ [_,_,_,_,_,_,_,_,_,_,_,_,_,_,_,_,_,_,_,_,_,_,_,_,_,_] _
 refine Qas (B:=(a1.length:Int) !=(a3.length:Int)) rfl rfl rfl ?_ ?_
 ·
  intro hb
  rw [if_neg (b_bne_t hb)] at H
  show G _ _ _ _ [_,_,_,_,_,_,_,_,_,_,_,_,_,_,_,_,_,_,_,_,_,_,_,_,_,_] _
  refine Qac (Qai rfl (Qad (Qag [0] rfl ?_)))
  refine Qaa (v:=bool false) rfl rfl rfl (Qac ?_)
  obtain rfl:=QsJ H
  refine Qaq Tryz.func20 (v:=bool false) (res1 rfl rfl) ?_
  have hs:St _ [] _:=St.take (Γ':=[]) hs
  exact ⟨_,rfl,rfl,hs⟩
 intro hb
 rw [if_pos (b_bne_f hb)] at H
 refine Qac (Qal rfl (Qay (Qad (Qad (Qag [0] rfl ?_)))))
 refine Qaa (v:=int .i64 0) rfl rfl rfl (Qac ?_)
 obtain ⟨o1_,Ho,Hr1_⟩:=bind_get H
 refine QaC (J:=fun t w=>QaL.a0 N=some r∧Fr t (fun O=>([O 0,O 1,O 2,O 3,O 4,O 5,O 6,O 7,O 8,O 9,O 10,O 11,O 12,O 13,O 14,O 15,O 16,O 17,O 18,O 19,O 20,O 21,O 22,O 23,O 24,O 25]:List Value))∧St w0 [] w) ?_ ?_
 ·
  rintro t w ⟨H,hf,hs⟩
  obtain ⟨O,rfl⟩:=hf.open
  show G _ _ _ _ [_,_,_,_,_,_,_,_,_,_,_,_,_,_,_,_,_,_,_,_,_,_,_,_,_,_] _
  unfold QaL.a0 at H
  refine Qad (Qag [0] rfl ?_)
  refine Qaa (v:=bool true) rfl rfl rfl (Qac ?_)
  obtain rfl:=QsJ H
  refine Qaq Tryz.func20 (v:=bool true) (res1 rfl rfl) ?_
  have hs:St _ [] _:=St.take (Γ':=[]) hs
  exact ⟨_,rfl,rfl,hs⟩
 intro ha1_
 have hs:St _ [] _:=St.take (Γ':=[]) hs
 refine QaP (I:=fun n_ t w=>∃ x5:Int,rounds (fun s=>QaL.b0 N a1 a3 s) n_ x5=some o1_∧Fr t (fun O=>([v2,v4,O 2,O 3,O 4,int .i64 x5,O 6,O 7,O 8,O 9,O 10,O 11,O 12,O 13,O 14,O 15,O 16,O 17,O 18,O 19,O 20,O 21,O 22,O 23,O 24,O 25]:List Value))∧St w0 [] w) N ⟨0,Ho,rfl,hs⟩ ?_ ?_
 ·
  rintro _ _ ⟨x5,h,_⟩
  exact rounds_zero h
 intro n_ ih1_
 rintro t w ⟨x5,Ho,hf,hs⟩
 obtain ⟨O,rfl⟩:=hf.open
 show G _ _ _ _ [_,_,_,_,_,_,_,_,_,_,_,_,_,_,_,_,_,_,_,_,_,_,_,_,_,_] _
 obtain ⟨x7_,H,Hx1_⟩:=rounds_succ Ho
 have H:QaL.b0 N a1 a3 x5=some x7_:=H
 unfold QaL.b0 at H
 refine Qad (Qad (Qag [0,1,2,3] rfl ?_))
 refine Qaa (v:=int .i64 x5) rfl rfl rfl ?_
 refine Qaa (v:=v2) rfl rfl rfl ?_
 refine Qba (hs.rd hr0) rfl rfl rfl rfl rfl ?_
 show G _ _ _ _ [_,_,_,_,_,_,_,_,_,_,_,_,_,_,_,_,_,_,_,_,_,_,_,_,_,_] _
 refine Qas (B:=decide (x5< (a1.length:Int))) rfl rfl rfl ?_ ?_
 ·
  intro hb
  rw [if_pos (b_dec_t hb)] at H
  refine Qac (Qai rfl (Qay (Qad ?_)))
  refine Qbe (Qad ?_)
  refine QbP (n:=9) rfl [0,1,2,3,4,5,6,7,8] [0,1,2,3,4,5,6,7,8] rfl rfl ?_
  intro rest w hh hbw hO
  have hs:=hs.samew hh hbw
  show G _ _ _ _ [_,_,_,_,_,_,_,_,_,_,_,_,_,_,_,_,_,_,_,_,_,_,_,_,_,_] _
  obtain ⟨gd2,H⟩:=ite_get H
  obtain ⟨ad3_,ad3_N,ad3_C,had3_⟩:=sl_at (hs.rd hr0) gd2.1 gd2.2
  obtain ⟨gd4,H⟩:=ite_get H
  obtain ⟨ad5_,ad5_N,ad5_C,had5_⟩:=sl_at (hs.rd hr1) gd4.1 gd4.2
  refine Qbz ?_
  intro T hT
  refine QbA (m0:=0) hO rfl 255 [0,1,2,3,4,5,6,7] [0,0,3,7,0,0,48,112,255] (by decide+kernel) (fun D t w=>∃ O:Nat→Value,t=[v2,v4,O 2,O 3,O 4,int .i64 x5,O 6,O 7,O 8,O 9,O 10,int .i64 x5,v2,int .i64 (a1.length:Int),bool true,O 15,O 16,cnd (D 0) v2 (O 17),cnd (D 1) (int .i64 x5) (O 18),cnd (D 2) (pointer (some (ad3_.add (x5.toNat*1)))) (O 19),cnd (D 3) (int .i16 (rdL a1 x5 0)) (O 20),cnd (D 4) v4 (O 21),cnd (D 5) (int .i64 x5) (O 22),cnd (D 6) (pointer (some (ad5_.add (x5.toNat*1)))) (O 23),cnd (D 7) (int .i16 (rdL a3 x5 0)) (O 24),O 25]∧St w0 [] w) ?_ ⟨?_,⟨?_,⟨?_,⟨?_,⟨?_,⟨?_,⟨?_,⟨?_,trivial⟩⟩⟩⟩⟩⟩⟩⟩ ?_
  ·exact ⟨fun i=>T.getD i undef,(by subst hT;rfl),hs⟩
  ·
   rintro D t w hD hp hcl ⟨O,ht,hs⟩ rest hk
   have hp:AllDone D []:=hp
   have q2_:=ny hcl 2 0 hD
   have q3_:=ny hcl 3 0 q2_
   simp only [hD,q2_,q3_,cq,oT] at ht hs
   subst ht
   refine Qaa (v:=v2) rfl rfl rfl ?_
   show G _ _ _ _ [_,_,_,_,_,_,_,_,_,_,_,_,_,_,_,_,_,_,_,_,_,_,_,_,_,_] _
   refine hk _ _ ⟨O,?_,hs.cast ?_⟩<;>simp only [oT,lq,cq,Nat.reduceBEq,q2_,q3_]
  ·
   rintro D t w hD hp hcl ⟨O,ht,hs⟩ rest hk
   have hp:AllDone D []:=hp
   have q2_:=ny hcl 2 1 hD
   have q3_:=ny hcl 3 0 q2_
   simp only [hD,q2_,q3_,cq,oT] at ht hs
   subst ht
   refine Qaa (v:=int .i64 x5) rfl rfl rfl ?_
   show G _ _ _ _ [_,_,_,_,_,_,_,_,_,_,_,_,_,_,_,_,_,_,_,_,_,_,_,_,_,_] _
   refine hk _ _ ⟨O,?_,hs.cast ?_⟩<;>simp only [oT,lq,cq,Nat.reduceBEq,q2_,q3_]
  ·
   rintro D t w hD hp hcl ⟨O,ht,hs⟩ rest hk
   have hp:AllDone D [0,1]:=hp
   obtain ⟨p0_,p1_,_⟩:=hp
   have q3_:=ny hcl 3 0 hD
   simp only [hD,p0_,p1_,q3_,cq,oT] at ht hs
   subst ht
   refine QbG (κ:=(K.int .i16)) (m:=1) rfl (hs.rd hr0) rfl (fun _=>rfl) gd2.1 gd2.2 had3_ rfl rfl rfl rfl rfl ?_
   show G _ _ _ _ [_,_,_,_,_,_,_,_,_,_,_,_,_,_,_,_,_,_,_,_,_,_,_,_,_,_] _
   refine hk _ _ ⟨O,?_,hs.cast ?_⟩<;>simp only [oT,lq,cq,Nat.reduceBEq,p0_,p1_,q3_]
  ·
   rintro D t w hD hp hcl ⟨O,ht,hs⟩ rest hk
   have hp:AllDone D [2]:=hp
   obtain ⟨p2_,_⟩:=hp
   obtain ⟨p0_,p1_,_⟩:=(show D 2=true→AllDone D [0,1] from hcl 2 (by decide)) p2_
   simp only [hD,p0_,p1_,p2_,cq,oT] at ht hs
   subst ht
   refine QaA rfl rfl (v:=int .i16 (rdL a1 x5 0)) rfl rfl (fun _=>rfl) (cellsAt_of (fkI .i16) 0 (hs.rd hr0) had3_ gd2.1 gd2.2) ?_
   show G _ _ _ _ [_,_,_,_,_,_,_,_,_,_,_,_,_,_,_,_,_,_,_,_,_,_,_,_,_,_] _
   refine hk _ _ ⟨O,?_,hs.cast ?_⟩<;>simp only [oT,lq,cq,Nat.reduceBEq,p0_,p1_,p2_]
  ·
   rintro D t w hD hp hcl ⟨O,ht,hs⟩ rest hk
   have hp:AllDone D []:=hp
   have q6_:=ny hcl 6 0 hD
   have q7_:=ny hcl 7 0 q6_
   simp only [hD,q6_,q7_,cq,oT] at ht hs
   subst ht
   refine Qaa (v:=v4) rfl rfl rfl ?_
   show G _ _ _ _ [_,_,_,_,_,_,_,_,_,_,_,_,_,_,_,_,_,_,_,_,_,_,_,_,_,_] _
   refine hk _ _ ⟨O,?_,hs.cast ?_⟩<;>simp only [oT,lq,cq,Nat.reduceBEq,q6_,q7_]
  ·
   rintro D t w hD hp hcl ⟨O,ht,hs⟩ rest hk
   have hp:AllDone D []:=hp
   have q6_:=ny hcl 6 1 hD
   have q7_:=ny hcl 7 0 q6_
   simp only [hD,q6_,q7_,cq,oT] at ht hs
   subst ht
   refine Qaa (v:=int .i64 x5) rfl rfl rfl ?_
   show G _ _ _ _ [_,_,_,_,_,_,_,_,_,_,_,_,_,_,_,_,_,_,_,_,_,_,_,_,_,_] _
   refine hk _ _ ⟨O,?_,hs.cast ?_⟩<;>simp only [oT,lq,cq,Nat.reduceBEq,q6_,q7_]
  ·
   rintro D t w hD hp hcl ⟨O,ht,hs⟩ rest hk
   have hp:AllDone D [4,5]:=hp
   obtain ⟨p4_,p5_,_⟩:=hp
   have q7_:=ny hcl 7 0 hD
   simp only [hD,p4_,p5_,q7_,cq,oT] at ht hs
   subst ht
   refine QbG (κ:=(K.int .i16)) (m:=1) rfl (hs.rd hr1) rfl (fun _=>rfl) gd4.1 gd4.2 had5_ rfl rfl rfl rfl rfl ?_
   show G _ _ _ _ [_,_,_,_,_,_,_,_,_,_,_,_,_,_,_,_,_,_,_,_,_,_,_,_,_,_] _
   refine hk _ _ ⟨O,?_,hs.cast ?_⟩<;>simp only [oT,lq,cq,Nat.reduceBEq,p4_,p5_,q7_]
  ·
   rintro D t w hD hp hcl ⟨O,ht,hs⟩ rest hk
   have hp:AllDone D [6]:=hp
   obtain ⟨p6_,_⟩:=hp
   obtain ⟨p4_,p5_,_⟩:=(show D 6=true→AllDone D [4,5] from hcl 6 (by decide)) p6_
   simp only [hD,p4_,p5_,p6_,cq,oT] at ht hs
   subst ht
   refine QaA rfl rfl (v:=int .i16 (rdL a3 x5 0)) rfl rfl (fun _=>rfl) (cellsAt_of (fkI .i16) 0 (hs.rd hr1) had5_ gd4.1 gd4.2) ?_
   show G _ _ _ _ [_,_,_,_,_,_,_,_,_,_,_,_,_,_,_,_,_,_,_,_,_,_,_,_,_,_] _
   refine hk _ _ ⟨O,?_,hs.cast ?_⟩<;>simp only [oT,lq,cq,Nat.reduceBEq,p4_,p5_,p6_]
  intro D t w rest hall hO1_ hI
  obtain ⟨O,ht,hs⟩:=hI
  have p0_:=hall 0 (by decide) rfl
  have p1_:=hall 1 (by decide) rfl
  have p2_:=hall 2 (by decide) rfl
  have p3_:=hall 3 (by decide) rfl
  have p4_:=hall 4 (by decide) rfl
  have p5_:=hall 5 (by decide) rfl
  have p6_:=hall 6 (by decide) rfl
  have p7_:=hall 7 (by decide) rfl
  simp only [p0_,p1_,p2_,p3_,p4_,p5_,p6_,p7_,cq,oT] at ht hs
  subst ht
  obtain ⟨rest,rfl,hO6_⟩:=ord_one (m:=255) hO1_ rfl 8 (m':=511) (by decide+kernel) rfl
  clear hO1_
  refine Qas (B:=(rdL a1 x5 0) !=(rdL a3 x5 0)) rfl rfl rfl ?_ ?_
  ·
   intro hb
   rw [if_neg (b_bne_t hb)] at H
   show G _ _ _ _ [_,_,_,_,_,_,_,_,_,_,_,_,_,_,_,_,_,_,_,_,_,_,_,_,_,_] _
   obtain rfl:=ord_end hO6_ rfl (by decide+kernel)
   refine Qac (Qai rfl (Qad (Qag [0] rfl ?_)))
   refine Qaa (v:=bool false) rfl rfl rfl (Qac ?_)
   obtain rfl:=QsJ H
   subst Hx1_
   have H:=QsJ Hr1_
   subst H
   refine Qaq Tryz.func20 (v:=bool false) (res1 rfl rfl) ?_
   have hs:St _ [] _:=St.take (Γ':=[]) hs
   exact ⟨_,rfl,rfl,hs⟩
  intro hb
  rw [if_pos (b_bne_f hb)] at H
  show G _ _ _ _ [_,_,_,_,_,_,_,_,_,_,_,_,_,_,_,_,_,_,_,_,_,_,_,_,_,_] _
  obtain rfl:=ord_end hO6_ rfl (by decide+kernel)
  refine Qac (Qal rfl (Qay ?_))
  refine QaH (Qag [0,1,2] rfl ?_)
  refine Qaa (v:=int .i64 x5) rfl rfl rfl ?_
  refine Qaa (v:=int .i64 (i64w (x5+1))) rfl rfl rfl ?_
  refine Qaa (v:=int .i64 (i64w (x5+1))) rfl rfl rfl (Qac ?_)
  obtain rfl:=QsJ H
  have hs:St _ [] _:=St.take (Γ':=[]) hs
  exact ih1_ _ _ ⟨i64w (x5+1),Hx1_,rfl,hs⟩
 intro hb
 rw [if_neg (b_dec_f hb)] at H
 refine Qac (Qal rfl ?_)
 obtain rfl:=QsJ H
 subst Hx1_
 have hs:St _ [] _:=St.take (Γ':=[]) hs
 refine Qbc rfl ?_
 exact ha1_ _ _ ⟨Hr1_,rfl,hs⟩
def QbH.post (w0:World) (r:Int) (v:Value) (w:World):Prop:=v=int .i64 r∧St w0 [] w
theorem QbH.calls {N:Nat} {a1:Int} {a2:Int} {w0:World} {r:Int} (H:QbH.f N a1 a2=some r):
 Calls Tryz.prog 72 #[int .i64 a1,int .i64 a2] w0 fun e w=>∃ v,e= .returned v∧QbH.post w0 r v w:=by
 unfold QbH.f at H
 have hs:St w0 [] w0:=St.refl w0
 refine calls_of_g (n:=11) Tryz.func72 rfl rfl ?_
 show G _ _ _ _ [_,_,_,_,_,_,_,_,_,_,_,_,_] _
 refine Qad (Qag [0] rfl ?_)
 refine Qaa (v:=int .i64 0) rfl rfl rfl ?_
 show G _ _ _ _ [_,_,_,_,_,_,_,_,_,_,_,_,_] _
 refine Qac (Qad ?_)
 refine Qbe (Qad (Qag [0,1,2,3] rfl ?_))
 refine Qaa (v:=int .i64 a1) rfl rfl rfl ?_
 refine Qaa (v:=int .i64 a2) rfl rfl rfl ?_
 refine Qas (B:=decide (a1>a2)) rfl rfl rfl ?_ ?_
 ·
  intro hb
  rw [if_pos (b_dec_t hb)] at H
  refine Qaa (v:=bool true) rfl rfl rfl ?_
  show G _ _ _ _ [_,_,_,_,_,_,_,_,_,_,_,_,_] _
  refine Qac (Qai rfl (Qad (Qag [0] rfl ?_)))
  refine Qaa (v:=int .i64 (-1)) rfl rfl rfl (Qac ?_)
  obtain rfl:=QsJ H
  refine Qaq Tryz.func72 (v:=int .i64 (-1)) (res1 rfl rfl) ?_
  have hs:St _ [] _:=St.take (Γ':=[]) hs
  exact ⟨_,rfl,rfl,hs⟩
 intro hb
 rw [if_neg (b_dec_f hb)] at H
 show G _ _ _ _ [_,_,_,_,_,_,_,_,_,_,_,_,_] _
 refine Qaa (v:=bool false) rfl rfl rfl (Qac (Qal rfl (Qad (Qag [0,1,2,3] rfl ?_))))
 refine Qaa (v:=int .i64 a1) rfl rfl rfl ?_
 refine Qaa (v:=int .i64 a2) rfl rfl rfl ?_
 show G _ _ _ _ [_,_,_,_,_,_,_,_,_,_,_,_,_] _
 refine Qas (B:=decide (a1< a2)) rfl rfl rfl ?_ ?_
 ·
  intro hb
  rw [if_pos (b_dec_t hb)] at H
  refine Qaa (v:=bool true) rfl rfl rfl ?_
  show G _ _ _ _ [_,_,_,_,_,_,_,_,_,_,_,_,_] _
  refine Qac (Qai rfl (Qad (Qag [0] rfl ?_)))
  refine Qaa (v:=int .i64 1) rfl rfl rfl (Qac ?_)
  obtain rfl:=QsJ H
  refine Qaq Tryz.func72 (v:=int .i64 1) (res1 rfl rfl) ?_
  have hs:St _ [] _:=St.take (Γ':=[]) hs
  exact ⟨_,rfl,rfl,hs⟩
 intro hb
 rw [if_neg (b_dec_f hb)] at H
 refine Qaa (v:=bool false) rfl rfl rfl (Qac (Qal rfl (Qay ?_)))
 refine QaH (Qad (Qag [0] rfl ?_))
 refine Qaa (v:=int .i64 0) rfl rfl rfl ?_
 show G _ _ _ _ [_,_,_,_,_,_,_,_,_,_,_,_,_] _
 refine Qac ?_
 obtain rfl:=QsJ H
 refine Qaq Tryz.func72 (v:=int .i64 0) (res1 rfl rfl) ?_
 have hs:St _ [] _:=St.take (Γ':=[]) hs
 exact ⟨_,rfl,rfl,hs⟩
def Qbo.post (w0:World) (r:(Int×Int)) (v:Value) (w:World):Prop:=v=tuple #[int .i64 r.1,int .i64 r.2]∧St w0 [] w
theorem Qbo.calls {N:Nat} {a1:(List Int)} {a3:(List Int)} {a5:Int} {a6:Int} {a7:Int} {v2:Value} {v4:Value} {w0:World} {r:(Int×Int)} (hr0:RdRow (K.int .i16) w0 v2 a1) (hr1:RdRow (K.int .i8) w0 v4 a3) (H:Qbo.f N a1 a3 a5 a6 a7=some r):
 Calls Tryz.prog 54 #[v2,v4,int .i64 a5,int .i64 a6,int .i64 a7] w0 fun e w=>∃ v,e= .returned v∧Qbo.post w0 r v w:=by
 unfold Qbo.f at H
 have hs:St w0 [] w0:=St.refl w0
 refine calls_of_g (n:=43) Tryz.func54 rfl rfl ?_
 show G _ _ _ _ [_,_,_,_,_,_,_,_,_,_,_,_,_,_,_,_,_,_,_,_,_,_,_,_,_,_,_,_,_,_,_,_,_,_,_,_,_,_,_,_,_,_,_,_,_,_,_,_] _
 refine Qad (Qag [0,1] rfl ?_)
 refine Qaa (v:=int .i64 0) rfl rfl rfl ?_
 refine Qaa (v:=int .i64 0) rfl rfl rfl (Qac (Qad ?_))
 refine Qbe (Qad (Qag [0,1,2,3,4] rfl ?_))
 refine Qaa (v:=v2) rfl rfl rfl ?_
 refine Qaa (v:=v4) rfl rfl rfl ?_
 obtain ⟨r8,Hr8,H⟩:=bind_get H
 refine Qaw (args:=[v2,v4]) rfl rfl (Qax rfl (callFunc_enter Tryz.func22 rfl rfl) rfl) (Qa3.calls (a1:=a1) (a3:=a3) (hs.rd hr0) (hs.rd hr1) Hr8) ?_
 rintro _ w ⟨rfl,hs2⟩
 have hs:St _ [] _:=hs.call hs2
 cases r8 with
 |true=>
  rw [if_pos rfl] at H
  refine Qaa (v:=bool false) rfl rfl rfl ?_
  refine Qaa (v:=bool false) rfl rfl rfl ?_
  show G _ _ _ _ [_,_,_,_,_,_,_,_,_,_,_,_,_,_,_,_,_,_,_,_,_,_,_,_,_,_,_,_,_,_,_,_,_,_,_,_,_,_,_,_,_,_,_,_,_,_,_,_] _
  refine Qac (Qal rfl (Qad (Qag [0,1,2,3,4,5,6,7,8,9,10,11,12,13] rfl ?_)))
  refine Qaa (v:=int .i64 a5) rfl rfl rfl ?_
  obtain ⟨r9,Hr9,H⟩:=bind_get H
  refine Qaw (args:=[int .i64 a5,int .i64 0,int .i64 1000000]) rfl rfl (Qax rfl (callFunc_enter Tryz.func46 rfl rfl) rfl) (Qa5.calls (a1:=a5) (a2:=0) (a3:=1000000) Hr9) ?_
  rintro _ w ⟨rfl,hs2⟩
  have hs:St _ [] _:=hs.call hs2
  cases r9 with
  |true=>
   rw [if_pos rfl] at H
   refine Qaa (v:=bool false) rfl rfl rfl ?_
   show G _ _ _ _ [_,_,_,_,_,_,_,_,_,_,_,_,_,_,_,_,_,_,_,_,_,_,_,_,_,_,_,_,_,_,_,_,_,_,_,_,_,_,_,_,_,_,_,_,_,_,_,_] _
   refine Qaa (v:=bool false) rfl rfl rfl ?_
   refine Qaa (v:=int .i64 a6) rfl rfl rfl ?_
   obtain ⟨r10,Hr10,H⟩:=bind_get H
   refine Qaw (args:=[int .i64 a6,int .i64 1,int .i64 100]) rfl rfl (Qax rfl (callFunc_enter Tryz.func46 rfl rfl) rfl) (Qa5.calls (a1:=a6) (a2:=1) (a3:=100) Hr10) ?_
   rintro _ w ⟨rfl,hs2⟩
   have hs:St _ [] _:=hs.call hs2
   refine Qaa (v:=bool (!r10)) rfl rfl rfl ?_
   refine Qas (B:=!r10) rfl rfl rfl ?_ ?_
   ·
    intro hb
    rw [if_neg (b_not_t hb)] at H
    show G _ _ _ _ [_,_,_,_,_,_,_,_,_,_,_,_,_,_,_,_,_,_,_,_,_,_,_,_,_,_,_,_,_,_,_,_,_,_,_,_,_,_,_,_,_,_,_,_,_,_,_,_] _
    refine Qaa (v:=bool true) rfl rfl rfl (Qab rfl rfl (Qab rfl rfl (Qab rfl rfl ?_)))
    refine Qaa (v:=bool true) rfl rfl rfl ?_
    show G _ _ _ _ [_,_,_,_,_,_,_,_,_,_,_,_,_,_,_,_,_,_,_,_,_,_,_,_,_,_,_,_,_,_,_,_,_,_,_,_,_,_,_,_,_,_,_,_,_,_,_,_] _
    refine Qaa (v:=bool true) rfl rfl rfl (Qac (Qai rfl (Qad (Qag [0,1] rfl ?_))))
    refine Qaa (v:=int .i64 0) rfl rfl rfl ?_
    refine Qaa (v:=int .i64 2) rfl rfl rfl ?_
    show G _ _ _ _ [_,_,_,_,_,_,_,_,_,_,_,_,_,_,_,_,_,_,_,_,_,_,_,_,_,_,_,_,_,_,_,_,_,_,_,_,_,_,_,_,_,_,_,_,_,_,_,_] _
    refine Qac ?_
    obtain rfl:=QsJ H
    refine Qaq Tryz.func54 (v:=tuple #[int .i64 0,int .i64 2]) (resN (l:=Tryz.f54.results.toList) (vs:=[int .i64 0,int .i64 2]) rfl ⟨rfl,rfl,trivial⟩ (by simp)) ?_
    have hs:St _ [] _:=St.take (Γ':=[]) hs
    exact ⟨_,rfl,rfl,hs⟩
   intro hb
   rw [if_pos (b_not_f hb)] at H
   show G _ _ _ _ [_,_,_,_,_,_,_,_,_,_,_,_,_,_,_,_,_,_,_,_,_,_,_,_,_,_,_,_,_,_,_,_,_,_,_,_,_,_,_,_,_,_,_,_,_,_,_,_] _
   refine Qaa (v:=bool false) rfl rfl rfl ?_
   refine Qaa (v:=int .i64 a7) rfl rfl rfl ?_
   obtain ⟨r11,Hr11,H⟩:=bind_get H
   refine Qaw (args:=[int .i64 a7,int .i64 1,int .i64 100]) rfl rfl (Qax rfl (callFunc_enter Tryz.func46 rfl rfl) rfl) (Qa5.calls (a1:=a7) (a2:=1) (a3:=100) Hr11) ?_
   rintro _ w ⟨rfl,hs2⟩
   have hs:St _ [] _:=hs.call hs2
   refine Qaa (v:=bool (!r11)) rfl rfl rfl ?_
   refine Qas (B:=!r11) rfl rfl rfl ?_ ?_
   ·
    intro hb
    rw [if_neg (b_not_t hb)] at H
    refine Qaa (v:=bool true) rfl rfl rfl ?_
    show G _ _ _ _ [_,_,_,_,_,_,_,_,_,_,_,_,_,_,_,_,_,_,_,_,_,_,_,_,_,_,_,_,_,_,_,_,_,_,_,_,_,_,_,_,_,_,_,_,_,_,_,_] _
    refine Qac (Qai rfl (Qad (Qag [0,1] rfl ?_)))
    refine Qaa (v:=int .i64 0) rfl rfl rfl ?_
    refine Qaa (v:=int .i64 2) rfl rfl rfl (Qac ?_)
    obtain rfl:=QsJ H
    refine Qaq Tryz.func54 (v:=tuple #[int .i64 0,int .i64 2]) (resN (l:=Tryz.f54.results.toList) (vs:=[int .i64 0,int .i64 2]) rfl ⟨rfl,rfl,trivial⟩ (by simp)) ?_
    have hs:St _ [] _:=St.take (Γ':=[]) hs
    exact ⟨_,rfl,rfl,hs⟩
   intro hb
   rw [if_pos (b_not_f hb)] at H
   show G _ _ _ _ [_,_,_,_,_,_,_,_,_,_,_,_,_,_,_,_,_,_,_,_,_,_,_,_,_,_,_,_,_,_,_,_,_,_,_,_,_,_,_,_,_,_,_,_,_,_,_,_] _
   refine Qaa (v:=bool false) rfl rfl rfl (Qac (Qal rfl (Qay ?_)))
   refine QaH (Qad (Qag [0,1,2,3,4,5,6,7] rfl ?_))
   refine Qaa (v:=v2) rfl rfl rfl ?_
   refine Qaa (v:=v4) rfl rfl rfl ?_
   obtain ⟨r12,Hr12,H⟩:=bind_get H
   refine Qaw (args:=[v2,v4]) rfl rfl (Qax rfl (callFunc_enter Tryz.func40 rfl rfl) rfl) (Qaz.calls (a1:=a1) (a3:=a3) (hs.rd hr0) (hs.rd hr1) Hr12) ?_
   rintro _ w ⟨rfl,hs2⟩
   have hs:St _ [] _:=hs.call hs2
   refine Qaa (v:=tuple #[int .i64 r12.1,int .i64 r12.2]) rfl rfl rfl ?_
   refine Qaa (v:=int .i64 r12.1) rfl rfl rfl ?_
   refine Qaa (v:=int .i64 r12.2) rfl rfl rfl ?_
   refine Qaa (v:=int .i64 r12.1) rfl rfl rfl ?_
   show G _ _ _ _ [_,_,_,_,_,_,_,_,_,_,_,_,_,_,_,_,_,_,_,_,_,_,_,_,_,_,_,_,_,_,_,_,_,_,_,_,_,_,_,_,_,_,_,_,_,_,_,_] _
   refine Qaa (v:=int .i64 r12.2) rfl rfl rfl (Qac (Qad (Qag [0,1,2,3,4,5,6,7,8,9,10] rfl ?_)))
   refine Qaa (v:=int .i64 a5) rfl rfl rfl ?_
   refine Qaa (v:=int .i64 r12.1) rfl rfl rfl ?_
   refine Qaa (v:=int .i64 (i64w (a5+r12.1))) rfl rfl rfl ?_
   refine Qaa (v:=int .i64 a6) rfl rfl rfl ?_
   refine Qaa (v:=int .i64 (i64w ((i64w (a5+r12.1))*a6))) rfl rfl rfl ?_
   show G _ _ _ _ [_,_,_,_,_,_,_,_,_,_,_,_,_,_,_,_,_,_,_,_,_,_,_,_,_,_,_,_,_,_,_,_,_,_,_,_,_,_,_,_,_,_,_,_,_,_,_,_] _
   refine Qaa (v:=int .i64 r12.2) rfl rfl rfl ?_
   refine Qaa (v:=int .i64 a7) rfl rfl rfl ?_
   refine Qaa (v:=int .i64 (i64w (r12.2*a7))) rfl rfl rfl ?_
   obtain ⟨r13,Hr13,H⟩:=bind_get H
   refine Qaw (args:=[int .i64 (i64w ((i64w (a5+r12.1))*a6)),int .i64 (i64w (r12.2*a7))]) rfl rfl (Qax rfl (callFunc_enter Tryz.func72 rfl rfl) rfl) (QbH.calls (a1:=i64w ((i64w (a5+r12.1))*a6)) (a2:=i64w (r12.2*a7)) Hr13) ?_
   rintro _ w ⟨rfl,hs2⟩
   have hs:St _ [] _:=hs.call hs2
   refine Qaa (v:=int .i64 r13) rfl rfl rfl ?_
   show G _ _ _ _ [_,_,_,_,_,_,_,_,_,_,_,_,_,_,_,_,_,_,_,_,_,_,_,_,_,_,_,_,_,_,_,_,_,_,_,_,_,_,_,_,_,_,_,_,_,_,_,_] _
   refine Qaa (v:=int .i64 0) rfl rfl rfl (Qac ?_)
   obtain rfl:=QsJ H
   refine Qaq Tryz.func54 (v:=tuple #[int .i64 r13,int .i64 0]) (resN (l:=Tryz.f54.results.toList) (vs:=[int .i64 r13,int .i64 0]) rfl ⟨rfl,rfl,trivial⟩ (by simp)) ?_
   have hs:St _ [] _:=St.take (Γ':=[]) hs
   exact ⟨_,rfl,rfl,hs⟩
  |false=>
   rw [if_neg Bool.false_ne_true] at H
   refine Qaa (v:=bool true) rfl rfl rfl ?_
   refine Qaa (v:=bool true) rfl rfl rfl (Qab rfl rfl (Qab rfl rfl ?_))
   show G _ _ _ _ [_,_,_,_,_,_,_,_,_,_,_,_,_,_,_,_,_,_,_,_,_,_,_,_,_,_,_,_,_,_,_,_,_,_,_,_,_,_,_,_,_,_,_,_,_,_,_,_] _
   refine Qab rfl rfl ?_
   refine Qaa (v:=bool true) rfl rfl rfl ?_
   refine Qaa (v:=bool true) rfl rfl rfl (Qab rfl rfl (Qab rfl rfl ?_))
   show G _ _ _ _ [_,_,_,_,_,_,_,_,_,_,_,_,_,_,_,_,_,_,_,_,_,_,_,_,_,_,_,_,_,_,_,_,_,_,_,_,_,_,_,_,_,_,_,_,_,_,_,_] _
   refine Qab rfl rfl ?_
   refine Qaa (v:=bool true) rfl rfl rfl ?_
   refine Qaa (v:=bool true) rfl rfl rfl ?_
   show G _ _ _ _ [_,_,_,_,_,_,_,_,_,_,_,_,_,_,_,_,_,_,_,_,_,_,_,_,_,_,_,_,_,_,_,_,_,_,_,_,_,_,_,_,_,_,_,_,_,_,_,_] _
   refine Qac (Qai rfl (Qad (Qag [0,1] rfl ?_)))
   refine Qaa (v:=int .i64 0) rfl rfl rfl ?_
   refine Qaa (v:=int .i64 2) rfl rfl rfl (Qac ?_)
   obtain rfl:=QsJ H
   refine Qaq Tryz.func54 (v:=tuple #[int .i64 0,int .i64 2]) (resN (l:=Tryz.f54.results.toList) (vs:=[int .i64 0,int .i64 2]) rfl ⟨rfl,rfl,trivial⟩ (by simp)) ?_
   have hs:St _ [] _:=St.take (Γ':=[]) hs
   exact ⟨_,rfl,rfl,hs⟩
 |false=>
  rw [if_neg Bool.false_ne_true] at H
  show G _ _ _ _ [_,_,_,_,_,_,_,_,_,_,_,_,_,_,_,_,_,_,_,_,_,_,_,_,_,_,_,_,_,_,_,_,_,_,_,_,_,_,_,_,_,_,_,_,_,_,_,_] _
  refine Qaa (v:=bool true) rfl rfl rfl ?_
  refine Qaa (v:=bool true) rfl rfl rfl (Qac (Qai rfl (Qad (Qag [0,1] rfl ?_))))
  refine Qaa (v:=int .i64 0) rfl rfl rfl ?_
  show G _ _ _ _ [_,_,_,_,_,_,_,_,_,_,_,_,_,_,_,_,_,_,_,_,_,_,_,_,_,_,_,_,_,_,_,_,_,_,_,_,_,_,_,_,_,_,_,_,_,_,_,_] _
  refine Qaa (v:=int .i64 1) rfl rfl rfl (Qac ?_)
  obtain rfl:=QsJ H
  refine Qaq Tryz.func54 (v:=tuple #[int .i64 0,int .i64 1]) (resN (l:=Tryz.f54.results.toList) (vs:=[int .i64 0,int .i64 1]) rfl ⟨rfl,rfl,trivial⟩ (by simp)) ?_
  have hs:St _ [] _:=St.take (Γ':=[]) hs
  exact ⟨_,rfl,rfl,hs⟩
def Qbv.post (w0:World) (r:(Int×Int)) (v:Value) (w:World):Prop:=v=tuple #[int .i64 r.1,int .i64 r.2]∧St w0 [] w
theorem Qbv.calls {N:Nat} {a1:(List Int)} {a3:(List Int)} {a5:Int} {v2:Value} {v4:Value} {w0:World} {r:(Int×Int)} (hr0:RdRow (K.int .i16) w0 v2 a1) (hr1:RdRow (K.int .i8) w0 v4 a3) (H:Qbv.f N a1 a3 a5=some r):
 Calls Tryz.prog 23 #[v2,v4,int .i64 a5] w0 fun e w=>∃ v,e= .returned v∧Qbv.post w0 r v w:=by
 unfold Qbv.f at H
 have hs:St w0 [] w0:=St.refl w0
 refine calls_of_g (n:=11) Tryz.func23 rfl rfl ?_
 show G _ _ _ _ [_,_,_,_,_,_,_,_,_,_,_,_,_,_] _
 refine Qad (Qag [0,1] rfl ?_)
 refine Qaa (v:=int .i64 0) rfl rfl rfl ?_
 refine Qaa (v:=int .i64 0) rfl rfl rfl (Qac (Qad (Qag [0,1,2,3,4,5,6,7] rfl ?_)))
 refine Qaa (v:=v2) rfl rfl rfl ?_
 show G _ _ _ _ [_,_,_,_,_,_,_,_,_,_,_,_,_,_] _
 refine Qaa (v:=v4) rfl rfl rfl ?_
 refine Qaa (v:=int .i64 a5) rfl rfl rfl ?_
 obtain ⟨r6,Hr6,H⟩:=bind_get H
 refine Qaw (args:=[v2,v4,int .i64 a5,int .i64 1,int .i64 1]) rfl rfl (Qax rfl (callFunc_enter Tryz.func54 rfl rfl) rfl) (Qbo.calls (a1:=a1) (a3:=a3) (a5:=a5) (a6:=1) (a7:=1) (hs.rd hr0) (hs.rd hr1) Hr6) ?_
 rintro _ w ⟨rfl,hs2⟩
 have hs:St _ [] _:=hs.call hs2
 show G _ _ _ _ [_,_,_,_,_,_,_,_,_,_,_,_,_,_] _
 refine Qaa (v:=int .i64 r6.1) rfl rfl rfl ?_
 refine Qaa (v:=int .i64 r6.2) rfl rfl rfl ?_
 refine Qaa (v:=int .i64 r6.1) rfl rfl rfl ?_
 show G _ _ _ _ [_,_,_,_,_,_,_,_,_,_,_,_,_,_] _
 refine Qaa (v:=int .i64 r6.2) rfl rfl rfl (Qac ?_)
 obtain rfl:=QsJ H
 refine Qaq Tryz.func23 (v:=tuple #[int .i64 r6.1,int .i64 r6.2]) (resN (l:=Tryz.f23.results.toList) (vs:=[int .i64 r6.1,int .i64 r6.2]) rfl ⟨rfl,rfl,trivial⟩ (by simp)) ?_
 have hs:St _ [] _:=St.take (Γ':=[]) hs
 exact ⟨_,rfl,rfl,hs⟩
def QaM.post (w0:World) (r:((List Int)×Int)) (v:Value) (w:World):Prop:=∃ u1:Value,v=tuple #[u1,int .i64 r.2]∧St w0 [Row 2 (K.int .i64) u1 r.1] w
theorem QaM.calls {N:Nat} {a1:(List Int)} {a3:Bool} {v2:Value} {w0:World} {Q:((List Int)×Int)→Prop} (hr0:RdRow (K.int .i16) w0 v2 a1) (H:QaM.f N a1 a3 Q):
 Calls Tryz.prog 24 #[v2,bool a3] w0 fun e w=>∃ v,e= .returned v∧∃ r,Q r∧QaM.post w0 r v w:=by
 unfold QaM.f at H
 have hs:St w0 [] w0:=St.refl w0
 refine calls_of_g (n:=29) Tryz.func24 rfl rfl ?_
 show G _ _ _ _ [_,_,_,_,_,_,_,_,_,_,_,_,_,_,_,_,_,_,_,_,_,_,_,_,_,_,_,_,_,_,_] _
 refine Qad (Qag [0,1] rfl ?_)
 refine Qaa (v:=slice none 0 0) rfl rfl rfl ?_
 refine Qaa (v:=int .i64 0) rfl rfl rfl (Qac (Qad (Qad (Qag [0,1,2] rfl ?_))))
 refine Qaa (v:=v2) rfl rfl rfl ?_
 obtain ⟨r4,Hr4,H⟩:=H
 refine Qaw (args:=[v2]) rfl rfl (Qax rfl (callFunc_enter Tryz.func21 rfl rfl) rfl) (QaE.calls (a1:=a1) (hs.rd hr0) Hr4) ?_
 rintro _ w ⟨rfl,hs2⟩
 have hs:St _ [] _:=hs.call hs2
 cases r4 with
 |true=>
  rw [if_pos rfl] at H
  show G _ _ _ _ [_,_,_,_,_,_,_,_,_,_,_,_,_,_,_,_,_,_,_,_,_,_,_,_,_,_,_,_,_,_,_] _
  refine Qaa (v:=bool false) rfl rfl rfl (Qac (Qal rfl (Qay (Qad (Qag [0,1,2,3,4,5] rfl ?_)))))
  refine Qaa (v:=v2) rfl rfl rfl ?_
  refine Qaa (v:=bool a3) rfl rfl rfl ?_
  refine Qaw (args:=[v2,bool a3]) rfl rfl (Qax rfl (callFunc_enter Tryz.func39 rfl rfl) rfl) (Qa8.calls (a1:=a1) (a3:=a3) (hs.rd hr0) H) ?_
  rintro _ w ⟨r5,H,b6,b7,rfl,hs2⟩
  try dsimp only at H
  have hs:St _ [_,_] _:=hs.call hs2
  show G _ _ _ _ [_,_,_,_,_,_,_,_,_,_,_,_,_,_,_,_,_,_,_,_,_,_,_,_,_,_,_,_,_,_,_] _
  refine QbJ (κ:=(K.int .i64)) hs rfl rfl rfl rfl (fun _=>rfl) ?_
  intro v10 w hs
  show G _ _ _ _ [_,_,_,_,_,_,_,_,_,_,_,_,_,_,_,_,_,_,_,_,_,_,_,_,_,_,_,_,_,_,_] _
  refine Qaa (v:=Value.func (Fn.func 62) #[] #[pointer (some ⟨b6,0,none⟩)]) rfl rfl rfl ?_
  refine Qaa (v:=v10) rfl rfl rfl (Qac (Qad (Qad (Qag [0] rfl ?_))))
  refine Qaa (v:=int .i64 1) rfl rfl rfl ?_
  show G _ _ _ _ [_,_,_,_,_,_,_,_,_,_,_,_,_,_,_,_,_,_,_,_,_,_,_,_,_,_,_,_,_,_,_] _
  refine Qac ?_
  have Ho:=H
  refine QaC (J:=fun t w=>∃ v41:Value,∃ x42:(List Int),QaM.a0 N x42 Q∧Fr t (fun O=>([O 0,O 1,O 2,O 3,O 4,O 5,O 6,v41,O 8,O 9,O 10,O 11,O 12,O 13,O 14,O 15,O 16,O 17,O 18,O 19,O 20,O 21,O 22,O 23,O 24,O 25,O 26,O 27,O 28,O 29,O 30]:List Value))∧St w0 [Row 2 (K.int .i64) v41 x42] w) ?_ ?_
  ·
   rintro t w ⟨v41,x42,H,hf,hs⟩
   obtain ⟨O,rfl⟩:=hf.open
   show G _ _ _ _ [_,_,_,_,_,_,_,_,_,_,_,_,_,_,_,_,_,_,_,_,_,_,_,_,_,_,_,_,_,_,_] _
   unfold QaM.a0 at H
   refine Qad (Qag [0,1,2] rfl ?_)
   refine Qaa (v:=v41) rfl rfl rfl ?_
   refine Qaa (v:=v41) rfl rfl rfl ?_
   refine Qaa (v:=int .i64 0) rfl rfl rfl ?_
   show G _ _ _ _ [_,_,_,_,_,_,_,_,_,_,_,_,_,_,_,_,_,_,_,_,_,_,_,_,_,_,_,_,_,_,_] _
   refine Qac ?_
   refine Qaq Tryz.func24 (v:=tuple #[v41,int .i64 0]) (resN (l:=Tryz.f24.results.toList) (vs:=[v41,int .i64 0]) rfl ⟨rfl,rfl,trivial⟩ (by simp)) ?_
   have hs:=hs.pull 0 rfl
   have hs:St _ [_] _:=St.take (Γ':=[]) hs
   exact ⟨_,rfl,_,H,v41,rfl,hs⟩
  intro ha1_
  have hs:=hs.pull 0 rfl
  have hs:=hs.pull 1 rfl
  have hs:=hs.pull 2 rfl
  have hs:St _ [_,_,_] _:=St.take (Γ':=[]) hs
  refine QaP (I:=fun n_ t w=>∃ x26:(List (Int×Qah)),∃ v28:Value,∃ x29:(List Int),∃ x30:Int,roundsD (fun s=>QaM.b0 N a1 s.1 s.2.1 s.2.2) n_ (x26,x29,x30) (Ex.finD (fun s=>QaM.a0 N s Q) Q)∧Fr t (fun O=>([v2,O 1,O 2,O 3,O 4,O 5,Value.func (Fn.func 62) #[] #[pointer (some ⟨b6,0,none⟩)],v28,int .i64 x30,O 9,O 10,O 11,O 12,O 13,O 14,O 15,O 16,O 17,O 18,O 19,O 20,O 21,O 22,O 23,O 24,O 25,O 26,O 27,O 28,O 29,O 30]:List Value))∧St w0 [MapAs b7 (int .i64) QaJ x26,Cells b6 ([Value.map (some b7)]) 66,Row 2 (K.int .i64) v28 x29] w) N ⟨r5,v10,([]:List Int),1,Ho,rfl,hs⟩ ?_ ?_
  ·
   rintro _ _ ⟨x26,v28,x29,x30,h,_⟩
   exact (h:False).elim
  intro n_ ih1_
  rintro t w ⟨x26,v28,x29,x30,Ho,hf,hs⟩
  obtain ⟨O,rfl⟩:=hf.open
  show G _ _ _ _ [_,_,_,_,_,_,_,_,_,_,_,_,_,_,_,_,_,_,_,_,_,_,_,_,_,_,_,_,_,_,_] _
  obtain ⟨x3_,hQ1_,H⟩:=roundsD_succ Ho
  have H:QaM.b0 N a1 x26 x29 x30 x3_:=H
  unfold QaM.b0 at H
  refine Qad (Qad (Qag [0,1,2,3] rfl ?_))
  refine Qaa (v:=int .i64 x30) rfl rfl rfl ?_
  refine Qaa (v:=v2) rfl rfl rfl ?_
  obtain ⟨r31,Hr31,H⟩:=H
  refine Qaw (args:=[v2]) rfl rfl (Qax rfl (callFunc_enter Tryz.func49 rfl rfl) rfl) (QaF.calls (a1:=a1) (hs.rd hr0) Hr31) ?_
  rintro _ w ⟨rfl,hs2⟩
  have hs:St _ [_,_,_] _:=hs.call hs2
  refine Qas (B:=decide (x30≤r31)) rfl rfl rfl ?_ ?_
  ·
   intro hb
   rw [if_pos (b_dec_t hb)] at H
   show G _ _ _ _ [_,_,_,_,_,_,_,_,_,_,_,_,_,_,_,_,_,_,_,_,_,_,_,_,_,_,_,_,_,_,_] _
   refine Qac (Qai rfl (Qay (Qad ?_)))
   refine QaC (J:=(fun t w=>∃ x37:(List (Int×Qah)),∃ v38:Value,∃ x39:(List Int),QaM.j2 N x30 x37 x39 x3_∧Fr t (fun O=>([v2,O 1,O 2,O 3,O 4,O 5,Value.func (Fn.func 62) #[] #[pointer (some ⟨b6,0,none⟩)],v38,int .i64 x30,O 9,O 10,O 11,O 12,O 13,O 14,O 15,O 16,O 17,O 18,O 19,O 20,O 21,O 22,O 23,O 24,O 25,O 26,O 27,O 28,O 29,O 30]:List Value))∧St w0 [Cells b6 ([Value.map (some b7)]) 66,MapAs b7 (int .i64) QaJ x37,Row 2 (K.int .i64) v38 x39] w)) ?_ ?_
   ·
    rintro t w ⟨x37,v38,x39,H,hf,hs⟩
    obtain ⟨O,rfl⟩:=hf.open
    show G _ _ _ _ [_,_,_,_,_,_,_,_,_,_,_,_,_,_,_,_,_,_,_,_,_,_,_,_,_,_,_,_,_,_,_] _
    unfold QaM.j2 at H
    refine Qag [0,1,2] rfl ?_
    refine Qaa (v:=int .i64 x30) rfl rfl rfl ?_
    refine Qaa (v:=int .i64 (i64w (x30+1))) rfl rfl rfl ?_
    refine Qaa (v:=int .i64 (i64w (x30+1))) rfl rfl rfl ?_
    show G _ _ _ _ [_,_,_,_,_,_,_,_,_,_,_,_,_,_,_,_,_,_,_,_,_,_,_,_,_,_,_,_,_,_,_] _
    refine Qac ?_
    have hs:=hs.pull 2 rfl
    have hs:=hs.pull 1 rfl
    have hs:=hs.pull 2 rfl
    have hs:St _ [_,_,_] _:=St.take (Γ':=[]) hs
    exact ih1_ _ _ ⟨x37,v38,x39,i64w (x30+1),cast (congrFun hQ1_ _) H,rfl,hs⟩
   intro ha
   refine Qad (Qag [0,1,2,3] rfl ?_)
   refine Qaa (v:=Value.func (Fn.func 62) #[] #[pointer (some ⟨b6,0,none⟩)]) rfl rfl rfl ?_
   refine Qaa (v:=int .i64 x30) rfl rfl rfl ?_
   obtain ⟨r32,Hr32,H⟩:=H
   have hs:=hs.pull 1 rfl
   have hs:St _ [_,_,_] _:=hs.pull 1 rfl
   have hs:=hs.pack 2
   refine Qaw (args:=[int .i64 x30,pointer (some ⟨b6,0,none⟩)]) rfl rfl (Qb4 rfl (callFunc_enter Tryz.func62 rfl rfl) rfl rfl) (Qa4.calls (a1:=x30) (a2:=x26) hs Hr32) ?_
   rintro _ w ⟨rfl,hs⟩
   have hs:=St.unpack (Γ:=[_,_]) hs
   have hs:St _ [_,_,_] _:=hs
   generalize hb2_:r32.1=b_ at H ⊢
   cases b_ with
   |true=>
    rw [if_pos rfl] at H
    refine Qaa (v:=bool false) rfl rfl rfl (Qac (Qal rfl (Qay ?_)))
    refine QaH ?_
    have hs:=hs.pull 2 rfl
    have hs:=hs.pull 1 rfl
    have hs:=hs.pull 2 rfl
    have hs:St _ [_,_,_] _:=St.take (Γ':=[]) hs
    exact ha _ _ ⟨r32.2.1,v28,x29,H,rfl,hs⟩
   |false=>
    rw [if_neg Bool.false_ne_true] at H
    refine Qaa (v:=bool true) rfl rfl rfl (Qac (Qai rfl (Qag [0,1,2,3,4] rfl ?_)))
    refine Qaa (v:=v28) rfl rfl rfl ?_
    refine Qaa (v:=int .i64 x30) rfl rfl rfl ?_
    show G _ _ _ _ [_,_,_,_,_,_,_,_,_,_,_,_,_,_,_,_,_,_,_,_,_,_,_,_,_,_,_,_,_,_,_] _
    refine QbL (fkI .i64) (y:=x30) hs rfl rfl rfl rfl (fun _=>rfl) (zv:=(int .i64 0)) (fun _=>rfl) rfl (by decide) (by decide) rfl ?_
    intro v33 w hs
    have hs:St _ [_,_,_,_] _:=hs.pull 3 rfl
    obtain ⟨g,H⟩:=ite_getD H
    refine QbI (fkI .i64) (zv:=(int .i64 0)) (B:=8) hs (hs.row 1 rfl) rfl rfl rfl rfl rfl rfl rfl rfl rfl (by decide) rfl rfl (by decide) (by omega) ?_
    intro v35 w hs
    refine Qaa (v:=v35) rfl rfl rfl ?_
    show G _ _ _ _ [_,_,_,_,_,_,_,_,_,_,_,_,_,_,_,_,_,_,_,_,_,_,_,_,_,_,_,_,_,_,_] _
    refine Qac ?_
    refine QaH ?_
    have hs:=hs.pull 0 rfl
    have hs:=hs.pull 2 rfl
    have hs:=hs.pull 3 rfl
    have hs:St _ [_,_,_] _:=St.take (Γ':=[_]) hs
    exact ha _ _ ⟨r32.2.1,v35,x29++([x30]),H,rfl,hs⟩
  intro hb
  rw [if_neg (b_dec_f hb)] at H
  refine Qac (Qal rfl ?_)
  have hs:=hs.pull 2 rfl
  have hs:St _ [_] _:=St.take (Γ':=[_,_]) hs
  refine Qbc rfl ?_
  exact ha1_ _ _ ⟨v28,x29,cast (congrFun hQ1_ _) H,rfl,hs⟩
 |false=>
  rw [if_neg Bool.false_ne_true] at H
  show G _ _ _ _ [_,_,_,_,_,_,_,_,_,_,_,_,_,_,_,_,_,_,_,_,_,_,_,_,_,_,_,_,_,_,_] _
  refine Qaa (v:=bool true) rfl rfl rfl (Qac (Qai rfl (Qad (Qag [0,1] rfl ?_))))
  refine Qaa (v:=slice none 0 0) rfl rfl rfl ?_
  refine Qaa (v:=int .i64 1) rfl rfl rfl ?_
  show G _ _ _ _ [_,_,_,_,_,_,_,_,_,_,_,_,_,_,_,_,_,_,_,_,_,_,_,_,_,_,_,_,_,_,_] _
  refine Qac ?_
  refine Qaq Tryz.func24 (v:=tuple #[slice none 0 0,int .i64 1]) (resN (l:=Tryz.f24.results.toList) (vs:=[slice none 0 0,int .i64 1]) rfl ⟨rfl,rfl,trivial⟩ (by simp)) ?_
  have hs:=hs.nil 2 (K.int .i64)
  have hs:=hs.pull 0 rfl
  have hs:St _ [_] _:=St.take (Γ':=[]) hs
  exact ⟨_,rfl,_,H,(slice none 0 0),rfl,hs⟩
def QaT.post (w0:World) (r:Int) (v:Value) (w:World):Prop:=v=int .i64 r∧St w0 [] w
theorem QaT.calls {N:Nat} {a1:(List Int)} {a3:Bool} {v2:Value} {w0:World} {Q:Int→Prop} (hr0:RdRow (K.int .i16) w0 v2 a1) (H:QaT.f N a1 a3 Q):
 Calls Tryz.prog 55 #[v2,bool a3] w0 fun e w=>∃ v,e= .returned v∧∃ r,Q r∧QaT.post w0 r v w:=by
 unfold QaT.f at H
 have hs:St w0 [] w0:=St.refl w0
 refine calls_of_g (n:=15) Tryz.func55 rfl rfl ?_
 show G _ _ _ _ [_,_,_,_,_,_,_,_,_,_,_,_,_,_,_,_,_] _
 refine Qad (Qag [0] rfl ?_)
 refine Qaa (v:=int .i64 0) rfl rfl rfl ?_
 show G _ _ _ _ [_,_,_,_,_,_,_,_,_,_,_,_,_,_,_,_,_] _
 refine Qac (Qad (Qag [0,1,2,3,4] rfl ?_))
 refine Qaa (v:=v2) rfl rfl rfl ?_
 refine Qaa (v:=bool a3) rfl rfl rfl ?_
 refine Qaw (args:=[v2,bool a3]) rfl rfl (Qax rfl (callFunc_enter Tryz.func39 rfl rfl) rfl) (Qa8.calls (a1:=a1) (a3:=a3) (hs.rd hr0) H) ?_
 rintro _ w ⟨r4,H,b5,b6,rfl,hs2⟩
 try dsimp only at H
 have hs:St _ [_,_] _:=hs.call hs2
 show G _ _ _ _ [_,_,_,_,_,_,_,_,_,_,_,_,_,_,_,_,_] _
 refine Qaa (v:=Value.func (Fn.func 62) #[] #[pointer (some ⟨b5,0,none⟩)]) rfl rfl rfl ?_
 refine Qaa (v:=int .i64 0) rfl rfl rfl (Qac (Qad ?_))
 have Ho:=H
 refine QaC (J:=fun t w=>∃ x14:Int,QaT.a0 N x14 Q∧Fr t (fun O=>([O 0,O 1,O 2,O 3,O 4,O 5,int .i64 x14,O 7,O 8,O 9,O 10,O 11,O 12,O 13,O 14,O 15,O 16]:List Value))∧St w0 [] w) ?_ ?_
 ·
  rintro t w ⟨x14,H,hf,hs⟩
  obtain ⟨O,rfl⟩:=hf.open
  show G _ _ _ _ [_,_,_,_,_,_,_,_,_,_,_,_,_,_,_,_,_] _
  unfold QaT.a0 at H
  refine Qad (Qag [0,1] rfl ?_)
  refine Qaa (v:=int .i64 x14) rfl rfl rfl ?_
  refine Qaa (v:=int .i64 x14) rfl rfl rfl ?_
  show G _ _ _ _ [_,_,_,_,_,_,_,_,_,_,_,_,_,_,_,_,_] _
  refine Qac ?_
  refine Qaq Tryz.func55 (v:=int .i64 x14) (res1 rfl rfl) ?_
  have hs:St _ [] _:=St.take (Γ':=[]) hs
  exact ⟨_,rfl,_,H,rfl,hs⟩
 intro ha1_
 have hs:=hs.pull 0 rfl
 have hs:=hs.pull 1 rfl
 have hs:St _ [_,_] _:=St.take (Γ':=[]) hs
 refine QaP (I:=fun n_ t w=>∃ x11:(List (Int×Qah)),∃ x12:Int,roundsD (fun s=>QaT.b0 N s.1 s.2) n_ (x11,x12) (Ex.finD (fun s=>QaT.a0 N s Q) Q)∧Fr t (fun O=>([O 0,O 1,O 2,O 3,O 4,Value.func (Fn.func 62) #[] #[pointer (some ⟨b5,0,none⟩)],int .i64 x12,O 7,O 8,O 9,O 10,O 11,O 12,O 13,O 14,O 15,O 16]:List Value))∧St w0 [MapAs b6 (int .i64) QaJ x11,Cells b5 ([Value.map (some b6)]) 66] w) N ⟨r4,0,Ho,rfl,hs⟩ ?_ ?_
 ·
  rintro _ _ ⟨x11,x12,h,_⟩
  exact (h:False).elim
 intro n_ ih1_
 rintro t w ⟨x11,x12,Ho,hf,hs⟩
 obtain ⟨O,rfl⟩:=hf.open
 show G _ _ _ _ [_,_,_,_,_,_,_,_,_,_,_,_,_,_,_,_,_] _
 obtain ⟨x3_,hQ1_,H⟩:=roundsD_succ Ho
 have H:QaT.b0 N x11 x12 x3_:=H
 unfold QaT.b0 at H
 refine Qad (Qad (Qag [0,1,2,3] rfl ?_))
 refine Qaa (v:=Value.func (Fn.func 62) #[] #[pointer (some ⟨b5,0,none⟩)]) rfl rfl rfl ?_
 show G _ _ _ _ [_,_,_,_,_,_,_,_,_,_,_,_,_,_,_,_,_] _
 refine Qaa (v:=int .i64 x12) rfl rfl rfl ?_
 refine Qaa (v:=int .i64 (i64w (x12+1))) rfl rfl rfl ?_
 obtain ⟨r13,Hr13,H⟩:=H
 have hs:=hs.pull 1 rfl
 have hs:St _ [_,_] _:=hs.pull 1 rfl
 have hs:=hs.pack 2
 refine Qaw (args:=[int .i64 (i64w (x12+1)),pointer (some ⟨b5,0,none⟩)]) rfl rfl (Qb4 rfl (callFunc_enter Tryz.func62 rfl rfl) rfl rfl) (Qa4.calls (a1:=i64w (x12+1)) (a2:=x11) hs Hr13) ?_
 rintro _ w ⟨rfl,hs⟩
 have hs:=St.unpack (Γ:=[_,_]) hs
 have hs:St _ [_,_] _:=hs
 generalize hb2_:r13.1=b_ at H ⊢
 cases b_ with
 |true=>
  rw [if_pos rfl] at H
  refine Qac (Qai rfl (Qay ?_))
  refine Qbe (Qag [0,1,2] rfl ?_)
  refine Qaa (v:=int .i64 x12) rfl rfl rfl ?_
  refine Qaa (v:=int .i64 (i64w (x12+1))) rfl rfl rfl ?_
  show G _ _ _ _ [_,_,_,_,_,_,_,_,_,_,_,_,_,_,_,_,_] _
  refine Qaa (v:=int .i64 (i64w (x12+1))) rfl rfl rfl (Qac ?_)
  refine QaH ?_
  have hs:=hs.pull 1 rfl
  have hs:=hs.pull 1 rfl
  have hs:St _ [_,_] _:=St.take (Γ':=[]) hs
  exact ih1_ _ _ ⟨r13.2.1,i64w (x12+1),cast (congrFun hQ1_ _) H,rfl,hs⟩
 |false=>
  rw [if_neg Bool.false_ne_true] at H
  show G _ _ _ _ [_,_,_,_,_,_,_,_,_,_,_,_,_,_,_,_,_] _
  refine Qac (Qal rfl ?_)
  have hs:St _ [] _:=St.take (Γ':=[_,_]) hs
  refine Qbc rfl ?_
  exact ha1_ _ _ ⟨x12,cast (congrFun hQ1_ _) H,rfl,hs⟩
def QbE.post (w0:World) (r:(Int×Int)) (v:Value) (w:World):Prop:=v=tuple #[int .i64 r.1,int .i64 r.2]∧St w0 [] w
theorem QbE.calls {N:Nat} {a1:(List Int)} {a3:Bool} {v2:Value} {w0:World} {Q:(Int×Int)→Prop} (hr0:RdRow (K.int .i16) w0 v2 a1) (H:QbE.f N a1 a3 Q):
 Calls Tryz.prog 25 #[v2,bool a3] w0 fun e w=>∃ v,e= .returned v∧∃ r,Q r∧QbE.post w0 r v w:=by
 unfold QbE.f at H
 have hs:St w0 [] w0:=St.refl w0
 refine calls_of_g (n:=10) Tryz.func25 rfl rfl ?_
 show G _ _ _ _ [_,_,_,_,_,_,_,_,_,_,_,_] _
 refine Qad (Qag [0,1] rfl ?_)
 refine Qaa (v:=int .i64 0) rfl rfl rfl ?_
 refine Qaa (v:=int .i64 0) rfl rfl rfl (Qac (Qad (Qad (Qag [0,1,2] rfl ?_))))
 refine Qaa (v:=v2) rfl rfl rfl ?_
 show G _ _ _ _ [_,_,_,_,_,_,_,_,_,_,_,_] _
 obtain ⟨r4,Hr4,H⟩:=H
 refine Qaw (args:=[v2]) rfl rfl (Qax rfl (callFunc_enter Tryz.func21 rfl rfl) rfl) (QaE.calls (a1:=a1) (hs.rd hr0) Hr4) ?_
 rintro _ w ⟨rfl,hs2⟩
 have hs:St _ [] _:=hs.call hs2
 cases r4 with
 |true=>
  rw [if_pos rfl] at H
  refine Qaa (v:=bool false) rfl rfl rfl (Qac (Qal rfl (Qay (Qad (Qag [0,1,2,3,4] rfl ?_)))))
  refine Qaa (v:=v2) rfl rfl rfl ?_
  show G _ _ _ _ [_,_,_,_,_,_,_,_,_,_,_,_] _
  refine Qaa (v:=bool a3) rfl rfl rfl ?_
  refine Qaw (args:=[v2,bool a3]) rfl rfl (Qax rfl (callFunc_enter Tryz.func55 rfl rfl) rfl) (QaT.calls (a1:=a1) (a3:=a3) (hs.rd hr0) H) ?_
  rintro _ w ⟨r5,H,rfl,hs2⟩
  try dsimp only at H
  have hs:St _ [] _:=hs.call hs2
  refine Qaa (v:=int .i64 r5) rfl rfl rfl ?_
  show G _ _ _ _ [_,_,_,_,_,_,_,_,_,_,_,_] _
  refine Qaa (v:=int .i64 0) rfl rfl rfl (Qac ?_)
  refine Qaq Tryz.func25 (v:=tuple #[int .i64 r5,int .i64 0]) (resN (l:=Tryz.f25.results.toList) (vs:=[int .i64 r5,int .i64 0]) rfl ⟨rfl,rfl,trivial⟩ (by simp)) ?_
  have hs:St _ [] _:=St.take (Γ':=[]) hs
  exact ⟨_,rfl,_,H,rfl,hs⟩
 |false=>
  rw [if_neg Bool.false_ne_true] at H
  refine Qaa (v:=bool true) rfl rfl rfl (Qac (Qai rfl (Qad (Qag [0,1] rfl ?_))))
  refine Qaa (v:=int .i64 0) rfl rfl rfl ?_
  show G _ _ _ _ [_,_,_,_,_,_,_,_,_,_,_,_] _
  refine Qaa (v:=int .i64 1) rfl rfl rfl (Qac ?_)
  refine Qaq Tryz.func25 (v:=tuple #[int .i64 0,int .i64 1]) (resN (l:=Tryz.f25.results.toList) (vs:=[int .i64 0,int .i64 1]) rfl ⟨rfl,rfl,trivial⟩ (by simp)) ?_
  have hs:St _ [] _:=St.take (Γ':=[]) hs
  exact ⟨_,rfl,_,H,rfl,hs⟩
end Go.Proofs.YtmineidejeacnaaGreatDoorX
