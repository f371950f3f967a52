import Derived.Test.YtgpdpedpmhonkaaProg
import Derived.Test.YtgpdpedpmhonkaaP3
import Derived.Test.YtgpdpedpmhonkaaP4
import Derived.Test.YtgpdpedpmhonkaaP5
import Derived.Test.YtgpdpedpmhonkaaP6
import Derived.Test.YtgpdpedpmhonkaaP7
import Derived.Test.YtgpdpedpmhonkaaP9
namespace Go.Proofs.YtgpdpedpmhonkaaX
open Go Go.RowKit Go.Proofs
open Go.Value (int pointer bool agg slice string tuple)
set_option maxHeartbeats 8000000
set_option maxRecDepth 100000
set_option linter.unusedVariables false
set_option linter.unusedSimpArgs false
def Qca.post (w0:World) (r:ByteArray) (v:Value) (w:World):Prop:=v=string r∧St w0 [] w
theorem Qca.calls {N:Nat} {a1:Qaq} {a2:(Ar Int 14)} {w0:World} {r:ByteArray} (H:Qca.f N a1 a2=some r):
 Calls Try.prog 19 #[agg (Qae a1).toArray,agg ((encA (encI .i8)) a2).toArray] w0 fun e w=>∃ v,e= .returned v∧Qca.post w0 r v w:=by
 unfold Qca.f at H
 have hs:St w0 [] w0:=St.refl w0
 refine calls_of_g (n:=17) Try.func19 rfl rfl ?_
 show G _ _ _ _ [_,_,_,_,_,_,_,_,_,_,_,_,_,_,_,_,_,_,_] _
 refine Qag (Qan [0,1,2] rfl ?_)
 refine Qbw hs rfl rfl (cs:=(Qae a1)) rfl rfl ?_
 intro b3 w hs
 refine Qbw hs rfl rfl (cs:=((encA (encI .i8)) a2)) rfl rfl ?_
 intro b5 w hs
 refine Qab (v:=string (⟨#[]⟩:ByteArray)) rfl rfl rfl ?_
 show G _ _ _ _ [_,_,_,_,_,_,_,_,_,_,_,_,_,_,_,_,_,_,_] _
 refine Qaa (Qag (Qag (Qan [0,1,2,3] rfl ?_)))
 refine QaG rfl rfl (es:=(Qae a1)) rfl rfl (fun _=>rfl) (n:=4) (fun _=>rfl) (QaJ.len _) (cells_all (hs.cells 1 rfl)) ?_
 refine QaG rfl rfl (es:=((encA (encI .i8)) a2)) rfl rfl (fun _=>rfl) (n:=14) (fun _=>rfl) ((fkA (n:=14) (he:=(fkI .i8).len) (h1:=(fkI .i8).one)).len _) (cells_all (hs.cells 0 rfl)) ?_
 obtain ⟨r7,Hr7,H⟩:=bind_get H
 refine QaP (args:=[agg (Qae a1).toArray,agg ((encA (encI .i8)) a2).toArray]) rfl rfl (QaT rfl (callFunc_enter Try.func22 rfl rfl) rfl) (QaW.calls (a1:=a1) (a2:=a2) Hr7) ?_
 rintro _ w ⟨rfl,hs2⟩
 have hs:St _ [_,_] _:=hs.call hs2
 cases r7 with
 |true=>
  rw [if_pos rfl] at H
  refine Qab (v:=bool false) rfl rfl rfl (Qaa (Qax rfl (QaS (Qag (Qan [0,1,2,3,4,5,6,7,8] rfl ?_)))))
  refine QaG rfl rfl (es:=(Qae a1)) rfl rfl (fun _=>rfl) (n:=4) (fun _=>rfl) (QaJ.len _) (cells_all (hs.cells 1 rfl)) ?_
  show G _ _ _ _ [_,_,_,_,_,_,_,_,_,_,_,_,_,_,_,_,_,_,_] _
  obtain ⟨r8,Hr8,H⟩:=bind_get H
  refine QaP (args:=[agg (Qae a1).toArray]) rfl rfl (QaT rfl (callFunc_enter Try.func47 rfl rfl) rfl) (QbS.calls (a1:=a1) Hr8) ?_
  rintro _ w ⟨rfl,hs2⟩
  have hs:St _ [_,_] _:=hs.call hs2
  obtain ⟨g1,H⟩:=ite_get H
  refine Qab (v:=subV (slice (some ⟨b5,0,none⟩) 14 14) 1 ((0:Int)).toNat (r8).toNat) rfl rfl (Qdy rfl rfl (fun _=>rfl) rfl rfl g1.1 g1.2) ?_
  obtain ⟨r9,Hr9,H⟩:=bind_get H
  refine QaP (args:=[subV (slice (some ⟨b5,0,none⟩) 14 14) 1 ((0:Int)).toNat (r8).toNat]) rfl rfl (QaT rfl (callFunc_enter Try.func48 rfl rfl) rfl) (QbV.calls (a1:=(a2.l.drop ((0:Int)).toNat).take ((r8).toNat - ((0:Int)).toNat)) (rdSub (rdBox (fkI .i8) (hs.cells 0 rfl)) 1 rfl (Int.le_refl 0) g1.1 (by rw [Ar.h];exact g1.2)) Hr9) ?_
  rintro _ w ⟨rfl,hs2⟩
  have hs:St _ [_,_] _:=hs.call hs2
  show G _ _ _ _ [_,_,_,_,_,_,_,_,_,_,_,_,_,_,_,_,_,_,_] _
  refine Qab (v:=tuple #[string r9.1,bool r9.2]) rfl rfl rfl ?_
  refine Qab (v:=string r9.1) rfl rfl rfl ?_
  refine Qab (v:=bool r9.2) rfl rfl rfl ?_
  show G _ _ _ _ [_,_,_,_,_,_,_,_,_,_,_,_,_,_,_,_,_,_,_] _
  refine Qab (v:=string r9.1) rfl rfl rfl ?_
  refine Qab (v:=bool r9.2) rfl rfl rfl (Qaa (Qag (Qan [0,1] rfl ?_)))
  refine Qab (v:=string r9.1) rfl rfl rfl ?_
  show G _ _ _ _ [_,_,_,_,_,_,_,_,_,_,_,_,_,_,_,_,_,_,_] _
  refine Qab (v:=string r9.1) rfl rfl rfl (Qaa ?_)
  obtain rfl:=QsJ H
  refine QaK Try.func19 (v:=string r9.1) (res1 rfl rfl) ?_
  have hs:St _ [] _:=St.take (Γ':=[_,_]) hs
  exact ⟨_,rfl,rfl,hs⟩
 |false=>
  rw [if_neg Bool.false_ne_true] at H
  show G _ _ _ _ [_,_,_,_,_,_,_,_,_,_,_,_,_,_,_,_,_,_,_] _
  refine Qab (v:=bool true) rfl rfl rfl (Qaa (Qaw rfl (Qag (Qan [0] rfl ?_))))
  refine Qab (v:=string (⟨#[]⟩:ByteArray)) rfl rfl rfl (Qaa ?_)
  obtain rfl:=QsJ H
  refine QaK Try.func19 (v:=string (⟨#[]⟩:ByteArray)) (res1 rfl rfl) ?_
  have hs:St _ [] _:=St.take (Γ':=[_,_]) hs
  exact ⟨_,rfl,rfl,hs⟩
def strings_IndexByte.post (w0:World) (r:Int) (v:Value) (w:World):Prop:=v=int .i64 r∧St w0 [] w
theorem strings_IndexByte.calls {N:Nat} {a1:ByteArray} {a2:Int} {w0:World} {r:Int} (H:strings_IndexByte.f N a1 a2=some r):
 Calls Try.prog 74 #[.string a1, .int .u8 a2] w0 fun e w=>∃ v,e= .returned v∧strings_IndexByte.post w0 r v w:=by
 obtain rfl:=QsJ H
 exact (Try.strings_IndexByte a1 a2 w0).mono fun e w ⟨he,hw⟩=>⟨_,he,rfl,by rw [hw];exact St.refl _⟩
def QbB.post (w0:World) (r:((List Int)×Bool)) (v:Value) (w:World):Prop:=∃ u1:Value,v=tuple #[u1,bool r.2]∧St w0 [Row 22 (K.int .i8) u1 r.1] w
theorem QbB.calls {N:Nat} {a1:ByteArray} {w0:World} {r:((List Int)×Bool)} (H:QbB.f N a1=some r):
 Calls Try.prog 46 #[string a1] w0 fun e w=>∃ v,e= .returned v∧QbB.post w0 r v w:=by
 unfold QbB.f at H
 have hs:St w0 [] w0:=St.refl w0
 refine calls_of_g (n:=26) Try.func46 rfl rfl ?_
 show G _ _ _ _ [_,_,_,_,_,_,_,_,_,_,_,_,_,_,_,_,_,_,_,_,_,_,_,_,_,_,_] _
 refine Qag (Qan [0,1] rfl ?_)
 refine Qab (v:=slice none 0 0) rfl rfl rfl ?_
 refine Qab (v:=bool false) rfl rfl rfl ?_
 show G _ _ _ _ [_,_,_,_,_,_,_,_,_,_,_,_,_,_,_,_,_,_,_,_,_,_,_,_,_,_,_] _
 refine Qaa (Qag (Qan [0,1] rfl ?_))
 refine QcU (κ:=(K.int .i8)) hs rfl rfl rfl rfl (fun _=>rfl) ?_
 intro v2 w hs
 refine Qab (v:=v2) rfl rfl rfl (Qaa (Qag (Qag (Qan [0,1,2] rfl ?_))))
 refine Qab (v:=string a1) rfl rfl rfl ?_
 refine Qab (v:=int .i64 (a1.size:Int)) rfl rfl (QdM rfl rfl rfl) ?_
 show G _ _ _ _ [_,_,_,_,_,_,_,_,_,_,_,_,_,_,_,_,_,_,_,_,_,_,_,_,_,_,_] _
 refine Qab (v:=int .i64 0) rfl rfl rfl (Qaa ?_)
 obtain ⟨o1_,Ho,Hr1_⟩:=bind_get H
 refine Qa2 (J:=fun t w=>∃ v13:Value,∃ x14:(List Int),QbB.a0 N x14=some r∧Fr t (fun O=>([O 0,O 1,O 2,O 3,v13,O 5,O 6,O 7,O 8,O 9,O 10,O 11,O 12,O 13,O 14,O 15,O 16,O 17,O 18,O 19,O 20,O 21,O 22,O 23,O 24,O 25,O 26]:List Value))∧St w0 [Row 22 (K.int .i8) v13 x14] w) ?_ ?_
 ·
  rintro t w ⟨v13,x14,H,hf,hs⟩
  obtain ⟨O,rfl⟩:=hf.open
  show G _ _ _ _ [_,_,_,_,_,_,_,_,_,_,_,_,_,_,_,_,_,_,_,_,_,_,_,_,_,_,_] _
  unfold QbB.a0 at H
  refine Qag (Qan [0,1,2] rfl ?_)
  refine Qab (v:=v13) rfl rfl rfl ?_
  refine Qab (v:=v13) rfl rfl rfl ?_
  refine Qab (v:=bool true) rfl rfl rfl ?_
  show G _ _ _ _ [_,_,_,_,_,_,_,_,_,_,_,_,_,_,_,_,_,_,_,_,_,_,_,_,_,_,_] _
  refine Qaa ?_
  obtain rfl:=QsJ H
  refine QaK Try.func46 (v:=tuple #[v13,bool true]) (resN (l:=Try.f46.results.toList) (vs:=[v13,bool true]) rfl ⟨rfl,rfl,trivial⟩ (by simp)) ?_
  have hs:=hs.pull 0 rfl
  have hs:St _ [_] _:=St.take (Γ':=[]) hs
  exact ⟨_,rfl,v13,rfl,hs⟩
 intro ha1_
 have hs:=hs.pull 0 rfl
 have hs:St _ [_] _:=St.take (Γ':=[]) hs
 refine Qbk (I:=fun n_ t w=>∃ v5:Value,∃ x6:(List Int),∃ x7:Int,rounds (fun s=>QbB.b0 N a1 s.1 s.2) n_ (x6,x7)=some o1_∧Fr t (fun O=>([string a1,O 1,O 2,O 3,v5,O 5,O 6,O 7,O 8,int .i64 (a1.size:Int),int .i64 x7,O 11,O 12,O 13,O 14,O 15,O 16,O 17,O 18,O 19,O 20,O 21,O 22,O 23,O 24,O 25,O 26]:List Value))∧St w0 [Row 22 (K.int .i8) v5 x6] w) N ⟨v2,([]:List Int),0,Ho,rfl,hs⟩ ?_ ?_
 ·
  rintro _ _ ⟨v5,x6,x7,h,_⟩
  exact rounds_zero h
 intro n_ ih1_
 rintro t w ⟨v5,x6,x7,Ho,hf,hs⟩
 obtain ⟨O,rfl⟩:=hf.open
 show G _ _ _ _ [_,_,_,_,_,_,_,_,_,_,_,_,_,_,_,_,_,_,_,_,_,_,_,_,_,_,_] _
 obtain ⟨x2_,H,Hx1_⟩:=rounds_succ Ho
 have H:QbB.b0 N a1 x6 x7=some x2_:=H
 unfold QbB.b0 at H
 refine Qag (Qan [0] rfl ?_)
 refine QaR (B:=decide (x7< (a1.size:Int))) rfl rfl rfl ?_ ?_
 ·
  intro hb
  rw [if_pos (b_dec_t hb)] at H
  refine Qaa (Qag (Qaw rfl (QaS (Qag ?_))))
  refine QbP (Qag (Qan [0,1] rfl ?_))
  refine Qab (v:=int .i64 x7) rfl rfl rfl ?_
  refine Qab (v:=int .i64 x7) rfl rfl rfl ?_
  show G _ _ _ _ [_,_,_,_,_,_,_,_,_,_,_,_,_,_,_,_,_,_,_,_,_,_,_,_,_,_,_] _
  refine Qaa (Qag (Qan [0,1,2,3,4] rfl ?_))
  refine Qab (v:=string a1) rfl rfl rfl ?_
  refine Qab (v:=int .i64 x7) rfl rfl rfl ?_
  obtain ⟨g1,H⟩:=ite_get H
  refine Qab (v:=int .u8 (btS a1 x7)) rfl rfl (Qdo rfl rfl rfl rfl g1.1 g1.2) ?_
  obtain ⟨r8,Hr8,H⟩:=bind_get H
  refine QaP (args:=[string (⟨#[45,48,43]⟩:ByteArray),int .u8 (btS a1 x7)]) rfl rfl (QaT rfl (callFunc_enter Try.func74 rfl rfl) rfl) (strings_IndexByte.calls (a1:=(⟨#[45,48,43]⟩:ByteArray)) (a2:=btS a1 x7) Hr8) ?_
  rintro _ w ⟨rfl,hs2⟩
  have hs:St _ [_] _:=hs.call hs2
  refine Qab (v:=int .i64 r8) rfl rfl rfl ?_
  show G _ _ _ _ [_,_,_,_,_,_,_,_,_,_,_,_,_,_,_,_,_,_,_,_,_,_,_,_,_,_,_] _
  refine Qaa (Qag (Qag (Qan [0,1] rfl ?_)))
  refine Qab (v:=int .i64 r8) rfl rfl rfl ?_
  refine QaR (B:=decide (r8< 0)) rfl rfl rfl ?_ ?_
  ·
   intro hb
   rw [if_pos (b_dec_t hb)] at H
   refine Qaa (Qaw rfl (Qag (Qan [0,1] rfl ?_)))
   refine Qab (v:=slice none 0 0) rfl rfl rfl ?_
   show G _ _ _ _ [_,_,_,_,_,_,_,_,_,_,_,_,_,_,_,_,_,_,_,_,_,_,_,_,_,_,_] _
   refine Qab (v:=bool false) rfl rfl rfl (Qaa ?_)
   obtain rfl:=QsJ H
   subst Hx1_
   have H:=QsJ Hr1_
   subst H
   refine QaK Try.func46 (v:=tuple #[slice none 0 0,bool false]) (resN (l:=Try.f46.results.toList) (vs:=[slice none 0 0,bool false]) rfl ⟨rfl,rfl,trivial⟩ (by simp)) ?_
   have hs:=hs.nil 22 (K.int .i8)
   have hs:=hs.pull 0 rfl
   have hs:St _ [_] _:=St.take (Γ':=[_]) hs
   exact ⟨_,rfl,(slice none 0 0),rfl,hs⟩
  intro hb
  rw [if_neg (b_dec_f hb)] at H
  refine Qaa (Qax rfl (QaS (Qan [0,1,2,3,4,5,6] rfl ?_)))
  refine Qab (v:=v5) rfl rfl rfl ?_
  refine Qab (v:=int .i64 r8) rfl rfl rfl ?_
  refine Qab (v:=int .i64 (i64w (r8 - 1))) rfl rfl rfl ?_
  refine Qab (v:=int .i8 (i8w (i64w (r8 - 1)))) rfl rfl rfl ?_
  show G _ _ _ _ [_,_,_,_,_,_,_,_,_,_,_,_,_,_,_,_,_,_,_,_,_,_,_,_,_,_,_] _
  refine Qcx (fkI .i8) (y:=i8w (i64w (r8 - 1))) hs rfl rfl rfl rfl (fun _=>rfl) (zv:=(int .i8 0)) (fun _=>rfl) rfl (by decide) (by decide) rfl ?_
  intro v9 w hs
  have hs:St _ [_,_] _:=hs.pull 1 rfl
  obtain ⟨g,H⟩:=ite_get H
  refine Qcf (fkI .i8) (zv:=(int .i8 0)) (B:=1) hs (hs.row 1 rfl) rfl rfl rfl rfl rfl rfl rfl rfl rfl (by decide) rfl rfl (by decide) (by omega) ?_
  intro v11 w hs
  refine Qab (v:=v11) rfl rfl rfl ?_
  show G _ _ _ _ [_,_,_,_,_,_,_,_,_,_,_,_,_,_,_,_,_,_,_,_,_,_,_,_,_,_,_] _
  refine Qaa ?_
  refine Qa5 (Qan [0,1] rfl ?_)
  refine Qab (v:=int .i64 (i64w (x7+1))) rfl rfl rfl ?_
  refine Qab (v:=int .i64 (i64w (x7+1))) rfl rfl rfl (Qaa ?_)
  obtain rfl:=QsJ H
  have hs:=hs.pull 0 rfl
  have hs:St _ [_] _:=St.take (Γ':=[_]) hs
  exact ih1_ _ _ ⟨v11,x6++([i8w (i64w (r8 - 1))]),i64w (x7+1),Hx1_,rfl,hs⟩
 intro hb
 rw [if_neg (b_dec_f hb)] at H
 refine Qaa (Qag (Qax rfl ?_))
 obtain rfl:=QsJ H
 subst Hx1_
 have hs:=hs.pull 0 rfl
 have hs:St _ [_] _:=St.take (Γ':=[]) hs
 refine QbG rfl ?_
 exact ha1_ _ _ ⟨v5,x6,Hr1_,rfl,hs⟩
def Qb9.post (w0:World) (r:((Ar Int 14)×Int)) (v:Value) (w:World):Prop:=v=tuple #[agg ((encA (encI .i8)) r.1).toArray,int .i64 r.2]∧St w0 [] w
theorem Qb9.calls {N:Nat} {a1:Qaq} {a2:ByteArray} {w0:World} {r:((Ar Int 14)×Int)} (H:Qb9.f N a1 a2=some r):
 Calls Try.prog 18 #[agg (Qae a1).toArray,string a2] w0 fun e w=>∃ v,e= .returned v∧Qb9.post w0 r v w:=by
 unfold Qb9.f at H
 have hs:St w0 [] w0:=St.refl w0
 refine calls_of_g (n:=37) Try.func18 rfl rfl ?_
 show G _ _ _ _ [_,_,_,_,_,_,_,_,_,_,_,_,_,_,_,_,_,_,_,_,_,_,_,_,_,_,_,_,_,_,_,_,_,_,_,_,_,_,_] _
 refine Qag (Qan [0,1,2] rfl ?_)
 refine Qbw hs rfl rfl (cs:=(Qae a1)) rfl rfl ?_
 intro b3 w hs
 refine QbH hs rfl rfl (z:=(agg #[int .i8 0,int .i8 0,int .i8 0,int .i8 0,int .i8 0,int .i8 0,int .i8 0,int .i8 0,int .i8 0,int .i8 0,int .i8 0,int .i8 0,int .i8 0,int .i8 0])) (cs:=((encA (encI .i8)) (Ar.rep 14 0))) rfl (fun _=>rfl) rfl ?_
 intro b5 w hs
 refine Qab (v:=int .i64 0) rfl rfl rfl ?_
 show G _ _ _ _ [_,_,_,_,_,_,_,_,_,_,_,_,_,_,_,_,_,_,_,_,_,_,_,_,_,_,_,_,_,_,_,_,_,_,_,_,_,_,_] _
 refine Qaa (Qag (Qag (Qan [0,1,2] rfl ?_)))
 refine QaG rfl rfl (es:=(Qae a1)) rfl rfl (fun _=>rfl) (n:=4) (fun _=>rfl) (QaJ.len _) (cells_all (hs.cells 1 rfl)) ?_
 obtain ⟨r7,Hr7,H⟩:=bind_get H
 refine QaP (args:=[agg (Qae a1).toArray]) rfl rfl (QaT rfl (callFunc_enter Try.func21 rfl rfl) rfl) (Qbr.calls (a1:=a1) Hr7) ?_
 rintro _ w ⟨rfl,hs2⟩
 have hs:St _ [_,_] _:=hs.call hs2
 cases r7 with
 |true=>
  rw [if_pos rfl] at H
  refine Qab (v:=bool false) rfl rfl rfl ?_
  show G _ _ _ _ [_,_,_,_,_,_,_,_,_,_,_,_,_,_,_,_,_,_,_,_,_,_,_,_,_,_,_,_,_,_,_,_,_,_,_,_,_,_,_] _
  refine Qaa (Qax rfl (QaS (Qag (Qan [0,1,2] rfl ?_))))
  refine Qab (v:=agg ((encA (encI .i8)) (Ar.rep 14 0)).toArray) rfl rfl (Qcr rfl rfl) ?_
  refine QbH hs rfl rfl (z:=(agg #[int .i8 0,int .i8 0,int .i8 0,int .i8 0,int .i8 0,int .i8 0,int .i8 0,int .i8 0,int .i8 0,int .i8 0,int .i8 0,int .i8 0,int .i8 0,int .i8 0])) (cs:=((encA (encI .i8)) (Ar.rep 14 0))) rfl (fun _=>rfl) rfl ?_
  intro b8 w hs
  refine Qa9 (n:=14) hs ((fkA (n:=14) (he:=(fkI .i8).len) (h1:=(fkI .i8).one)).len _) rfl rfl (vs:=((encA (encI .i8)) (Ar.rep 14 0))) rfl rfl rfl (fun _=>rfl) ((fkA (n:=14) (he:=(fkI .i8).len) (h1:=(fkI .i8).one)).len _) ((fkA (n:=14) (he:=(fkI .i8).len) (h1:=(fkI .i8).one)).one _) ?_
  intro w hs
  refine Qaa (Qag (Qan [0,1,2,3,4,5,6] rfl ?_))
  refine Qab (v:=string a2) rfl rfl rfl ?_
  obtain ⟨r10,Hr10,H⟩:=bind_get H
  refine QaP (args:=[string a2]) rfl rfl (QaT rfl (callFunc_enter Try.func46 rfl rfl) rfl) (QbB.calls (a1:=a2) Hr10) ?_
  rintro _ w ⟨v11,rfl,hs2⟩
  have hs:St _ [_,_,_,_] _:=hs.call hs2
  show G _ _ _ _ [_,_,_,_,_,_,_,_,_,_,_,_,_,_,_,_,_,_,_,_,_,_,_,_,_,_,_,_,_,_,_,_,_,_,_,_,_,_,_] _
  refine Qab (v:=tuple #[v11,bool r10.2]) rfl rfl rfl ?_
  refine Qab (v:=v11) rfl rfl rfl ?_
  refine Qab (v:=bool r10.2) rfl rfl rfl ?_
  refine Qab (v:=v11) rfl rfl rfl ?_
  refine Qab (v:=bool r10.2) rfl rfl rfl (Qaa (Qag (Qan [0,1,2] rfl ?_)))
  refine Qab (v:=slice (some ⟨b8,0,none⟩) 14 14) rfl rfl (QdE rfl rfl (fun _=>⟨_,rfl⟩) rfl) ?_
  show G _ _ _ _ [_,_,_,_,_,_,_,_,_,_,_,_,_,_,_,_,_,_,_,_,_,_,_,_,_,_,_,_,_,_,_,_,_,_,_,_,_,_,_] _
  refine Qab (v:=v11) rfl rfl rfl ?_
  have hs:St _ [_,_,_,_] _:=hs.pull 1 rfl
  refine QdH (a:=(Ar.rep 14 0)) (fkI .i8) (int .i8) (fun _=>rfl) rfl hs rfl (hs.row 1 rfl) rfl rfl rfl Try.underlying72 rfl rfl rfl ?_
  intro w hs
  refine Qaa (Qag (Qag (Qan [0,1,2,3,4,5,6,7,8,9,10,11,12,13,14] rfl ?_)))
  refine QaR (B:=r10.2) rfl rfl rfl ?_ ?_
  ·
   intro hb
   rw [if_pos (b_var_t hb)] at H
   refine Qab (v:=bool false) rfl rfl rfl ?_
   show G _ _ _ _ [_,_,_,_,_,_,_,_,_,_,_,_,_,_,_,_,_,_,_,_,_,_,_,_,_,_,_,_,_,_,_,_,_,_,_,_,_,_,_] _
   refine Qab (v:=bool false) rfl rfl rfl ?_
   refine Qab (v:=v11) rfl rfl rfl ?_
   refine Qb1 (hs.row 1 rfl) rfl rfl rfl rfl rfl ?_
   refine QaG rfl rfl (es:=(Qae a1)) rfl rfl (fun _=>rfl) (n:=4) (fun _=>rfl) (QaJ.len _) (cells_all (hs.cells 3 rfl)) ?_
   obtain ⟨r13,Hr13,H⟩:=bind_get H
   refine QaP (args:=[agg (Qae a1).toArray]) rfl rfl (QaT rfl (callFunc_enter Try.func47 rfl rfl) rfl) (QbS.calls (a1:=a1) Hr13) ?_
   rintro _ w ⟨rfl,hs2⟩
   have hs:St _ [_,_,_,_] _:=hs.call hs2
   show G _ _ _ _ [_,_,_,_,_,_,_,_,_,_,_,_,_,_,_,_,_,_,_,_,_,_,_,_,_,_,_,_,_,_,_,_,_,_,_,_,_,_,_] _
   refine Qab (v:=bool ((r10.1.length:Int) !=r13)) rfl rfl rfl ?_
   refine QaR (B:=(r10.1.length:Int) !=r13) rfl rfl rfl ?_ ?_
   ·
    intro hb
    rw [if_neg (b_bne_t hb)] at H
    refine Qab (v:=bool true) rfl rfl rfl (Qal rfl rfl ?_)
    show G _ _ _ _ [_,_,_,_,_,_,_,_,_,_,_,_,_,_,_,_,_,_,_,_,_,_,_,_,_,_,_,_,_,_,_,_,_,_,_,_,_,_,_] _
    refine Qal rfl rfl (Qal rfl rfl (Qal rfl rfl ?_))
    show G _ _ _ _ [_,_,_,_,_,_,_,_,_,_,_,_,_,_,_,_,_,_,_,_,_,_,_,_,_,_,_,_,_,_,_,_,_,_,_,_,_,_,_] _
    refine Qab (v:=bool true) rfl rfl rfl (Qaa (Qaw rfl (Qag (Qan [0,1,2] rfl ?_))))
    refine Qab (v:=agg ((encA (encI .i8)) (Ar.rep 14 0)).toArray) rfl rfl (Qcr rfl rfl) ?_
    have hs:St _ [_,_,_,_] _:=hs.pull 2 rfl
    refine Qa9 (n:=14) hs ((fkA (n:=14) (he:=(fkI .i8).len) (h1:=(fkI .i8).one)).len _) rfl rfl (vs:=((encA (encI .i8)) (Ar.rep 14 0))) rfl rfl rfl (fun _=>rfl) ((fkA (n:=14) (he:=(fkI .i8).len) (h1:=(fkI .i8).one)).len _) ((fkA (n:=14) (he:=(fkI .i8).len) (h1:=(fkI .i8).one)).one _) ?_
    intro w hs
    refine Qab (v:=int .i64 5) rfl rfl rfl ?_
    show G _ _ _ _ [_,_,_,_,_,_,_,_,_,_,_,_,_,_,_,_,_,_,_,_,_,_,_,_,_,_,_,_,_,_,_,_,_,_,_,_,_,_,_] _
    refine Qaa ?_
    obtain rfl:=QsJ H
    refine QaK Try.func18 (v:=tuple #[agg ((encA (encI .i8)) (Ar.rep 14 0)).toArray,int .i64 5]) (resN (l:=Try.f18.results.toList) (vs:=[agg ((encA (encI .i8)) (Ar.rep 14 0)).toArray,int .i64 5]) rfl ⟨⟨_,rfl,(run_loadVar_agg (es:=((encA (encI .i8)) (Ar.rep 14 0))) rfl (congrArg (Result.ok · _) ((fkA (n:=14) (he:=(fkI .i8).len) (h1:=(fkI .i8).one)).len _).symm) (cells_all (hs.cells 0 rfl)))⟩,rfl,trivial⟩ (by simp)) ?_
    have hs:St _ [] _:=St.take (Γ':=[_,_,_,_]) hs
    exact ⟨_,rfl,rfl,hs⟩
   intro hb
   rw [if_pos (b_bne_f hb)] at H
   refine Qab (v:=bool false) rfl rfl rfl ?_
   refine QaG rfl rfl (es:=(Qae a1)) rfl rfl (fun _=>rfl) (n:=4) (fun _=>rfl) (QaJ.len _) (cells_all (hs.cells 3 rfl)) ?_
   show G _ _ _ _ [_,_,_,_,_,_,_,_,_,_,_,_,_,_,_,_,_,_,_,_,_,_,_,_,_,_,_,_,_,_,_,_,_,_,_,_,_,_,_] _
   refine QaG rfl rfl (es:=((encA (encI .i8)) (cpA (Ar.rep 14 0) r10.1))) rfl rfl (fun _=>rfl) (n:=14) (fun _=>rfl) ((fkA (n:=14) (he:=(fkI .i8).len) (h1:=(fkI .i8).one)).len _) (cells_all (hs.cells 0 rfl)) ?_
   obtain ⟨r14,Hr14,H⟩:=bind_get H
   refine QaP (args:=[agg (Qae a1).toArray,agg ((encA (encI .i8)) (cpA (Ar.rep 14 0) r10.1)).toArray]) rfl rfl (QaT rfl (callFunc_enter Try.func22 rfl rfl) rfl) (QaW.calls (a1:=a1) (a2:=cpA (Ar.rep 14 0) r10.1) Hr14) ?_
   rintro _ w ⟨rfl,hs2⟩
   have hs:St _ [_,_,_,_] _:=hs.call hs2
   cases r14 with
   |true=>
    rw [if_pos rfl] at H
    refine Qab (v:=bool false) rfl rfl rfl ?_
    refine Qab (v:=bool false) rfl rfl rfl ?_
    show G _ _ _ _ [_,_,_,_,_,_,_,_,_,_,_,_,_,_,_,_,_,_,_,_,_,_,_,_,_,_,_,_,_,_,_,_,_,_,_,_,_,_,_] _
    refine Qaa (Qax rfl (QaS (Qag (Qan [0,1,2] rfl ?_))))
    refine QaG rfl rfl (es:=((encA (encI .i8)) (cpA (Ar.rep 14 0) r10.1))) rfl rfl (fun _=>rfl) (n:=14) (fun _=>rfl) ((fkA (n:=14) (he:=(fkI .i8).len) (h1:=(fkI .i8).one)).len _) (cells_all (hs.cells 0 rfl)) ?_
    have hs:St _ [_,_,_,_] _:=hs.pull 2 rfl
    refine Qa9 (n:=14) hs ((fkA (n:=14) (he:=(fkI .i8).len) (h1:=(fkI .i8).one)).len _) rfl rfl (vs:=((encA (encI .i8)) (cpA (Ar.rep 14 0) r10.1))) rfl rfl rfl (fun _=>rfl) ((fkA (n:=14) (he:=(fkI .i8).len) (h1:=(fkI .i8).one)).len _) ((fkA (n:=14) (he:=(fkI .i8).len) (h1:=(fkI .i8).one)).one _) ?_
    intro w hs
    refine Qab (v:=int .i64 0) rfl rfl rfl (Qaa ?_)
    obtain rfl:=QsJ H
    refine QaK Try.func18 (v:=tuple #[agg ((encA (encI .i8)) (cpA (Ar.rep 14 0) r10.1)).toArray,int .i64 0]) (resN (l:=Try.f18.results.toList) (vs:=[agg ((encA (encI .i8)) (cpA (Ar.rep 14 0) r10.1)).toArray,int .i64 0]) rfl ⟨⟨_,rfl,(run_loadVar_agg (es:=((encA (encI .i8)) (cpA (Ar.rep 14 0) r10.1))) rfl (congrArg (Result.ok · _) ((fkA (n:=14) (he:=(fkI .i8).len) (h1:=(fkI .i8).one)).len _).symm) (cells_all (hs.cells 0 rfl)))⟩,rfl,trivial⟩ (by simp)) ?_
    have hs:St _ [] _:=St.take (Γ':=[_,_,_,_]) hs
    exact ⟨_,rfl,rfl,hs⟩
   |false=>
    rw [if_neg Bool.false_ne_true] at H
    refine Qab (v:=bool true) rfl rfl rfl ?_
    show G _ _ _ _ [_,_,_,_,_,_,_,_,_,_,_,_,_,_,_,_,_,_,_,_,_,_,_,_,_,_,_,_,_,_,_,_,_,_,_,_,_,_,_] _
    refine Qab (v:=bool true) rfl rfl rfl (Qaa (Qaw rfl (Qag (Qan [0,1,2] rfl ?_))))
    refine Qab (v:=agg ((encA (encI .i8)) (Ar.rep 14 0)).toArray) rfl rfl (Qcr rfl rfl) ?_
    have hs:St _ [_,_,_,_] _:=hs.pull 2 rfl
    refine Qa9 (n:=14) hs ((fkA (n:=14) (he:=(fkI .i8).len) (h1:=(fkI .i8).one)).len _) rfl rfl (vs:=((encA (encI .i8)) (Ar.rep 14 0))) rfl rfl rfl (fun _=>rfl) ((fkA (n:=14) (he:=(fkI .i8).len) (h1:=(fkI .i8).one)).len _) ((fkA (n:=14) (he:=(fkI .i8).len) (h1:=(fkI .i8).one)).one _) ?_
    intro w hs
    refine Qab (v:=int .i64 5) rfl rfl rfl ?_
    show G _ _ _ _ [_,_,_,_,_,_,_,_,_,_,_,_,_,_,_,_,_,_,_,_,_,_,_,_,_,_,_,_,_,_,_,_,_,_,_,_,_,_,_] _
    refine Qaa ?_
    obtain rfl:=QsJ H
    refine QaK Try.func18 (v:=tuple #[agg ((encA (encI .i8)) (Ar.rep 14 0)).toArray,int .i64 5]) (resN (l:=Try.f18.results.toList) (vs:=[agg ((encA (encI .i8)) (Ar.rep 14 0)).toArray,int .i64 5]) rfl ⟨⟨_,rfl,(run_loadVar_agg (es:=((encA (encI .i8)) (Ar.rep 14 0))) rfl (congrArg (Result.ok · _) ((fkA (n:=14) (he:=(fkI .i8).len) (h1:=(fkI .i8).one)).len _).symm) (cells_all (hs.cells 0 rfl)))⟩,rfl,trivial⟩ (by simp)) ?_
    have hs:St _ [] _:=St.take (Γ':=[_,_,_,_]) hs
    exact ⟨_,rfl,rfl,hs⟩
  intro hb
  rw [if_neg (b_var_f hb)] at H
  refine Qab (v:=bool true) rfl rfl rfl ?_
  refine Qab (v:=bool true) rfl rfl rfl (Qal rfl rfl (Qal rfl rfl ?_))
  show G _ _ _ _ [_,_,_,_,_,_,_,_,_,_,_,_,_,_,_,_,_,_,_,_,_,_,_,_,_,_,_,_,_,_,_,_,_,_,_,_,_,_,_] _
  refine Qal rfl rfl (Qal rfl rfl (Qal rfl rfl ?_))
  show G _ _ _ _ [_,_,_,_,_,_,_,_,_,_,_,_,_,_,_,_,_,_,_,_,_,_,_,_,_,_,_,_,_,_,_,_,_,_,_,_,_,_,_] _
  refine Qab (v:=bool true) rfl rfl rfl ?_
  refine Qab (v:=bool true) rfl rfl rfl (Qal rfl rfl (Qal rfl rfl ?_))
  show G _ _ _ _ [_,_,_,_,_,_,_,_,_,_,_,_,_,_,_,_,_,_,_,_,_,_,_,_,_,_,_,_,_,_,_,_,_,_,_,_,_,_,_] _
  refine Qal rfl rfl (Qal rfl rfl ?_)
  refine Qab (v:=bool true) rfl rfl rfl ?_
  show G _ _ _ _ [_,_,_,_,_,_,_,_,_,_,_,_,_,_,_,_,_,_,_,_,_,_,_,_,_,_,_,_,_,_,_,_,_,_,_,_,_,_,_] _
  refine Qaa (Qaw rfl (Qag (Qan [0,1,2] rfl ?_)))
  refine Qab (v:=agg ((encA (encI .i8)) (Ar.rep 14 0)).toArray) rfl rfl (Qcr rfl rfl) ?_
  have hs:St _ [_,_,_,_] _:=hs.pull 2 rfl
  refine Qa9 (n:=14) hs ((fkA (n:=14) (he:=(fkI .i8).len) (h1:=(fkI .i8).one)).len _) rfl rfl (vs:=((encA (encI .i8)) (Ar.rep 14 0))) rfl rfl rfl (fun _=>rfl) ((fkA (n:=14) (he:=(fkI .i8).len) (h1:=(fkI .i8).one)).len _) ((fkA (n:=14) (he:=(fkI .i8).len) (h1:=(fkI .i8).one)).one _) ?_
  intro w hs
  refine Qab (v:=int .i64 5) rfl rfl rfl (Qaa ?_)
  obtain rfl:=QsJ H
  refine QaK Try.func18 (v:=tuple #[agg ((encA (encI .i8)) (Ar.rep 14 0)).toArray,int .i64 5]) (resN (l:=Try.f18.results.toList) (vs:=[agg ((encA (encI .i8)) (Ar.rep 14 0)).toArray,int .i64 5]) rfl ⟨⟨_,rfl,(run_loadVar_agg (es:=((encA (encI .i8)) (Ar.rep 14 0))) rfl (congrArg (Result.ok · _) ((fkA (n:=14) (he:=(fkI .i8).len) (h1:=(fkI .i8).one)).len _).symm) (cells_all (hs.cells 0 rfl)))⟩,rfl,trivial⟩ (by simp)) ?_
  have hs:St _ [] _:=St.take (Γ':=[_,_,_,_]) hs
  exact ⟨_,rfl,rfl,hs⟩
 |false=>
  rw [if_neg Bool.false_ne_true] at H
  refine Qab (v:=bool true) rfl rfl rfl ?_
  show G _ _ _ _ [_,_,_,_,_,_,_,_,_,_,_,_,_,_,_,_,_,_,_,_,_,_,_,_,_,_,_,_,_,_,_,_,_,_,_,_,_,_,_] _
  refine Qaa (Qaw rfl (Qag (Qan [0,1,2] rfl ?_)))
  refine Qab (v:=agg ((encA (encI .i8)) (Ar.rep 14 0)).toArray) rfl rfl (Qcr rfl rfl) ?_
  refine Qa9 (n:=14) hs ((fkA (n:=14) (he:=(fkI .i8).len) (h1:=(fkI .i8).one)).len _) rfl rfl (vs:=((encA (encI .i8)) (Ar.rep 14 0))) rfl rfl rfl (fun _=>rfl) ((fkA (n:=14) (he:=(fkI .i8).len) (h1:=(fkI .i8).one)).len _) ((fkA (n:=14) (he:=(fkI .i8).len) (h1:=(fkI .i8).one)).one _) ?_
  intro w hs
  refine Qab (v:=int .i64 1) rfl rfl rfl (Qaa ?_)
  obtain rfl:=QsJ H
  refine QaK Try.func18 (v:=tuple #[agg ((encA (encI .i8)) (Ar.rep 14 0)).toArray,int .i64 1]) (resN (l:=Try.f18.results.toList) (vs:=[agg ((encA (encI .i8)) (Ar.rep 14 0)).toArray,int .i64 1]) rfl ⟨⟨_,rfl,(run_loadVar_agg (es:=((encA (encI .i8)) (Ar.rep 14 0))) rfl (congrArg (Result.ok · _) ((fkA (n:=14) (he:=(fkI .i8).len) (h1:=(fkI .i8).one)).len _).symm) (cells_all (hs.cells 0 rfl)))⟩,rfl,trivial⟩ (by simp)) ?_
  have hs:St _ [] _:=St.take (Γ':=[_,_]) hs
  exact ⟨_,rfl,rfl,hs⟩
def Qbo.post (w0:World) (r:Bool) (v:Value) (w:World):Prop:=v=bool r∧St w0 [] w
theorem Qbo.calls {N:Nat} {a1:(List Qai)} {a3:(List Qai)} {v2:Value} {v4:Value} {w0:World} {r:Bool} (hr0:RdRow Qah w0 v2 a1) (hr1:RdRow Qah w0 v4 a3) (H:Qbo.f N a1 a3=some r):
 Calls Try.prog 20 #[v2,v4] w0 fun e w=>∃ v,e= .returned v∧Qbo.post w0 r v w:=by
 unfold Qbo.f at H
 have hs:St w0 [] w0:=St.refl w0
 refine calls_of_g (n:=24) Try.func20 rfl rfl ?_
 show G _ _ _ _ [_,_,_,_,_,_,_,_,_,_,_,_,_,_,_,_,_,_,_,_,_,_,_,_,_,_] _
 refine Qag (Qan [0] rfl ?_)
 refine Qab (v:=bool false) rfl rfl rfl (Qaa (Qag (Qag (Qan [0,1,2,3,4] rfl ?_))))
 refine Qab (v:=v2) rfl rfl rfl ?_
 refine Qb1 (hs.rd hr0) rfl rfl rfl rfl rfl ?_
 refine Qab (v:=v4) rfl rfl rfl ?_
 refine Qb1 (hs.rd hr1) rfl rfl rfl rfl rfl ?_
 show G _ _ _ _ [_,_,_,_,_,_,_,_,_,_,_,_,_,_,_,_,_,_,_,_,_,_,_,_,_,_] _
 refine QaR (B:=(a1.length:Int) !=(a3.length:Int)) rfl rfl rfl ?_ ?_
 ·
  intro hb
  rw [if_neg (b_bne_t hb)] at H
  show G _ _ _ _ [_,_,_,_,_,_,_,_,_,_,_,_,_,_,_,_,_,_,_,_,_,_,_,_,_,_] _
  refine Qaa (Qaw rfl (Qag (Qan [0] rfl ?_)))
  refine Qab (v:=bool false) rfl rfl rfl (Qaa ?_)
  obtain rfl:=QsJ H
  refine QaK Try.func20 (v:=bool false) (res1 rfl rfl) ?_
  have hs:St _ [] _:=St.take (Γ':=[]) hs
  exact ⟨_,rfl,rfl,hs⟩
 intro hb
 rw [if_pos (b_bne_f hb)] at H
 refine Qaa (Qax rfl (QaS (Qag (Qag (Qan [0] rfl ?_)))))
 refine Qab (v:=int .i64 0) rfl rfl rfl (Qaa ?_)
 obtain ⟨o1_,Ho,Hr1_⟩:=bind_get H
 refine Qa2 (J:=fun t w=>Qbo.a0 N=some r∧Fr t (fun O=>([O 0,O 1,O 2,O 3,O 4,O 5,O 6,O 7,O 8,O 9,O 10,O 11,O 12,O 13,O 14,O 15,O 16,O 17,O 18,O 19,O 20,O 21,O 22,O 23,O 24,O 25]:List Value))∧St w0 [] w) ?_ ?_
 ·
  rintro t w ⟨H,hf,hs⟩
  obtain ⟨O,rfl⟩:=hf.open
  show G _ _ _ _ [_,_,_,_,_,_,_,_,_,_,_,_,_,_,_,_,_,_,_,_,_,_,_,_,_,_] _
  unfold Qbo.a0 at H
  refine Qag (Qan [0] rfl ?_)
  refine Qab (v:=bool true) rfl rfl rfl (Qaa ?_)
  obtain rfl:=QsJ H
  refine QaK Try.func20 (v:=bool true) (res1 rfl rfl) ?_
  have hs:St _ [] _:=St.take (Γ':=[]) hs
  exact ⟨_,rfl,rfl,hs⟩
 intro ha1_
 have hs:St _ [] _:=St.take (Γ':=[]) hs
 refine Qbk (I:=fun n_ t w=>∃ x5:Int,rounds (fun s=>Qbo.b0 N a1 a3 s) n_ x5=some o1_∧Fr t (fun O=>([v2,v4,O 2,O 3,O 4,int .i64 x5,O 6,O 7,O 8,O 9,O 10,O 11,O 12,O 13,O 14,O 15,O 16,O 17,O 18,O 19,O 20,O 21,O 22,O 23,O 24,O 25]:List Value))∧St w0 [] w) N ⟨0,Ho,rfl,hs⟩ ?_ ?_
 ·
  rintro _ _ ⟨x5,h,_⟩
  exact rounds_zero h
 intro n_ ih1_
 rintro t w ⟨x5,Ho,hf,hs⟩
 obtain ⟨O,rfl⟩:=hf.open
 show G _ _ _ _ [_,_,_,_,_,_,_,_,_,_,_,_,_,_,_,_,_,_,_,_,_,_,_,_,_,_] _
 obtain ⟨x7_,H,Hx1_⟩:=rounds_succ Ho
 have H:Qbo.b0 N a1 a3 x5=some x7_:=H
 unfold Qbo.b0 at H
 refine Qag (Qag (Qan [0,1,2,3] rfl ?_))
 refine Qab (v:=int .i64 x5) rfl rfl rfl ?_
 refine Qab (v:=v2) rfl rfl rfl ?_
 refine Qb1 (hs.rd hr0) rfl rfl rfl rfl rfl ?_
 show G _ _ _ _ [_,_,_,_,_,_,_,_,_,_,_,_,_,_,_,_,_,_,_,_,_,_,_,_,_,_] _
 refine QaR (B:=decide (x5< (a1.length:Int))) rfl rfl rfl ?_ ?_
 ·
  intro hb
  rw [if_pos (b_dec_t hb)] at H
  refine Qaa (Qaw rfl (QaS (Qag ?_)))
  refine QbP (Qag ?_)
  refine QcQ (n:=9) rfl [0,1,2,3,4,5,6,7,8] [0,1,2,3,4,5,6,7,8] rfl rfl ?_
  intro rest w hh hbw hO
  have hs:=hs.samew hh hbw
  show G _ _ _ _ [_,_,_,_,_,_,_,_,_,_,_,_,_,_,_,_,_,_,_,_,_,_,_,_,_,_] _
  obtain ⟨gd2,H⟩:=ite_get H
  obtain ⟨ad3_,ad3_N,ad3_C,had3_⟩:=sl_at (hs.rd hr0) gd2.1 gd2.2
  obtain ⟨gd4,H⟩:=ite_get H
  obtain ⟨ad5_,ad5_N,ad5_C,had5_⟩:=sl_at (hs.rd hr1) gd4.1 gd4.2
  refine QbT ?_
  intro T hT
  refine QcJ (m0:=0) hO rfl 255 [0,1,2,3,4,5,6,7] [0,0,3,7,0,0,48,112,255] (by decide+kernel) (fun D t w=>∃ O:Nat→Value,t=[v2,v4,O 2,O 3,O 4,int .i64 x5,O 6,O 7,O 8,O 9,O 10,int .i64 x5,v2,int .i64 (a1.length:Int),bool true,O 15,O 16,cnd (D 0) v2 (O 17),cnd (D 1) (int .i64 x5) (O 18),cnd (D 2) (pointer (some (ad3_.add (x5.toNat*2)))) (O 19),cnd (D 3) (agg (Qau (rdL a1 x5 Qay)).toArray) (O 20),cnd (D 4) v4 (O 21),cnd (D 5) (int .i64 x5) (O 22),cnd (D 6) (pointer (some (ad5_.add (x5.toNat*2)))) (O 23),cnd (D 7) (agg (Qau (rdL a3 x5 Qay)).toArray) (O 24),O 25]∧St w0 [] w) ?_ ⟨?_,⟨?_,⟨?_,⟨?_,⟨?_,⟨?_,⟨?_,⟨?_,trivial⟩⟩⟩⟩⟩⟩⟩⟩ ?_
  ·exact ⟨fun i=>T.getD i undef,(by subst hT;rfl),hs⟩
  ·
   rintro D t w hD hp hcl ⟨O,ht,hs⟩ rest hk
   have hp:AllDone D []:=hp
   have q2_:=ny hcl 2 0 hD
   have q3_:=ny hcl 3 0 q2_
   simp only [hD,q2_,q3_,cq,oT] at ht hs
   subst ht
   refine Qab (v:=v2) rfl rfl rfl ?_
   show G _ _ _ _ [_,_,_,_,_,_,_,_,_,_,_,_,_,_,_,_,_,_,_,_,_,_,_,_,_,_] _
   refine hk _ _ ⟨O,?_,hs.cast ?_⟩<;>simp only [oT,lq,cq,Nat.reduceBEq,q2_,q3_]
  ·
   rintro D t w hD hp hcl ⟨O,ht,hs⟩ rest hk
   have hp:AllDone D []:=hp
   have q2_:=ny hcl 2 1 hD
   have q3_:=ny hcl 3 0 q2_
   simp only [hD,q2_,q3_,cq,oT] at ht hs
   subst ht
   refine Qab (v:=int .i64 x5) rfl rfl rfl ?_
   show G _ _ _ _ [_,_,_,_,_,_,_,_,_,_,_,_,_,_,_,_,_,_,_,_,_,_,_,_,_,_] _
   refine hk _ _ ⟨O,?_,hs.cast ?_⟩<;>simp only [oT,lq,cq,Nat.reduceBEq,q2_,q3_]
  ·
   rintro D t w hD hp hcl ⟨O,ht,hs⟩ rest hk
   have hp:AllDone D [0,1]:=hp
   obtain ⟨p0_,p1_,_⟩:=hp
   have q3_:=ny hcl 3 0 hD
   simp only [hD,p0_,p1_,q3_,cq,oT] at ht hs
   subst ht
   refine QcI (κ:=Qah) (m:=2) rfl (hs.rd hr0) rfl (fun _=>rfl) gd2.1 gd2.2 had3_ rfl rfl rfl rfl rfl ?_
   show G _ _ _ _ [_,_,_,_,_,_,_,_,_,_,_,_,_,_,_,_,_,_,_,_,_,_,_,_,_,_] _
   refine hk _ _ ⟨O,?_,hs.cast ?_⟩<;>simp only [oT,lq,cq,Nat.reduceBEq,p0_,p1_,q3_]
  ·
   rintro D t w hD hp hcl ⟨O,ht,hs⟩ rest hk
   have hp:AllDone D [2]:=hp
   obtain ⟨p2_,_⟩:=hp
   obtain ⟨p0_,p1_,_⟩:=(show D 2=true→AllDone D [0,1] from hcl 2 (by decide)) p2_
   simp only [hD,p0_,p1_,p2_,cq,oT] at ht hs
   subst ht
   refine QaG rfl rfl (es:=(Qau (rdL a1 x5 Qay))) rfl rfl (fun _=>rfl) (n:=2) (fun _=>rfl) (QaL.len _) (cellsAt_of QaL Qay (hs.rd hr0) had3_ gd2.1 gd2.2) ?_
   show G _ _ _ _ [_,_,_,_,_,_,_,_,_,_,_,_,_,_,_,_,_,_,_,_,_,_,_,_,_,_] _
   refine hk _ _ ⟨O,?_,hs.cast ?_⟩<;>simp only [oT,lq,cq,Nat.reduceBEq,p0_,p1_,p2_]
  ·
   rintro D t w hD hp hcl ⟨O,ht,hs⟩ rest hk
   have hp:AllDone D []:=hp
   have q6_:=ny hcl 6 0 hD
   have q7_:=ny hcl 7 0 q6_
   simp only [hD,q6_,q7_,cq,oT] at ht hs
   subst ht
   refine Qab (v:=v4) rfl rfl rfl ?_
   show G _ _ _ _ [_,_,_,_,_,_,_,_,_,_,_,_,_,_,_,_,_,_,_,_,_,_,_,_,_,_] _
   refine hk _ _ ⟨O,?_,hs.cast ?_⟩<;>simp only [oT,lq,cq,Nat.reduceBEq,q6_,q7_]
  ·
   rintro D t w hD hp hcl ⟨O,ht,hs⟩ rest hk
   have hp:AllDone D []:=hp
   have q6_:=ny hcl 6 1 hD
   have q7_:=ny hcl 7 0 q6_
   simp only [hD,q6_,q7_,cq,oT] at ht hs
   subst ht
   refine Qab (v:=int .i64 x5) rfl rfl rfl ?_
   show G _ _ _ _ [_,_,_,_,_,_,_,_,_,_,_,_,_,_,_,_,_,_,_,_,_,_,_,_,_,_] _
   refine hk _ _ ⟨O,?_,hs.cast ?_⟩<;>simp only [oT,lq,cq,Nat.reduceBEq,q6_,q7_]
  ·
   rintro D t w hD hp hcl ⟨O,ht,hs⟩ rest hk
   have hp:AllDone D [4,5]:=hp
   obtain ⟨p4_,p5_,_⟩:=hp
   have q7_:=ny hcl 7 0 hD
   simp only [hD,p4_,p5_,q7_,cq,oT] at ht hs
   subst ht
   refine QcI (κ:=Qah) (m:=2) rfl (hs.rd hr1) rfl (fun _=>rfl) gd4.1 gd4.2 had5_ rfl rfl rfl rfl rfl ?_
   show G _ _ _ _ [_,_,_,_,_,_,_,_,_,_,_,_,_,_,_,_,_,_,_,_,_,_,_,_,_,_] _
   refine hk _ _ ⟨O,?_,hs.cast ?_⟩<;>simp only [oT,lq,cq,Nat.reduceBEq,p4_,p5_,q7_]
  ·
   rintro D t w hD hp hcl ⟨O,ht,hs⟩ rest hk
   have hp:AllDone D [6]:=hp
   obtain ⟨p6_,_⟩:=hp
   obtain ⟨p4_,p5_,_⟩:=(show D 6=true→AllDone D [4,5] from hcl 6 (by decide)) p6_
   simp only [hD,p4_,p5_,p6_,cq,oT] at ht hs
   subst ht
   refine QaG rfl rfl (es:=(Qau (rdL a3 x5 Qay))) rfl rfl (fun _=>rfl) (n:=2) (fun _=>rfl) (QaL.len _) (cellsAt_of QaL Qay (hs.rd hr1) had5_ gd4.1 gd4.2) ?_
   show G _ _ _ _ [_,_,_,_,_,_,_,_,_,_,_,_,_,_,_,_,_,_,_,_,_,_,_,_,_,_] _
   refine hk _ _ ⟨O,?_,hs.cast ?_⟩<;>simp only [oT,lq,cq,Nat.reduceBEq,p4_,p5_,p6_]
  intro D t w rest hall hO1_ hI
  obtain ⟨O,ht,hs⟩:=hI
  have p0_:=hall 0 (by decide) rfl
  have p1_:=hall 1 (by decide) rfl
  have p2_:=hall 2 (by decide) rfl
  have p3_:=hall 3 (by decide) rfl
  have p4_:=hall 4 (by decide) rfl
  have p5_:=hall 5 (by decide) rfl
  have p6_:=hall 6 (by decide) rfl
  have p7_:=hall 7 (by decide) rfl
  simp only [p0_,p1_,p2_,p3_,p4_,p5_,p6_,p7_,cq,oT] at ht hs
  subst ht
  obtain ⟨rest,rfl,hO6_⟩:=ord_one (m:=255) hO1_ rfl 8 (m':=511) (by decide+kernel) rfl
  clear hO1_
  refine QaR (B:=!decide ((rdL a1 x5 Qay)=(rdL a3 x5 Qay))) rfl rfl (QdG rfl rfl rfl QcN (QcO _ _ _)) ?_ ?_
  ·
   intro hb
   rw [if_neg (b_ndec_t hb)] at H
   show G _ _ _ _ [_,_,_,_,_,_,_,_,_,_,_,_,_,_,_,_,_,_,_,_,_,_,_,_,_,_] _
   obtain rfl:=ord_end hO6_ rfl (by decide+kernel)
   refine Qaa (Qaw rfl (Qag (Qan [0] rfl ?_)))
   refine Qab (v:=bool false) rfl rfl rfl (Qaa ?_)
   obtain rfl:=QsJ H
   subst Hx1_
   have H:=QsJ Hr1_
   subst H
   refine QaK Try.func20 (v:=bool false) (res1 rfl rfl) ?_
   have hs:St _ [] _:=St.take (Γ':=[]) hs
   exact ⟨_,rfl,rfl,hs⟩
  intro hb
  rw [if_pos (b_ndec_f hb)] at H
  show G _ _ _ _ [_,_,_,_,_,_,_,_,_,_,_,_,_,_,_,_,_,_,_,_,_,_,_,_,_,_] _
  obtain rfl:=ord_end hO6_ rfl (by decide+kernel)
  refine Qaa (Qax rfl (QaS ?_))
  refine Qa5 (Qan [0,1,2] rfl ?_)
  refine Qab (v:=int .i64 x5) rfl rfl rfl ?_
  refine Qab (v:=int .i64 (i64w (x5+1))) rfl rfl rfl ?_
  refine Qab (v:=int .i64 (i64w (x5+1))) rfl rfl rfl (Qaa ?_)
  obtain rfl:=QsJ H
  have hs:St _ [] _:=St.take (Γ':=[]) hs
  exact ih1_ _ _ ⟨i64w (x5+1),Hx1_,rfl,hs⟩
 intro hb
 rw [if_neg (b_dec_f hb)] at H
 refine Qaa (Qax rfl ?_)
 obtain rfl:=QsJ H
 subst Hx1_
 have hs:St _ [] _:=St.take (Γ':=[]) hs
 refine QbG rfl ?_
 exact ha1_ _ _ ⟨Hr1_,rfl,hs⟩
def Qb2.post (w0:World) (r:(Int×Int)) (v:Value) (w:World):Prop:=v=tuple #[int .i64 r.1,int .i64 r.2]∧St w0 [] w
theorem Qb2.calls {N:Nat} {a1:Qaq} {a2:(Ar Int 14)} {a3:Qai} {w0:World} {r:(Int×Int)} (H:Qb2.f N a1 a2 a3=some r):
 Calls Try.prog 23 #[agg (Qae a1).toArray,agg ((encA (encI .i8)) a2).toArray,agg (Qau a3).toArray] w0 fun e w=>∃ v,e= .returned v∧Qb2.post w0 r v w:=by
 unfold Qb2.f at H
 have hs:St w0 [] w0:=St.refl w0
 refine calls_of_g (n:=19) Try.func23 rfl rfl ?_
 show G _ _ _ _ [_,_,_,_,_,_,_,_,_,_,_,_,_,_,_,_,_,_,_,_,_,_] _
 refine Qag (Qan [0,1,2,3,4] rfl ?_)
 refine Qbw hs rfl rfl (cs:=(Qae a1)) rfl rfl ?_
 intro b4 w hs
 show G _ _ _ _ [_,_,_,_,_,_,_,_,_,_,_,_,_,_,_,_,_,_,_,_,_,_] _
 refine Qbw hs rfl rfl (cs:=((encA (encI .i8)) a2)) rfl rfl ?_
 intro b6 w hs
 refine Qbw hs rfl rfl (cs:=(Qau a3)) rfl rfl ?_
 intro b8 w hs
 refine Qab (v:=int .i64 0) rfl rfl rfl ?_
 show G _ _ _ _ [_,_,_,_,_,_,_,_,_,_,_,_,_,_,_,_,_,_,_,_,_,_] _
 refine Qab (v:=int .i64 0) rfl rfl rfl (Qaa (Qag ?_))
 refine QbP (Qag (Qan [0,1,2,3,4] rfl ?_))
 refine QaG rfl rfl (es:=(Qae a1)) rfl rfl (fun _=>rfl) (n:=4) (fun _=>rfl) (QaJ.len _) (cells_all (hs.cells 2 rfl)) ?_
 refine QaG rfl rfl (es:=((encA (encI .i8)) a2)) rfl rfl (fun _=>rfl) (n:=14) (fun _=>rfl) ((fkA (n:=14) (he:=(fkI .i8).len) (h1:=(fkI .i8).one)).len _) (cells_all (hs.cells 1 rfl)) ?_
 show G _ _ _ _ [_,_,_,_,_,_,_,_,_,_,_,_,_,_,_,_,_,_,_,_,_,_] _
 obtain ⟨r10,Hr10,H⟩:=bind_get H
 refine QaP (args:=[agg (Qae a1).toArray,agg ((encA (encI .i8)) a2).toArray]) rfl rfl (QaT rfl (callFunc_enter Try.func22 rfl rfl) rfl) (QaW.calls (a1:=a1) (a2:=a2) Hr10) ?_
 rintro _ w ⟨rfl,hs2⟩
 have hs:St _ [_,_,_] _:=hs.call hs2
 cases r10 with
 |true=>
  rw [if_pos rfl] at H
  refine Qab (v:=bool false) rfl rfl rfl ?_
  show G _ _ _ _ [_,_,_,_,_,_,_,_,_,_,_,_,_,_,_,_,_,_,_,_,_,_] _
  refine Qab (v:=bool false) rfl rfl rfl (Qaa (Qax rfl (Qag ?_)))
  refine QcQ (n:=6) rfl [0,1,2,3,4,5] [0,1,2,3,4,5] rfl rfl ?_
  intro rest w hh hbw hO
  have hs:=hs.samew hh hbw
  show G _ _ _ _ [_,_,_,_,_,_,_,_,_,_,_,_,_,_,_,_,_,_,_,_,_,_] _
  obtain ⟨r11,Hr11,H⟩:=bind_get H
  refine QbT ?_
  intro T hT
  refine QcJ (m0:=0) hO rfl 7 [0,1,2] [0,1,0,7,15,31] (by decide+kernel) (fun D t w=>∃ v12:Value,∃ O:Nat→Value,t=[agg (Qae a1).toArray,agg ((encA (encI .i8)) a2).toArray,agg (Qau a3).toArray,pointer (some ⟨b4,0,none⟩),pointer (some ⟨b6,0,none⟩),pointer (some ⟨b8,0,none⟩),int .i64 0,int .i64 0,bool false,agg (Qae a1).toArray,agg ((encA (encI .i8)) a2).toArray,bool true,bool false,O 13,cnd (D 0) (agg (Qae a1).toArray) (O 14),cnd (D 1) v12 (O 15),cnd (D 2) (agg (Qau a3).toArray) (O 16),O 17,O 18,O 19,O 20,O 21]∧St w0 [Asc (D 1) (Row 53 Qah v12 r11),Cells b8 (Qau a3) 53,Cells b6 ((encA (encI .i8)) a2) 37,Cells b4 (Qae a1) 27] w) ?_ ⟨?_,⟨?_,⟨?_,trivial⟩⟩⟩ ?_
  ·
   have hs:=hs.emp
   exact ⟨undef,fun i=>T.getD i undef,(by subst hT;rfl),hs⟩
  ·
   rintro D t w hD hp hcl ⟨v12,O,ht,hs⟩ rest hk
   have hp:AllDone D []:=hp
   have q1_:=ny hcl 1 0 hD
   simp only [hD,q1_,cq,oT] at ht hs
   subst ht
   refine QaG rfl rfl (es:=(Qae a1)) rfl rfl (fun _=>rfl) (n:=4) (fun _=>rfl) (QaJ.len _) (cells_all (hs.cells 3 rfl)) ?_
   show G _ _ _ _ [_,_,_,_,_,_,_,_,_,_,_,_,_,_,_,_,_,_,_,_,_,_] _
   refine hk _ _ ⟨v12,O,?_,hs.cast ?_⟩<;>simp only [oT,lq,cq,Nat.reduceBEq,q1_]
  ·
   rintro D t w hD hp hcl ⟨v12,O,ht,hs⟩ rest hk
   have hp:AllDone D [0]:=hp
   obtain ⟨p0_,_⟩:=hp
   simp only [hD,p0_,cq,oT] at ht hs
   subst ht
   refine QaP (args:=[agg (Qae a1).toArray]) rfl rfl (QaT rfl (callFunc_enter Try.func39 rfl rfl) rfl) (QbL.calls (a1:=a1) Hr11) ?_
   intro v12 w hs2
   have hs:St _ [_,_,_,_,_] _:=hs.call hs2
   show G _ _ _ _ [_,_,_,_,_,_,_,_,_,_,_,_,_,_,_,_,_,_,_,_,_,_] _
   have hs:=hs.fill 0 rfl
   refine hk _ _ ⟨v12,O,?_,hs.cast ?_⟩<;>simp only [oT,lq,cq,Nat.reduceBEq,p0_]
  ·
   rintro D t w hD hp hcl ⟨v12,O,ht,hs⟩ rest hk
   have hp:AllDone D []:=hp
   simp only [hD,cq,oT] at ht hs
   subst ht
   refine QaG rfl rfl (es:=(Qau a3)) rfl rfl (fun _=>rfl) (n:=2) (fun _=>rfl) (QaL.len _) (cells_all (hs.cells 1 rfl)) ?_
   show G _ _ _ _ [_,_,_,_,_,_,_,_,_,_,_,_,_,_,_,_,_,_,_,_,_,_] _
   refine hk _ _ ⟨v12,O,?_,hs.cast ?_⟩<;>simp only [oT,lq,cq,Nat.reduceBEq]
  intro D t w rest hall hO1_ hI
  obtain ⟨v12,O,ht,hs⟩:=hI
  have p0_:=hall 0 (by decide) rfl
  have p1_:=hall 1 (by decide) rfl
  have p2_:=hall 2 (by decide) rfl
  simp only [p0_,p1_,p2_,cq,oT] at ht hs
  subst ht
  obtain ⟨rest,rfl,hO2_⟩:=ord_one (m:=7) hO1_ rfl 3 (m':=15) (by decide+kernel) rfl
  clear hO1_
  obtain ⟨r15,Hr15,H⟩:=bind_get H
  refine QaP (args:=[v12,agg (Qau a3).toArray]) rfl rfl (QaT rfl (callFunc_enter Try.func50 rfl rfl) rfl) (Qbq.calls (a1:=r11) (a3:=a3) (hs.row 0 rfl) Hr15) ?_
  rintro _ w ⟨rfl,hs2⟩
  have hs:St _ [_,_,_,_] _:=hs.call hs2
  cases r15 with
  |true=>
   rw [if_pos rfl] at H
   show G _ _ _ _ [_,_,_,_,_,_,_,_,_,_,_,_,_,_,_,_,_,_,_,_,_,_] _
   obtain ⟨rest,rfl,hO3_⟩:=ord_one (m:=15) hO2_ rfl 4 (m':=31) (by decide+kernel) rfl
   clear hO2_
   refine Qab (v:=bool false) rfl rfl rfl ?_
   obtain ⟨rest,rfl,hO4_⟩:=ord_one (m:=31) hO3_ rfl 5 (m':=63) (by decide+kernel) rfl
   clear hO3_
   refine Qab (v:=bool false) rfl rfl rfl ?_
   obtain rfl:=ord_end hO4_ rfl (by decide+kernel)
   refine Qaa (Qax rfl (QaS ?_))
   refine Qa5 (Qag (Qan [0,1,2,3,4] rfl ?_))
   refine QaG rfl rfl (es:=((encA (encI .i8)) a2)) rfl rfl (fun _=>rfl) (n:=14) (fun _=>rfl) ((fkA (n:=14) (he:=(fkI .i8).len) (h1:=(fkI .i8).one)).len _) (cells_all (hs.cells 2 rfl)) ?_
   show G _ _ _ _ [_,_,_,_,_,_,_,_,_,_,_,_,_,_,_,_,_,_,_,_,_,_] _
   refine QaG rfl rfl (es:=(Qau a3)) rfl rfl (fun _=>rfl) (n:=2) (fun _=>rfl) (QaL.len _) (cells_all (hs.cells 1 rfl)) ?_
   obtain ⟨r16,Hr16,H⟩:=bind_get H
   refine QaP (args:=[agg ((encA (encI .i8)) a2).toArray,agg (Qau a3).toArray]) rfl rfl (QaT rfl (callFunc_enter Try.func51 rfl rfl) rfl) (Qcb.calls (a1:=a2) (a2:=a3) Hr16) ?_
   rintro _ w ⟨rfl,hs2⟩
   have hs:St _ [_,_,_,_] _:=hs.call hs2
   refine Qab (v:=int .i64 r16) rfl rfl rfl ?_
   show G _ _ _ _ [_,_,_,_,_,_,_,_,_,_,_,_,_,_,_,_,_,_,_,_,_,_] _
   refine Qab (v:=int .i64 0) rfl rfl rfl (Qaa ?_)
   obtain rfl:=QsJ H
   refine QaK Try.func23 (v:=tuple #[int .i64 r16,int .i64 0]) (resN (l:=Try.f23.results.toList) (vs:=[int .i64 r16,int .i64 0]) rfl ⟨rfl,rfl,trivial⟩ (by simp)) ?_
   have hs:St _ [] _:=St.take (Γ':=[_,_,_,_]) hs
   exact ⟨_,rfl,rfl,hs⟩
  |false=>
   rw [if_neg Bool.false_ne_true] at H
   obtain ⟨rest,rfl,hO5_⟩:=ord_one (m:=15) hO2_ rfl 4 (m':=31) (by decide+kernel) rfl
   clear hO2_
   refine Qab (v:=bool true) rfl rfl rfl ?_
   show G _ _ _ _ [_,_,_,_,_,_,_,_,_,_,_,_,_,_,_,_,_,_,_,_,_,_] _
   obtain ⟨rest,rfl,hO6_⟩:=ord_one (m:=31) hO5_ rfl 5 (m':=63) (by decide+kernel) rfl
   clear hO5_
   refine Qab (v:=bool true) rfl rfl rfl ?_
   obtain rfl:=ord_end hO6_ rfl (by decide+kernel)
   refine Qaa (Qaw rfl (Qag (Qan [0,1] rfl ?_)))
   refine Qab (v:=int .i64 0) rfl rfl rfl ?_
   refine Qab (v:=int .i64 6) rfl rfl rfl ?_
   show G _ _ _ _ [_,_,_,_,_,_,_,_,_,_,_,_,_,_,_,_,_,_,_,_,_,_] _
   refine Qaa ?_
   obtain rfl:=QsJ H
   refine QaK Try.func23 (v:=tuple #[int .i64 0,int .i64 6]) (resN (l:=Try.f23.results.toList) (vs:=[int .i64 0,int .i64 6]) rfl ⟨rfl,rfl,trivial⟩ (by simp)) ?_
   have hs:St _ [] _:=St.take (Γ':=[_,_,_,_]) hs
   exact ⟨_,rfl,rfl,hs⟩
 |false=>
  rw [if_neg Bool.false_ne_true] at H
  refine Qab (v:=bool true) rfl rfl rfl ?_
  refine Qab (v:=bool true) rfl rfl rfl ?_
  show G _ _ _ _ [_,_,_,_,_,_,_,_,_,_,_,_,_,_,_,_,_,_,_,_,_,_] _
  refine Qaa (Qaw rfl (Qag (Qan [0,1] rfl ?_)))
  refine Qab (v:=int .i64 0) rfl rfl rfl ?_
  refine Qab (v:=int .i64 1) rfl rfl rfl (Qaa ?_)
  obtain rfl:=QsJ H
  refine QaK Try.func23 (v:=tuple #[int .i64 0,int .i64 1]) (resN (l:=Try.f23.results.toList) (vs:=[int .i64 0,int .i64 1]) rfl ⟨rfl,rfl,trivial⟩ (by simp)) ?_
  have hs:St _ [] _:=St.take (Γ':=[_,_,_]) hs
  exact ⟨_,rfl,rfl,hs⟩
def Qcv.post (w0:World) (r:(Int×Int)) (v:Value) (w:World):Prop:=v=tuple #[int .i64 r.1,int .i64 r.2]∧St w0 [] w
theorem Qcv.calls {N:Nat} {a1:Qaq} {a2:Qai} {w0:World} {r:(Int×Int)} (H:Qcv.f N a1 a2=some r):
 Calls Try.prog 24 #[agg (Qae a1).toArray,agg (Qau a2).toArray] w0 fun e w=>∃ v,e= .returned v∧Qcv.post w0 r v w:=by
 unfold Qcv.f at H
 have hs:St w0 [] w0:=St.refl w0
 refine calls_of_g (n:=15) Try.func24 rfl rfl ?_
 show G _ _ _ _ [_,_,_,_,_,_,_,_,_,_,_,_,_,_,_,_,_] _
 refine Qag (Qan [0,1,2,3] rfl ?_)
 refine Qbw hs rfl rfl (cs:=(Qae a1)) rfl rfl ?_
 intro b3 w hs
 refine Qbw hs rfl rfl (cs:=(Qau a2)) rfl rfl ?_
 intro b5 w hs
 refine Qab (v:=int .i64 0) rfl rfl rfl ?_
 show G _ _ _ _ [_,_,_,_,_,_,_,_,_,_,_,_,_,_,_,_,_] _
 refine Qab (v:=int .i64 0) rfl rfl rfl (Qaa (Qag (Qag (Qan [0,1,2] rfl ?_))))
 refine QaG rfl rfl (es:=(Qae a1)) rfl rfl (fun _=>rfl) (n:=4) (fun _=>rfl) (QaJ.len _) (cells_all (hs.cells 1 rfl)) ?_
 obtain ⟨r7,Hr7,H⟩:=bind_get H
 refine QaP (args:=[agg (Qae a1).toArray]) rfl rfl (QaT rfl (callFunc_enter Try.func21 rfl rfl) rfl) (Qbr.calls (a1:=a1) Hr7) ?_
 rintro _ w ⟨rfl,hs2⟩
 have hs:St _ [_,_] _:=hs.call hs2
 cases r7 with
 |true=>
  rw [if_pos rfl] at H
  show G _ _ _ _ [_,_,_,_,_,_,_,_,_,_,_,_,_,_,_,_,_] _
  refine Qab (v:=bool false) rfl rfl rfl (Qaa (Qax rfl (QaS (Qag ?_))))
  obtain ⟨r8,Hr8,H⟩:=bind_get H
  obtain ⟨r11,Hr11,H⟩:=bind_get H
  refine QbT ?_
  intro T hT
  refine Qcg (n:=5) rfl [0,1,2,3,4] [0,1,2,3,4] rfl rfl (Inv:=fun D t w=>∃ v9:Value,∃ O:Nat→Value,t=[agg (Qae a1).toArray,agg (Qau a2).toArray,pointer (some ⟨b3,0,none⟩),pointer (some ⟨b5,0,none⟩),int .i64 0,int .i64 0,cnd (D 4) (int .i64 r11) (O 6),agg (Qae a1).toArray,bool true,bool false,cnd (D 0) (agg (Qae a1).toArray) (O 10),cnd (D 1) v9 (O 11),cnd (D 2) (agg (Qau a2).toArray) (O 12),cnd (D 3) (int .i64 r11) (O 13),O 14,O 15,O 16]∧St w0 [Asc (D 1) (Row 53 Qah v9 r8),Cells b5 (Qau a2) 53,Cells b3 (Qae a1) 27] w) ?_ ⟨⟨⟨⟨⟨trivial,?_⟩,?_⟩,?_⟩,?_⟩,?_⟩ ?_
  ·
   intro w hh hbw
   have hs:=hs.samew hh hbw
   have hs:=hs.emp
   exact ⟨undef,fun i=>T.getD i undef,(by subst hT;rfl),hs⟩
  ·
   rintro D t w hD hp hcl ⟨v9,O,ht,hs⟩ rest hk
   have q1_:=nz hcl 1 0 hD
   have q3_:=nz hcl 3 0 q1_
   have q4_:=nz hcl 4 0 q3_
   simp only [hD,q1_,q3_,q4_,cq,oT] at ht hs
   subst ht
   refine QaG rfl rfl (es:=(Qae a1)) rfl rfl (fun _=>rfl) (n:=4) (fun _=>rfl) (QaJ.len _) (cells_all (hs.cells 2 rfl)) ?_
   show G _ _ _ _ [_,_,_,_,_,_,_,_,_,_,_,_,_,_,_,_,_] _
   refine hk _ _ ⟨v9,O,?_,hs.cast ?_⟩<;>simp only [oT,lq,cq,Nat.reduceBEq,q1_,q3_,q4_]
  ·
   rintro D t w hD hp hcl ⟨v9,O,ht,hs⟩ rest hk
   obtain ⟨p0_,_⟩:=hp
   have q3_:=nz hcl 3 0 hD
   have q4_:=nz hcl 4 0 q3_
   simp only [hD,p0_,q3_,q4_,cq,oT] at ht hs
   subst ht
   refine QaP (args:=[agg (Qae a1).toArray]) rfl rfl (QaT rfl (callFunc_enter Try.func39 rfl rfl) rfl) (QbL.calls (a1:=a1) Hr8) ?_
   intro v9 w hs2
   have hs:St _ [_,_,_,_] _:=hs.call hs2
   show G _ _ _ _ [_,_,_,_,_,_,_,_,_,_,_,_,_,_,_,_,_] _
   have hs:=hs.fill 0 rfl
   refine hk _ _ ⟨v9,O,?_,hs.cast ?_⟩<;>simp only [oT,lq,cq,Nat.reduceBEq,p0_,q3_,q4_]
  ·
   rintro D t w hD hp hcl ⟨v9,O,ht,hs⟩ rest hk
   have q3_:=nz hcl 3 1 hD
   have q4_:=nz hcl 4 0 q3_
   simp only [hD,q3_,q4_,cq,oT] at ht hs
   subst ht
   refine QaG rfl rfl (es:=(Qau a2)) rfl rfl (fun _=>rfl) (n:=2) (fun _=>rfl) (QaL.len _) (cells_all (hs.cells 1 rfl)) ?_
   show G _ _ _ _ [_,_,_,_,_,_,_,_,_,_,_,_,_,_,_,_,_] _
   refine hk _ _ ⟨v9,O,?_,hs.cast ?_⟩<;>simp only [oT,lq,cq,Nat.reduceBEq,q3_,q4_]
  ·
   rintro D t w hD hp hcl ⟨v9,O,ht,hs⟩ rest hk
   obtain ⟨p1_,p2_,_,_⟩:=hp
   obtain ⟨p0_,_⟩:=(hcl.get 1 (by decide)) p1_
   have q4_:=nz hcl 4 0 hD
   simp only [hD,p0_,p1_,p2_,q4_,cq,oT] at ht hs
   subst ht
   refine QaP (args:=[v9,agg (Qau a2).toArray]) rfl rfl (QaT rfl (callFunc_enter Try.func52 rfl rfl) rfl) (QaI.calls (a1:=r8) (a3:=a2) (hs.row 0 rfl) Hr11) ?_
   rintro _ w ⟨rfl,hs2⟩
   have hs:St _ [_,_,_] _:=hs.call hs2
   show G _ _ _ _ [_,_,_,_,_,_,_,_,_,_,_,_,_,_,_,_,_] _
   refine hk _ _ ⟨v9,O,?_,hs.cast ?_⟩<;>simp only [oT,lq,cq,Nat.reduceBEq,p0_,p1_,p2_,q4_]
  ·
   rintro D t w hD hp hcl ⟨v9,O,ht,hs⟩ rest hk
   obtain ⟨p3_,_,p0_,p1_,p2_,_,_⟩:=hp
   simp only [hD,p0_,p1_,p2_,p3_,cq,oT] at ht hs
   subst ht
   refine Qab (v:=int .i64 r11) rfl rfl rfl ?_
   show G _ _ _ _ [_,_,_,_,_,_,_,_,_,_,_,_,_,_,_,_,_] _
   refine hk _ _ ⟨v9,O,?_,hs.cast ?_⟩<;>simp only [oT,lq,cq,Nat.reduceBEq,p0_,p1_,p2_,p3_]
  intro D t w hall hI
  obtain ⟨v9,O,ht,hs⟩:=hI
  have p0_:=hall 0 (by decide)
  have p1_:=hall 1 (by decide)
  have p2_:=hall 2 (by decide)
  have p3_:=hall 3 (by decide)
  have p4_:=hall 4 (by decide)
  simp only [p0_,p1_,p2_,p3_,p4_,cq,oT] at ht hs
  subst ht
  refine Qag (Qag (Qan [0,1] rfl ?_))
  refine Qab (v:=int .i64 r11) rfl rfl rfl ?_
  refine QaR (B:=decide (r11< 0)) rfl rfl rfl ?_ ?_
  ·
   intro hb
   rw [if_pos (b_dec_t hb)] at H
   refine Qaa (Qaw rfl (Qag (Qan [0,1] rfl ?_)))
   refine Qab (v:=int .i64 0) rfl rfl rfl ?_
   refine Qab (v:=int .i64 6) rfl rfl rfl ?_
   show G _ _ _ _ [_,_,_,_,_,_,_,_,_,_,_,_,_,_,_,_,_] _
   refine Qaa ?_
   obtain rfl:=QsJ H
   refine QaK Try.func24 (v:=tuple #[int .i64 0,int .i64 6]) (resN (l:=Try.f24.results.toList) (vs:=[int .i64 0,int .i64 6]) rfl ⟨rfl,rfl,trivial⟩ (by simp)) ?_
   have hs:St _ [] _:=St.take (Γ':=[_,_,_]) hs
   exact ⟨_,rfl,rfl,hs⟩
  intro hb
  rw [if_neg (b_dec_f hb)] at H
  show G _ _ _ _ [_,_,_,_,_,_,_,_,_,_,_,_,_,_,_,_,_] _
  refine Qaa (Qax rfl (QaS (Qag (Qan [0,1,2] rfl ?_))))
  refine Qab (v:=int .i64 r11) rfl rfl rfl ?_
  refine Qab (v:=int .i64 r11) rfl rfl rfl ?_
  refine Qab (v:=int .i64 0) rfl rfl rfl ?_
  show G _ _ _ _ [_,_,_,_,_,_,_,_,_,_,_,_,_,_,_,_,_] _
  refine Qaa ?_
  obtain rfl:=QsJ H
  refine QaK Try.func24 (v:=tuple #[int .i64 r11,int .i64 0]) (resN (l:=Try.f24.results.toList) (vs:=[int .i64 r11,int .i64 0]) rfl ⟨rfl,rfl,trivial⟩ (by simp)) ?_
  have hs:St _ [] _:=St.take (Γ':=[_,_,_]) hs
  exact ⟨_,rfl,rfl,hs⟩
 |false=>
  rw [if_neg Bool.false_ne_true] at H
  show G _ _ _ _ [_,_,_,_,_,_,_,_,_,_,_,_,_,_,_,_,_] _
  refine Qab (v:=bool true) rfl rfl rfl (Qaa (Qaw rfl (Qag (Qan [0,1] rfl ?_))))
  refine Qab (v:=int .i64 0) rfl rfl rfl ?_
  refine Qab (v:=int .i64 1) rfl rfl rfl ?_
  show G _ _ _ _ [_,_,_,_,_,_,_,_,_,_,_,_,_,_,_,_,_] _
  refine Qaa ?_
  obtain rfl:=QsJ H
  refine QaK Try.func24 (v:=tuple #[int .i64 0,int .i64 1]) (resN (l:=Try.f24.results.toList) (vs:=[int .i64 0,int .i64 1]) rfl ⟨rfl,rfl,trivial⟩ (by simp)) ?_
  have hs:St _ [] _:=St.take (Γ':=[_,_]) hs
  exact ⟨_,rfl,rfl,hs⟩
def Qb5.post (w0:World) (r:Int) (v:Value) (w:World):Prop:=v=int .i64 r∧St w0 [] w
theorem Qb5.calls {N:Nat} {a1:(List (Ar Int 14))} {v2:Value} {w0:World} {r:Int} (hr0:RdRow (K.ar 14 1 (encI .i8) (fkI .i8).len (fkI .i8).one) w0 v2 a1) (H:Qb5.f N a1=some r):
 Calls Try.prog 54 #[v2] w0 fun e w=>∃ v,e= .returned v∧Qb5.post w0 r v w:=by
 unfold Qb5.f at H
 have hs:St w0 [] w0:=St.refl w0
 refine calls_of_g (n:=4) Try.func54 rfl rfl ?_
 show G _ _ _ _ [_,_,_,_,_] _
 refine Qag (Qan [0] rfl ?_)
 refine Qab (v:=int .i64 0) rfl rfl rfl (Qaa (Qag (Qan [0,1,2] rfl ?_)))
 refine Qab (v:=v2) rfl rfl rfl ?_
 refine Qb1 (hs.rd hr0) rfl rfl rfl rfl rfl ?_
 show G _ _ _ _ [_,_,_,_,_] _
 refine Qab (v:=int .i64 (a1.length:Int)) rfl rfl rfl (Qaa ?_)
 obtain rfl:=QsJ H
 refine QaK Try.func54 (v:=int .i64 (a1.length:Int)) (res1 rfl rfl) ?_
 have hs:St _ [] _:=St.take (Γ':=[]) hs
 exact ⟨_,rfl,rfl,hs⟩
def QbM.post (w0:World) (r:Int) (v:Value) (w:World):Prop:=v=int .i64 r∧St w0 [] w
theorem QbM.calls {N:Nat} {a1:(List Qai)} {v2:Value} {w0:World} {r:Int} (hr0:RdRow Qah w0 v2 a1) (H:QbM.f N a1=some r):
 Calls Try.prog 55 #[v2] w0 fun e w=>∃ v,e= .returned v∧QbM.post w0 r v w:=by
 unfold QbM.f at H
 have hs:St w0 [] w0:=St.refl w0
 refine calls_of_g (n:=4) Try.func55 rfl rfl ?_
 show G _ _ _ _ [_,_,_,_,_] _
 refine Qag (Qan [0] rfl ?_)
 refine Qab (v:=int .i64 0) rfl rfl rfl (Qaa (Qag (Qan [0,1,2] rfl ?_)))
 refine Qab (v:=v2) rfl rfl rfl ?_
 refine Qb1 (hs.rd hr0) rfl rfl rfl rfl rfl ?_
 show G _ _ _ _ [_,_,_,_,_] _
 refine Qab (v:=int .i64 (a1.length:Int)) rfl rfl rfl (Qaa ?_)
 obtain rfl:=QsJ H
 refine QaK Try.func55 (v:=int .i64 (a1.length:Int)) (res1 rfl rfl) ?_
 have hs:St _ [] _:=St.take (Γ':=[]) hs
 exact ⟨_,rfl,rfl,hs⟩
end Go.Proofs.YtgpdpedpmhonkaaX
