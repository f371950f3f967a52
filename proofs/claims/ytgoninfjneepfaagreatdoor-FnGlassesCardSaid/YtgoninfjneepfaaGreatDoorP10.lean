import Derived.Test.YtgoninfjneepfaaGreatDoorP9
namespace Go.Proofs.YtgoninfjneepfaaGreatDoorX
open Go Go.RowKit Go.Proofs
open Go.Value (int pointer bool agg slice string tuple)
set_option maxHeartbeats 8000000
set_option maxRecDepth 100000
set_option linter.unusedVariables false
set_option linter.unusedSimpArgs false
def Qbn.post (w0:World) (r:((List Int)×(Ar Int 4)×Int)) (v:Value) (w:World):Prop:=∃ u1:Value,v=tuple #[u1,agg ((encA (encI .i16)) r.2.1).toArray,int .i64 r.2.2]∧St w0 [Row 26 (K.int .i16) u1 r.1] w
theorem Qbn.calls {N : Nat} {a1 : ByteArray} {w0 : World} {r : ((List Int) × (Ar Int 4) × Int)} (htab : Lib.TabIs Tryz.prog w0 "internal/strconv.uint64pow10" .u64 Lib.pow10Tab) (hmax : CellI w0 0) (hsyn : CellE w0 1) (hrng : CellE w0 2) (H : Qbn.f N a1 = some r) :
 Calls Tryz.prog 9 #[string a1] w0 fun e w=>∃ v,e= .returned v∧Qbn.post w0 r v w:=by
 unfold Qbn.f at H
 have hs:St w0 [] w0:=St.refl w0
 refine calls_of_g (n:=25) Tryz.func9 rfl rfl ?_
 show G _ _ _ _ [_,_,_,_,_,_,_,_,_,_,_,_,_,_,_,_,_,_,_,_,_,_,_,_,_,_] _
 refine Qad (Qag [0,1,2] rfl ?_)
 refine Qaa (v:=slice none 0 0) rfl rfl rfl ?_
 show G _ _ _ _ [_,_,_,_,_,_,_,_,_,_,_,_,_,_,_,_,_,_,_,_,_,_,_,_,_,_] _
 refine Qa8 hs rfl rfl (z:=(agg #[int .i16 0,int .i16 0,int .i16 0,int .i16 0])) (cs:=((encA (encI .i16)) (Ar.rep 4 0))) rfl (fun _=>rfl) rfl ?_
 intro b2 w hs
 refine Qaa (v:=int .i64 0) rfl rfl rfl (Qab (Qad (Qag [0,1,2,3,4,5,6,7,8,9,10] rfl ?_)))
 refine Qaa (v:=string a1) rfl rfl rfl ?_
 obtain ⟨r4,Hr4,H⟩:=bind_get H
 refine QaB (args:=[string a1,string (⟨#[32]⟩:ByteArray)]) rfl rfl (QaC rfl (callFunc_enter Tryz.func30 rfl rfl) rfl) (strings_Split.calls (a1:=a1) (a2:=(⟨#[32]⟩:ByteArray)) (hs.cellI hmax) Hr4) ?_
 intro v5 w hs2
 have hs:St _ [_,_] _:=hs.call hs2
 show G _ _ _ _ [_,_,_,_,_,_,_,_,_,_,_,_,_,_,_,_,_,_,_,_,_,_,_,_,_,_] _
 obtain ⟨r7,Hr7,H⟩:=bind_get H
 refine QaB (args:=[v5,int .i64 40]) rfl rfl (QaC rfl (callFunc_enter Tryz.func29 rfl rfl) rfl) (QaQ.calls (a1:=r4) (a3:=40) (hs.tab htab) (hs.cellI hmax) (hs.cellE hsyn) (hs.cellE hrng) (hs.row 0 rfl) Hr7) ?_
 rintro _ w ⟨v8,rfl,hs2⟩
 have hs:St _ [_,_,_] _:=hs.call hs2
 refine Qaa (v:=tuple #[agg ((encA (encI .i16)) r7.1).toArray,v8,bool r7.2.2]) rfl rfl rfl ?_
 refine Qaa (v:=agg ((encA (encI .i16)) r7.1).toArray) rfl rfl rfl ?_
 refine Qaa (v:=v8) rfl rfl rfl ?_
 refine Qaa (v:=bool r7.2.2) rfl rfl rfl ?_
 refine Qa8 hs rfl rfl (z:=(agg #[int .i16 0,int .i16 0,int .i16 0,int .i16 0])) (cs:=((encA (encI .i16)) (Ar.rep 4 0))) rfl (fun _=>rfl) rfl ?_
 intro b10 w hs
 refine QaH (n:=4) hs ((fkA (n:=4) (he:=(fkI .i16).len) (h1:=(fkI .i16).one)).len _) rfl rfl (vs:=((encA (encI .i16)) r7.1)) rfl rfl rfl (fun _=>rfl) ((fkA (n:=4) (he:=(fkI .i16).len) (h1:=(fkI .i16).one)).len _) ((fkA (n:=4) (he:=(fkI .i16).len) (h1:=(fkI .i16).one)).one _) ?_
 intro w hs
 refine Qaa (v:=v8) rfl rfl rfl ?_
 show G _ _ _ _ [_,_,_,_,_,_,_,_,_,_,_,_,_,_,_,_,_,_,_,_,_,_,_,_,_,_] _
 refine Qaa (v:=bool r7.2.2) rfl rfl rfl (Qab (Qad (Qad (Qag [0,1,2,3,4,5,6,7] rfl ?_))))
 refine Qap (B:=r7.2.2) rfl rfl rfl ?_ ?_
 ·
  intro hb
  rw [if_pos (b_var_t hb)] at H
  refine Qaa (v:=bool false) rfl rfl rfl ?_
  refine Qaa (v:=bool false) rfl rfl rfl ?_
  refine Qaa (v:=v8) rfl rfl rfl ?_
  refine QaG rfl rfl (es:=((encA (encI .i16)) r7.1)) rfl rfl (fun _=>rfl) (n:=4) (fun _=>rfl) ((fkA (n:=4) (he:=(fkI .i16).len) (h1:=(fkI .i16).one)).len _) (cells_all (hs.cells 0 rfl)) ?_
  obtain ⟨r12,Hr12,H⟩:=bind_get H
  refine QaB (args:=[v8,agg ((encA (encI .i16)) r7.1).toArray]) rfl rfl (QaC rfl (callFunc_enter Tryz.func12 rfl rfl) rfl) (QaM.calls (a1:=r7.2.1) (a3:=r7.1) (hs.row 1 rfl) Hr12) ?_
  rintro _ w ⟨rfl,hs2⟩
  have hs:St _ [_,_,_,_] _:=hs.call hs2
  cases r12 with
  |true=>
   rw [if_pos rfl] at H
   show G _ _ _ _ [_,_,_,_,_,_,_,_,_,_,_,_,_,_,_,_,_,_,_,_,_,_,_,_,_,_] _
   refine Qaa (v:=bool false) rfl rfl rfl ?_
   refine Qaa (v:=bool false) rfl rfl rfl (Qab (Qal rfl (Qay (Qad ?_))))
   refine Qbe ?_
   intro T hT
   refine QbM (n:=5) rfl [0,1,2,3,4] [0,2,1,3,4] rfl rfl (Inv:=fun D t w=>∃ O:Nat→Value,t=[string a1,O 1,cnd (D 2) v8 (slice none 0 0),pointer (some ⟨b2,0,none⟩),cnd (D 4) (int .i64 0) (int .i64 0),pointer (some ⟨b10,0,none⟩),v8,bool r7.2.2,tuple #[agg ((encA (encI .i16)) r7.1).toArray,v8,bool r7.2.2],string a1,v5,tuple #[agg ((encA (encI .i16)) r7.1).toArray,v8,bool r7.2.2],agg ((encA (encI .i16)) r7.1).toArray,v8,bool r7.2.2,bool true,bool false,bool false,v8,agg ((encA (encI .i16)) r7.1).toArray,bool true,bool false,bool false,O 23,cnd (D 0) v8 (O 24),cnd (D 1) (agg ((encA (encI .i16)) r7.1).toArray) (O 25)]∧St w0 [Cells b10 ((encA (encI .i16)) r7.1) 27,Row 26 (K.int .i16) v8 r7.2.1,Row 9 K.str v5 r4,Cells b2 (cnd (D 3) ((encA (encI .i16)) r7.1) ((encA (encI .i16)) (Ar.rep 4 0))) 28] w) ?_ ⟨⟨⟨⟨⟨trivial,?_⟩,?_⟩,?_⟩,?_⟩,?_⟩ ?_
   ·
    intro w hh hbw
    have hs:=hs.samew hh hbw
    exact ⟨fun i=>T.getD i undef,(by subst hT;rfl),hs⟩
   ·
    rintro D t w hD hp hcl ⟨O,ht,hs⟩ rest hk
    have q2_:=nz hcl 2 0 hD
    have q3_:=nz hcl 3 1 q2_
    have q4_:=nz hcl 4 0 q3_
    simp only [hD,q2_,q3_,q4_,cq,oT] at ht hs
    subst ht
    refine Qaa (v:=v8) rfl rfl rfl ?_
    show G _ _ _ _ [_,_,_,_,_,_,_,_,_,_,_,_,_,_,_,_,_,_,_,_,_,_,_,_,_,_] _
    refine hk _ _ ⟨O,?_,hs.cast ?_⟩<;>simp only [oT,lq,cq,Nat.reduceBEq,q2_,q3_,q4_]
   ·
    rintro D t w hD hp hcl ⟨O,ht,hs⟩ rest hk
    have q3_:=nz hcl 3 0 hD
    have q4_:=nz hcl 4 0 q3_
    simp only [hD,q3_,q4_,cq,oT] at ht hs
    subst ht
    refine QaG rfl rfl (es:=((encA (encI .i16)) r7.1)) rfl rfl (fun _=>rfl) (n:=4) (fun _=>rfl) ((fkA (n:=4) (he:=(fkI .i16).len) (h1:=(fkI .i16).one)).len _) (cells_all (hs.cells 0 rfl)) ?_
    show G _ _ _ _ [_,_,_,_,_,_,_,_,_,_,_,_,_,_,_,_,_,_,_,_,_,_,_,_,_,_] _
    refine hk _ _ ⟨O,?_,hs.cast ?_⟩<;>simp only [oT,lq,cq,Nat.reduceBEq,q3_,q4_]
   ·
    rintro D t w hD hp hcl ⟨O,ht,hs⟩ rest hk
    obtain ⟨p0_,_,_⟩:=hp
    have q3_:=nz hcl 3 1 hD
    have q4_:=nz hcl 4 0 q3_
    simp only [hD,p0_,q3_,q4_,cq,oT] at ht hs
    subst ht
    refine Qaa (v:=v8) rfl rfl rfl ?_
    show G _ _ _ _ [_,_,_,_,_,_,_,_,_,_,_,_,_,_,_,_,_,_,_,_,_,_,_,_,_,_] _
    refine hk _ _ ⟨O,?_,hs.cast ?_⟩<;>simp only [oT,lq,cq,Nat.reduceBEq,p0_,q3_,q4_]
   ·
    rintro D t w hD hp hcl ⟨O,ht,hs⟩ rest hk
    obtain ⟨p1_,p2_,p0_,_,_,_⟩:=hp
    have q4_:=nz hcl 4 0 hD
    simp only [hD,p0_,p1_,p2_,q4_,cq,oT] at ht hs
    subst ht
    have hs:St _ [_,_,_,_] _:=hs.pull 3 rfl
    refine QaH (n:=4) hs ((fkA (n:=4) (he:=(fkI .i16).len) (h1:=(fkI .i16).one)).len _) rfl rfl (vs:=((encA (encI .i16)) r7.1)) rfl rfl rfl (fun _=>rfl) ((fkA (n:=4) (he:=(fkI .i16).len) (h1:=(fkI .i16).one)).len _) ((fkA (n:=4) (he:=(fkI .i16).len) (h1:=(fkI .i16).one)).one _) ?_
    intro w hs
    show G _ _ _ _ [_,_,_,_,_,_,_,_,_,_,_,_,_,_,_,_,_,_,_,_,_,_,_,_,_,_] _
    have hs:=hs.push 3 (by simp)
    refine hk _ _ ⟨O,?_,hs.cast ?_⟩<;>simp only [oT,lq,cq,Nat.reduceBEq,p0_,p1_,p2_,q4_]
   ·
    rintro D t w hD hp hcl ⟨O,ht,hs⟩ rest hk
    obtain ⟨p3_,p0_,p1_,p2_,_,_⟩:=hp
    simp only [hD,p0_,p1_,p2_,p3_,cq,oT] at ht hs
    subst ht
    refine Qaa (v:=int .i64 0) rfl rfl rfl ?_
    show G _ _ _ _ [_,_,_,_,_,_,_,_,_,_,_,_,_,_,_,_,_,_,_,_,_,_,_,_,_,_] _
    refine hk _ _ ⟨O,?_,hs.cast ?_⟩<;>simp only [oT,lq,cq,Nat.reduceBEq,p0_,p1_,p2_,p3_]
   intro D t w hall hI
   obtain ⟨O,ht,hs⟩:=hI
   have p0_:=hall 0 (by decide)
   have p1_:=hall 1 (by decide)
   have p2_:=hall 2 (by decide)
   have p3_:=hall 3 (by decide)
   have p4_:=hall 4 (by decide)
   simp only [p0_,p1_,p2_,p3_,p4_,cq,oT] at ht hs
   subst ht
   obtain rfl:=QsJ H
   refine Qas Tryz.func9 (v:=tuple #[v8,agg ((encA (encI .i16)) r7.1).toArray,int .i64 0]) (resN (l:=Tryz.f9.results.toList) (vs:=[v8,agg ((encA (encI .i16)) r7.1).toArray,int .i64 0]) rfl ⟨rfl,⟨_,rfl,(run_loadVar_agg (es:=((encA (encI .i16)) r7.1)) rfl (congrArg (Result.ok · _) ((fkA (n:=4) (he:=(fkI .i16).len) (h1:=(fkI .i16).one)).len _).symm) (cells_all (hs.cells 3 rfl)))⟩,rfl,trivial⟩ (by simp)) ?_
   have hs:=hs.pull 1 rfl
   have hs:St _ [_] _:=St.take (Γ':=[_,_,_]) hs
   exact ⟨_,rfl,v8,rfl,hs⟩
  |false=>
   rw [if_neg Bool.false_ne_true] at H
   show G _ _ _ _ [_,_,_,_,_,_,_,_,_,_,_,_,_,_,_,_,_,_,_,_,_,_,_,_,_,_] _
   refine Qaa (v:=bool true) rfl rfl rfl ?_
   refine Qaa (v:=bool true) rfl rfl rfl (Qab (Qah rfl (Qad (Qag [0,1,2,3] rfl ?_))))
   refine Qaa (v:=agg ((encA (encI .i16)) (Ar.rep 4 0)).toArray) rfl rfl (QbK rfl rfl) ?_
   show G _ _ _ _ [_,_,_,_,_,_,_,_,_,_,_,_,_,_,_,_,_,_,_,_,_,_,_,_,_,_] _
   refine Qaa (v:=slice none 0 0) rfl rfl rfl ?_
   have hs:St _ [_,_,_,_] _:=hs.pull 3 rfl
   refine QaH (n:=4) hs ((fkA (n:=4) (he:=(fkI .i16).len) (h1:=(fkI .i16).one)).len _) rfl rfl (vs:=((encA (encI .i16)) (Ar.rep 4 0))) rfl rfl rfl (fun _=>rfl) ((fkA (n:=4) (he:=(fkI .i16).len) (h1:=(fkI .i16).one)).len _) ((fkA (n:=4) (he:=(fkI .i16).len) (h1:=(fkI .i16).one)).one _) ?_
   intro w hs
   refine Qaa (v:=int .i64 5) rfl rfl rfl (Qab ?_)
   obtain rfl:=QsJ H
   refine Qas Tryz.func9 (v:=tuple #[slice none 0 0,agg ((encA (encI .i16)) (Ar.rep 4 0)).toArray,int .i64 5]) (resN (l:=Tryz.f9.results.toList) (vs:=[slice none 0 0,agg ((encA (encI .i16)) (Ar.rep 4 0)).toArray,int .i64 5]) rfl ⟨rfl,⟨_,rfl,(run_loadVar_agg (es:=((encA (encI .i16)) (Ar.rep 4 0))) rfl (congrArg (Result.ok · _) ((fkA (n:=4) (he:=(fkI .i16).len) (h1:=(fkI .i16).one)).len _).symm) (cells_all (hs.cells 0 rfl)))⟩,rfl,trivial⟩ (by simp)) ?_
   have hs:=hs.nil 26 (K.int .i16)
   have hs:=hs.pull 0 rfl
   have hs:St _ [_] _:=St.take (Γ':=[_,_,_,_]) hs
   exact ⟨_,rfl,(slice none 0 0),rfl,hs⟩
 intro hb
 rw [if_neg (b_var_f hb)] at H
 refine Qaa (v:=bool true) rfl rfl rfl ?_
 refine Qaa (v:=bool true) rfl rfl rfl (Qac rfl rfl (Qac rfl rfl ?_))
 show G _ _ _ _ [_,_,_,_,_,_,_,_,_,_,_,_,_,_,_,_,_,_,_,_,_,_,_,_,_,_] _
 refine Qac rfl rfl (Qac rfl rfl ?_)
 refine Qaa (v:=bool true) rfl rfl rfl ?_
 show G _ _ _ _ [_,_,_,_,_,_,_,_,_,_,_,_,_,_,_,_,_,_,_,_,_,_,_,_,_,_] _
 refine Qab (Qah rfl (Qad (Qag [0,1,2,3] rfl ?_)))
 refine Qaa (v:=agg ((encA (encI .i16)) (Ar.rep 4 0)).toArray) rfl rfl (QbK rfl rfl) ?_
 refine Qaa (v:=slice none 0 0) rfl rfl rfl ?_
 have hs:St _ [_,_,_,_] _:=hs.pull 3 rfl
 refine QaH (n:=4) hs ((fkA (n:=4) (he:=(fkI .i16).len) (h1:=(fkI .i16).one)).len _) rfl rfl (vs:=((encA (encI .i16)) (Ar.rep 4 0))) rfl rfl rfl (fun _=>rfl) ((fkA (n:=4) (he:=(fkI .i16).len) (h1:=(fkI .i16).one)).len _) ((fkA (n:=4) (he:=(fkI .i16).len) (h1:=(fkI .i16).one)).one _) ?_
 intro w hs
 refine Qaa (v:=int .i64 5) rfl rfl rfl ?_
 show G _ _ _ _ [_,_,_,_,_,_,_,_,_,_,_,_,_,_,_,_,_,_,_,_,_,_,_,_,_,_] _
 refine Qab ?_
 obtain rfl:=QsJ H
 refine Qas Tryz.func9 (v:=tuple #[slice none 0 0,agg ((encA (encI .i16)) (Ar.rep 4 0)).toArray,int .i64 5]) (resN (l:=Tryz.f9.results.toList) (vs:=[slice none 0 0,agg ((encA (encI .i16)) (Ar.rep 4 0)).toArray,int .i64 5]) rfl ⟨rfl,⟨_,rfl,(run_loadVar_agg (es:=((encA (encI .i16)) (Ar.rep 4 0))) rfl (congrArg (Result.ok · _) ((fkA (n:=4) (he:=(fkI .i16).len) (h1:=(fkI .i16).one)).len _).symm) (cells_all (hs.cells 0 rfl)))⟩,rfl,trivial⟩ (by simp)) ?_
 have hs:=hs.nil 26 (K.int .i16)
 have hs:=hs.pull 0 rfl
 have hs:St _ [_] _:=St.take (Γ':=[_,_,_,_]) hs
 exact ⟨_,rfl,(slice none 0 0),rfl,hs⟩
def Qaw.post (w0:World) (r:((Ar Int 4)×Int)) (v:Value) (w:World):Prop:=v=tuple #[agg ((encA (encI .i16)) r.1).toArray,int .i64 r.2]∧St w0 [] w
theorem Qaw.calls {N:Nat} {a1:(Ar Int 4)} {w0:World} {r:((Ar Int 4)×Int)} (H:Qaw.f N a1=some r):
 Calls Tryz.prog 39 #[agg ((encA (encI .i16)) a1).toArray] w0 fun e w=>∃ v,e= .returned v∧Qaw.post w0 r v w:=by
 unfold Qaw.f at H
 have hs:St w0 [] w0:=St.refl w0
 refine calls_of_g (n:=39) Tryz.func39 rfl rfl ?_
 show G _ _ _ _ [_,_,_,_,_,_,_,_,_,_,_,_,_,_,_,_,_,_,_,_,_,_,_,_,_,_,_,_,_,_,_,_,_,_,_,_,_,_,_,_] _
 refine Qad (Qag [0,1,2] rfl ?_)
 refine Qbq hs rfl rfl (cs:=((encA (encI .i16)) a1)) rfl rfl ?_
 intro b2 w hs
 refine Qa8 hs rfl rfl (z:=(agg #[int .i16 0,int .i16 0,int .i16 0,int .i16 0])) (cs:=((encA (encI .i16)) (Ar.rep 4 0))) rfl (fun _=>rfl) rfl ?_
 intro b4 w hs
 refine Qaa (v:=int .i64 0) rfl rfl rfl ?_
 show G _ _ _ _ [_,_,_,_,_,_,_,_,_,_,_,_,_,_,_,_,_,_,_,_,_,_,_,_,_,_,_,_,_,_,_,_,_,_,_,_,_,_,_,_] _
 refine Qab (Qad (Qag [0] rfl ?_))
 refine Qaa (v:=int .i16 0) rfl rfl rfl (Qab (Qad (Qad (Qag [0,1] rfl ?_))))
 refine QaG rfl rfl (es:=((encA (encI .i16)) a1)) rfl rfl (fun _=>rfl) (n:=4) (fun _=>rfl) ((fkA (n:=4) (he:=(fkI .i16).len) (h1:=(fkI .i16).one)).len _) (cells_all (hs.cells 1 rfl)) ?_
 refine Qaa (v:=int .i64 0) rfl rfl rfl (Qab ?_)
 obtain ⟨o1_,Ho,Hr1_⟩:=bind_get H
 refine Qax (J:=fun t w=>∃ x9:Int,Qaw.a0 N a1 x9=some r∧Fr t (fun O=>([O 0,pointer (some ⟨b2,0,none⟩),pointer (some ⟨b4,0,none⟩),O 3,int .i16 x9,O 5,O 6,O 7,O 8,O 9,O 10,O 11,O 12,O 13,O 14,O 15,O 16,O 17,O 18,O 19,O 20,O 21,O 22,O 23,O 24,O 25,O 26,O 27,O 28,O 29,O 30,O 31,O 32,O 33,O 34,O 35,O 36,O 37,O 38,O 39]:List Value))∧St w0 [Cells b2 ((encA (encI .i16)) a1) 28,Cells b4 ((encA (encI .i16)) (Ar.rep 4 0)) 28] w) ?_ ?_
 ·
  rintro t w ⟨x9,H,hf,hs⟩
  obtain ⟨O,rfl⟩:=hf.open
  show G _ _ _ _ [_,_,_,_,_,_,_,_,_,_,_,_,_,_,_,_,_,_,_,_,_,_,_,_,_,_,_,_,_,_,_,_,_,_,_,_,_,_,_,_] _
  unfold Qaw.a0 at H
  refine Qad (Qad (Qag [0] rfl ?_))
  refine Qaa (v:=int .i64 0) rfl rfl rfl (Qab ?_)
  obtain ⟨o1_,Ho,Hr1_⟩:=bind_get H
  refine Qax (J:=fun t w=>∃ x13:(Ar Int 4),Qaw.a2 N x9 x13=some r∧Fr t (fun O=>([O 0,pointer (some ⟨b2,0,none⟩),pointer (some ⟨b4,0,none⟩),O 3,int .i16 x9,O 5,O 6,O 7,O 8,O 9,O 10,O 11,O 12,O 13,O 14,O 15,O 16,O 17,O 18,O 19,O 20,O 21,O 22,O 23,O 24,O 25,O 26,O 27,O 28,O 29,O 30,O 31,O 32,O 33,O 34,O 35,O 36,O 37,O 38,O 39]:List Value))∧St w0 [Cells b2 ((encA (encI .i16)) x13) 28,Cells b4 ((encA (encI .i16)) (Ar.rep 4 0)) 28] w) ?_ ?_
  ·
   rintro t w ⟨x13,H,hf,hs⟩
   obtain ⟨O,rfl⟩:=hf.open
   show G _ _ _ _ [_,_,_,_,_,_,_,_,_,_,_,_,_,_,_,_,_,_,_,_,_,_,_,_,_,_,_,_,_,_,_,_,_,_,_,_,_,_,_,_] _
   unfold Qaw.a2 at H
   refine Qad (Qag [0,1,2,3,4] rfl ?_)
   refine QaG rfl rfl (es:=((encA (encI .i16)) x13)) rfl rfl (fun _=>rfl) (n:=4) (fun _=>rfl) ((fkA (n:=4) (he:=(fkI .i16).len) (h1:=(fkI .i16).one)).len _) (cells_all (hs.cells 0 rfl)) ?_
   refine Qaa (v:=int .i16 x9) rfl rfl rfl ?_
   refine Qaa (v:=int .i64 (i64w x9)) rfl rfl rfl ?_
   have hs:St _ [_,_] _:=hs.pull 1 rfl
   refine QaH (n:=4) hs ((fkA (n:=4) (he:=(fkI .i16).len) (h1:=(fkI .i16).one)).len _) rfl rfl (vs:=((encA (encI .i16)) x13)) rfl rfl rfl (fun _=>rfl) ((fkA (n:=4) (he:=(fkI .i16).len) (h1:=(fkI .i16).one)).len _) ((fkA (n:=4) (he:=(fkI .i16).len) (h1:=(fkI .i16).one)).one _) ?_
   intro w hs
   refine Qaa (v:=int .i64 (i64w x9)) rfl rfl rfl (Qab ?_)
   obtain rfl:=QsJ H
   refine Qas Tryz.func39 (v:=tuple #[agg ((encA (encI .i16)) x13).toArray,int .i64 (i64w x9)]) (resN (l:=Tryz.f39.results.toList) (vs:=[agg ((encA (encI .i16)) x13).toArray,int .i64 (i64w x9)]) rfl ⟨⟨_,rfl,(run_loadVar_agg (es:=((encA (encI .i16)) x13)) rfl (congrArg (Result.ok · _) ((fkA (n:=4) (he:=(fkI .i16).len) (h1:=(fkI .i16).one)).len _).symm) (cells_all (hs.cells 0 rfl)))⟩,rfl,trivial⟩ (by simp)) ?_
   have hs:St _ [] _:=St.take (Γ':=[_,_]) hs
   exact ⟨_,rfl,rfl,hs⟩
  intro ha1_
  have hs:=hs.pull 1 rfl
  have hs:=hs.pull 1 rfl
  have hs:St _ [_,_] _:=St.take (Γ':=[]) hs
  refine QaL (I:=fun n_ t w=>∃ x11:(Ar Int 4),∃ x12:Int,rounds (fun s=>Qaw.b2 N x9 s.1 s.2) n_ (x11,x12)=some o1_∧Fr t (fun O=>([O 0,pointer (some ⟨b2,0,none⟩),pointer (some ⟨b4,0,none⟩),O 3,int .i16 x9,O 5,O 6,O 7,O 8,O 9,O 10,O 11,O 12,O 13,O 14,O 15,O 16,O 17,O 18,O 19,O 20,O 21,O 22,O 23,O 24,int .i64 x12,O 26,O 27,O 28,O 29,O 30,O 31,O 32,O 33,O 34,O 35,O 36,O 37,O 38,O 39]:List Value))∧St w0 [Cells b2 ((encA (encI .i16)) x11) 28,Cells b4 ((encA (encI .i16)) (Ar.rep 4 0)) 28] w) N ⟨a1,0,Ho,rfl,hs⟩ ?_ ?_
  ·
   rintro _ _ ⟨x11,x12,h,_⟩
   exact rounds_zero h
  intro n_ ih1_
  rintro t w ⟨x11,x12,Ho,hf,hs⟩
  obtain ⟨O,rfl⟩:=hf.open
  show G _ _ _ _ [_,_,_,_,_,_,_,_,_,_,_,_,_,_,_,_,_,_,_,_,_,_,_,_,_,_,_,_,_,_,_,_,_,_,_,_,_,_,_,_] _
  obtain ⟨x6_,H,Hx1_⟩:=rounds_succ Ho
  have H:Qaw.b2 N x9 x11 x12=some x6_:=H
  unfold Qaw.b2 at H
  refine Qad (Qag [0] rfl ?_)
  refine Qap (B:=decide (x12< 4)) rfl rfl rfl ?_ ?_
  ·
   intro hb
   rw [if_pos (b_dec_t hb)] at H
   refine Qab (Qad (Qah rfl (Qay (Qad ?_))))
   refine Qbh (Qad (Qag [0,1] rfl ?_))
   refine Qaa (v:=int .i64 x12) rfl rfl rfl ?_
   refine Qaa (v:=int .i64 x12) rfl rfl rfl ?_
   show G _ _ _ _ [_,_,_,_,_,_,_,_,_,_,_,_,_,_,_,_,_,_,_,_,_,_,_,_,_,_,_,_,_,_,_,_,_,_,_,_,_,_,_,_] _
   refine Qab (Qag [0,1,2,3,4,5,6,7,8] rfl ?_)
   refine Qaa (v:=int .i64 x12) rfl rfl rfl ?_
   refine Qaa (v:=int .i64 x12) rfl rfl rfl ?_
   obtain ⟨g4,H⟩:=ite_get H
   refine Qbp (n:=x12) (m:=1) rfl (fun _=>rfl) g4.1 g4.2 rfl rfl rfl rfl rfl ?_
   refine Qat rfl rfl (v:=int .i16 (x11.get x12 0)) rfl rfl (fun _=>rfl) (by rw [Nat.zero_add];exact cells_load (hs.cells 0 rfl) _ _ (encA_at (fkI .i16).len _ _ 0 g4.1 g4.2)) ?_
   refine Qaa (v:=int .i16 x9) rfl rfl rfl ?_
   refine Qaa (v:=int .i16 (i16w ((x11.get x12 0) - x9))) rfl rfl rfl ?_
   show G _ _ _ _ [_,_,_,_,_,_,_,_,_,_,_,_,_,_,_,_,_,_,_,_,_,_,_,_,_,_,_,_,_,_,_,_,_,_,_,_,_,_,_,_] _
   refine Qaa (v:=int .i16 (mxI (i16w ((x11.get x12 0) - x9)) 0)) rfl rfl (Qcn rfl rfl rfl) ?_
   obtain ⟨g5,H⟩:=ite_get H
   refine Qbp (n:=x12) (m:=1) rfl (fun _=>rfl) g5.1 g5.2 rfl rfl rfl rfl rfl ?_
   refine QbN (y:=mxI (i16w ((x11.get x12 0) - x9)) 0) (fkI .i16).len (fkI .i16).one g5.1 g5.2 hs rfl rfl rfl rfl rfl (fun _=>rfl) ?_
   intro w hs
   refine Qab ?_
   refine QaE (Qag [0,1] rfl ?_)
   refine Qaa (v:=int .i64 (i64w (x12+1))) rfl rfl rfl ?_
   show G _ _ _ _ [_,_,_,_,_,_,_,_,_,_,_,_,_,_,_,_,_,_,_,_,_,_,_,_,_,_,_,_,_,_,_,_,_,_,_,_,_,_,_,_] _
   refine Qaa (v:=int .i64 (i64w (x12+1))) rfl rfl rfl (Qab ?_)
   obtain rfl:=QsJ H
   have hs:=hs.pull 1 rfl
   have hs:=hs.pull 1 rfl
   have hs:St _ [_,_] _:=St.take (Γ':=[]) hs
   exact ih1_ _ _ ⟨x11.set x12 (mxI (i16w ((x11.get x12 0) - x9)) 0),i64w (x12+1),Hx1_,rfl,hs⟩
  intro hb
  rw [if_neg (b_dec_f hb)] at H
  refine Qab (Qad (Qal rfl ?_))
  obtain rfl:=QsJ H
  subst Hx1_
  have hs:=hs.pull 1 rfl
  have hs:=hs.pull 1 rfl
  have hs:St _ [_,_] _:=St.take (Γ':=[]) hs
  refine Qa7 rfl ?_
  exact ha1_ _ _ ⟨x11,Hr1_,rfl,hs⟩
 intro ha1_
 have hs:=hs.pull 0 rfl
 have hs:=hs.pull 1 rfl
 have hs:St _ [_,_] _:=St.take (Γ':=[]) hs
 refine QaL (I:=fun n_ t w=>∃ x6:Int,∃ x7:Int,rounds (fun s=>Qaw.b0 N a1 s.1 s.2) n_ (x6,x7)=some o1_∧Fr t (fun O=>([O 0,pointer (some ⟨b2,0,none⟩),pointer (some ⟨b4,0,none⟩),O 3,int .i16 x6,O 5,O 6,O 7,agg ((encA (encI .i16)) a1).toArray,int .i64 x7,O 10,O 11,O 12,O 13,O 14,O 15,O 16,O 17,O 18,O 19,O 20,O 21,O 22,O 23,O 24,O 25,O 26,O 27,O 28,O 29,O 30,O 31,O 32,O 33,O 34,O 35,O 36,O 37,O 38,O 39]:List Value))∧St w0 [Cells b2 ((encA (encI .i16)) a1) 28,Cells b4 ((encA (encI .i16)) (Ar.rep 4 0)) 28] w) N ⟨0,0,Ho,rfl,hs⟩ ?_ ?_
 ·
  rintro _ _ ⟨x6,x7,h,_⟩
  exact rounds_zero h
 intro n_ ih1_
 rintro t w ⟨x6,x7,Ho,hf,hs⟩
 obtain ⟨O,rfl⟩:=hf.open
 show G _ _ _ _ [_,_,_,_,_,_,_,_,_,_,_,_,_,_,_,_,_,_,_,_,_,_,_,_,_,_,_,_,_,_,_,_,_,_,_,_,_,_,_,_] _
 obtain ⟨x7_,H,Hx1_⟩:=rounds_succ Ho
 have H:Qaw.b0 N a1 x6 x7=some x7_:=H
 unfold Qaw.b0 at H
 refine Qad (Qag [0] rfl ?_)
 refine Qap (B:=decide (x7< 4)) rfl rfl rfl ?_ ?_
 ·
  intro hb
  rw [if_pos (b_dec_t hb)] at H
  refine Qab (Qad (Qah rfl (Qay (Qad ?_))))
  refine Qax (J:=(fun t w=>∃ x8:Int,Qaw.j4 N x7 x8=some x7_∧Fr t (fun O=>([O 0,pointer (some ⟨b2,0,none⟩),pointer (some ⟨b4,0,none⟩),O 3,int .i16 x8,O 5,O 6,O 7,agg ((encA (encI .i16)) a1).toArray,int .i64 x7,O 10,O 11,O 12,O 13,O 14,O 15,O 16,O 17,O 18,O 19,O 20,O 21,O 22,O 23,O 24,O 25,O 26,O 27,O 28,O 29,O 30,O 31,O 32,O 33,O 34,O 35,O 36,O 37,O 38,O 39]:List Value))∧St w0 [Cells b2 ((encA (encI .i16)) a1) 28,Cells b4 ((encA (encI .i16)) (Ar.rep 4 0)) 28] w)) ?_ ?_
  ·
   rintro t w ⟨x8,H,hf,hs⟩
   obtain ⟨O,rfl⟩:=hf.open
   show G _ _ _ _ [_,_,_,_,_,_,_,_,_,_,_,_,_,_,_,_,_,_,_,_,_,_,_,_,_,_,_,_,_,_,_,_,_,_,_,_,_,_,_,_] _
   unfold Qaw.j4 at H
   refine Qag [0,1] rfl ?_
   refine Qaa (v:=int .i64 (i64w (x7+1))) rfl rfl rfl ?_
   refine Qaa (v:=int .i64 (i64w (x7+1))) rfl rfl rfl (Qab ?_)
   obtain rfl:=QsJ H
   have hs:=hs.pull 1 rfl
   have hs:=hs.pull 1 rfl
   have hs:St _ [_,_] _:=St.take (Γ':=[]) hs
   exact ih1_ _ _ ⟨x8,i64w (x7+1),Hx1_,rfl,hs⟩
  intro ha
  refine Qad (Qag [0,1] rfl ?_)
  obtain ⟨g1,H⟩:=ite_get H
  refine Qcf (enc:=(encI .i16)) (c:=int .i16) (fun _=>rfl) 0 rfl (fun _=>rfl) (fun _=>rfl) g1.1 g1.2 rfl rfl rfl rfl rfl ?_
  refine Qaa (v:=int .i16 (a1.get x7 0)) rfl rfl rfl ?_
  show G _ _ _ _ [_,_,_,_,_,_,_,_,_,_,_,_,_,_,_,_,_,_,_,_,_,_,_,_,_,_,_,_,_,_,_,_,_,_,_,_,_,_,_,_] _
  refine Qab (Qad (Qag [0,1,2,3,4,5,6,7,8,9,10] rfl ?_))
  refine Qaa (v:=int .i16 (a1.get x7 0)) rfl rfl rfl ?_
  refine Qap (B:=decide ((a1.get x7 0)>0)) rfl rfl rfl ?_ ?_
  ·
   intro hb
   rw [if_pos (b_dec_t hb)] at H
   show G _ _ _ _ [_,_,_,_,_,_,_,_,_,_,_,_,_,_,_,_,_,_,_,_,_,_,_,_,_,_,_,_,_,_,_,_,_,_,_,_,_,_,_,_] _
   refine Qaa (v:=bool true) rfl rfl rfl ?_
   refine Qaa (v:=int .i16 x6) rfl rfl rfl ?_
   refine Qap (B:=x6==0) rfl rfl rfl ?_ ?_
   ·
    intro hb
    rw [if_pos (b_beq_t hb)] at H
    refine Qaa (v:=bool true) rfl rfl rfl (Qac rfl rfl (Qac rfl rfl (Qac rfl rfl ?_)))
    show G _ _ _ _ [_,_,_,_,_,_,_,_,_,_,_,_,_,_,_,_,_,_,_,_,_,_,_,_,_,_,_,_,_,_,_,_,_,_,_,_,_,_,_,_] _
    refine Qaa (v:=bool true) rfl rfl rfl ?_
    refine Qaa (v:=bool true) rfl rfl rfl (Qab (Qah rfl (Qag [0,1] rfl ?_)))
    refine Qaa (v:=int .i16 (a1.get x7 0)) rfl rfl rfl ?_
    refine Qaa (v:=int .i16 (a1.get x7 0)) rfl rfl rfl ?_
    show G _ _ _ _ [_,_,_,_,_,_,_,_,_,_,_,_,_,_,_,_,_,_,_,_,_,_,_,_,_,_,_,_,_,_,_,_,_,_,_,_,_,_,_,_] _
    refine Qab ?_
    refine QaE ?_
    have hs:=hs.pull 1 rfl
    have hs:=hs.pull 1 rfl
    have hs:St _ [_,_] _:=St.take (Γ':=[]) hs
    exact ha _ _ ⟨a1.get x7 0,H,rfl,hs⟩
   intro hb
   rw [if_neg (b_beq_f hb)] at H
   refine Qaa (v:=bool false) rfl rfl rfl ?_
   refine Qaa (v:=int .i16 (a1.get x7 0)) rfl rfl rfl ?_
   refine Qaa (v:=int .i16 x6) rfl rfl rfl ?_
   refine Qaa (v:=bool (decide ((a1.get x7 0)< x6))) rfl rfl rfl ?_
   refine Qap (B:=decide ((a1.get x7 0)< x6)) rfl rfl rfl ?_ ?_
   ·
    intro hb
    rw [if_pos (b_dec_t hb)] at H
    refine Qaa (v:=bool true) rfl rfl rfl ?_
    show G _ _ _ _ [_,_,_,_,_,_,_,_,_,_,_,_,_,_,_,_,_,_,_,_,_,_,_,_,_,_,_,_,_,_,_,_,_,_,_,_,_,_,_,_] _
    refine Qab (Qah rfl (Qag [0,1] rfl ?_))
    refine Qaa (v:=int .i16 (a1.get x7 0)) rfl rfl rfl ?_
    refine Qaa (v:=int .i16 (a1.get x7 0)) rfl rfl rfl (Qab ?_)
    refine QaE ?_
    have hs:=hs.pull 1 rfl
    have hs:=hs.pull 1 rfl
    have hs:St _ [_,_] _:=St.take (Γ':=[]) hs
    exact ha _ _ ⟨a1.get x7 0,H,rfl,hs⟩
   intro hb
   rw [if_neg (b_dec_f hb)] at H
   show G _ _ _ _ [_,_,_,_,_,_,_,_,_,_,_,_,_,_,_,_,_,_,_,_,_,_,_,_,_,_,_,_,_,_,_,_,_,_,_,_,_,_,_,_] _
   refine Qaa (v:=bool false) rfl rfl rfl (Qab (Qal rfl (Qay ?_)))
   refine QaE ?_
   have hs:=hs.pull 1 rfl
   have hs:=hs.pull 1 rfl
   have hs:St _ [_,_] _:=St.take (Γ':=[]) hs
   exact ha _ _ ⟨x6,H,rfl,hs⟩
  intro hb
  rw [if_neg (b_dec_f hb)] at H
  refine Qaa (v:=bool false) rfl rfl rfl (Qac rfl rfl (Qac rfl rfl (Qac rfl rfl (Qac rfl rfl (Qac rfl rfl (Qac rfl rfl ?_))))))
  show G _ _ _ _ [_,_,_,_,_,_,_,_,_,_,_,_,_,_,_,_,_,_,_,_,_,_,_,_,_,_,_,_,_,_,_,_,_,_,_,_,_,_,_,_] _
  refine Qac rfl rfl ?_
  refine Qaa (v:=bool false) rfl rfl rfl (Qab (Qal rfl (Qay ?_)))
  refine QaE ?_
  have hs:=hs.pull 1 rfl
  have hs:=hs.pull 1 rfl
  have hs:St _ [_,_] _:=St.take (Γ':=[]) hs
  exact ha _ _ ⟨x6,H,rfl,hs⟩
 intro hb
 rw [if_neg (b_dec_f hb)] at H
 show G _ _ _ _ [_,_,_,_,_,_,_,_,_,_,_,_,_,_,_,_,_,_,_,_,_,_,_,_,_,_,_,_,_,_,_,_,_,_,_,_,_,_,_,_] _
 refine Qab (Qad (Qal rfl ?_))
 obtain rfl:=QsJ H
 subst Hx1_
 have hs:=hs.pull 1 rfl
 have hs:=hs.pull 1 rfl
 have hs:St _ [_,_] _:=St.take (Γ':=[]) hs
 refine Qa7 rfl ?_
 exact ha1_ _ _ ⟨x6,Hr1_,rfl,hs⟩
def Qbr.post (w0:World) (r:((Ar Int 4)×Int×Int)) (v:Value) (w:World):Prop:=v=tuple #[agg ((encA (encI .i16)) r.1).toArray,int .i64 r.2.1,int .i64 r.2.2]∧St w0 [] w
theorem Qbr.calls {N:Nat} {a1:(List Int)} {a3:(Ar Int 4)} {v2:Value} {w0:World} {r:((Ar Int 4)×Int×Int)} (hr0:RdRow (K.int .i16) w0 v2 a1) (H:Qbr.f N a1 a3=some r):
 Calls Tryz.prog 13 #[v2,agg ((encA (encI .i16)) a3).toArray] w0 fun e w=>∃ v,e= .returned v∧Qbr.post w0 r v w:=by
 unfold Qbr.f at H
 have hs:St w0 [] w0:=St.refl w0
 refine calls_of_g (n:=22) Tryz.func13 rfl rfl ?_
 show G _ _ _ _ [_,_,_,_,_,_,_,_,_,_,_,_,_,_,_,_,_,_,_,_,_,_,_,_] _
 refine Qad (Qag [0,1,2,3] rfl ?_)
 refine Qbq hs rfl rfl (cs:=((encA (encI .i16)) a3)) rfl rfl ?_
 intro b4 w hs
 show G _ _ _ _ [_,_,_,_,_,_,_,_,_,_,_,_,_,_,_,_,_,_,_,_,_,_,_,_] _
 refine Qa8 hs rfl rfl (z:=(agg #[int .i16 0,int .i16 0,int .i16 0,int .i16 0])) (cs:=((encA (encI .i16)) (Ar.rep 4 0))) rfl (fun _=>rfl) rfl ?_
 intro b6 w hs
 refine Qaa (v:=int .i64 0) rfl rfl rfl ?_
 refine Qaa (v:=int .i64 0) rfl rfl rfl ?_
 show G _ _ _ _ [_,_,_,_,_,_,_,_,_,_,_,_,_,_,_,_,_,_,_,_,_,_,_,_] _
 refine Qab (Qad (Qad (Qag [0,1,2,3] rfl ?_)))
 refine Qaa (v:=v2) rfl rfl rfl ?_
 refine QaG rfl rfl (es:=((encA (encI .i16)) a3)) rfl rfl (fun _=>rfl) (n:=4) (fun _=>rfl) ((fkA (n:=4) (he:=(fkI .i16).len) (h1:=(fkI .i16).one)).len _) (cells_all (hs.cells 1 rfl)) ?_
 obtain ⟨r8,Hr8,H⟩:=bind_get H
 refine QaB (args:=[v2,agg ((encA (encI .i16)) a3).toArray]) rfl rfl (QaC rfl (callFunc_enter Tryz.func12 rfl rfl) rfl) (QaM.calls (a1:=a1) (a3:=a3) (hs.rd hr0) Hr8) ?_
 rintro _ w ⟨rfl,hs2⟩
 have hs:St _ [_,_] _:=hs.call hs2
 cases r8 with
 |true=>
  rw [if_pos rfl] at H
  refine Qaa (v:=bool false) rfl rfl rfl ?_
  show G _ _ _ _ [_,_,_,_,_,_,_,_,_,_,_,_,_,_,_,_,_,_,_,_,_,_,_,_] _
  refine Qab (Qal rfl (Qay (Qad (Qag [0,1,2,3,4,5,6,7] rfl ?_))))
  refine QaG rfl rfl (es:=((encA (encI .i16)) a3)) rfl rfl (fun _=>rfl) (n:=4) (fun _=>rfl) ((fkA (n:=4) (he:=(fkI .i16).len) (h1:=(fkI .i16).one)).len _) (cells_all (hs.cells 1 rfl)) ?_
  obtain ⟨r9,Hr9,H⟩:=bind_get H
  refine QaB (args:=[agg ((encA (encI .i16)) a3).toArray]) rfl rfl (QaC rfl (callFunc_enter Tryz.func39 rfl rfl) rfl) (Qaw.calls (a1:=a3) Hr9) ?_
  rintro _ w ⟨rfl,hs2⟩
  have hs:St _ [_,_] _:=hs.call hs2
  refine Qaa (v:=tuple #[agg ((encA (encI .i16)) r9.1).toArray,int .i64 r9.2]) rfl rfl rfl ?_
  show G _ _ _ _ [_,_,_,_,_,_,_,_,_,_,_,_,_,_,_,_,_,_,_,_,_,_,_,_] _
  refine Qaa (v:=agg ((encA (encI .i16)) r9.1).toArray) rfl rfl rfl ?_
  refine Qaa (v:=int .i64 r9.2) rfl rfl rfl ?_
  refine Qa8 hs rfl rfl (z:=(agg #[int .i16 0,int .i16 0,int .i16 0,int .i16 0])) (cs:=((encA (encI .i16)) (Ar.rep 4 0))) rfl (fun _=>rfl) rfl ?_
  intro b10 w hs
  show G _ _ _ _ [_,_,_,_,_,_,_,_,_,_,_,_,_,_,_,_,_,_,_,_,_,_,_,_] _
  refine QaH (n:=4) hs ((fkA (n:=4) (he:=(fkI .i16).len) (h1:=(fkI .i16).one)).len _) rfl rfl (vs:=((encA (encI .i16)) r9.1)) rfl rfl rfl (fun _=>rfl) ((fkA (n:=4) (he:=(fkI .i16).len) (h1:=(fkI .i16).one)).len _) ((fkA (n:=4) (he:=(fkI .i16).len) (h1:=(fkI .i16).one)).one _) ?_
  intro w hs
  refine Qaa (v:=int .i64 r9.2) rfl rfl rfl (Qab (Qad (Qad (Qag [0,1] rfl ?_))))
  refine Qaa (v:=int .i64 r9.2) rfl rfl rfl ?_
  refine Qap (B:=r9.2==0) rfl rfl rfl ?_ ?_
  ·
   intro hb
   rw [if_pos (b_beq_t hb)] at H
   show G _ _ _ _ [_,_,_,_,_,_,_,_,_,_,_,_,_,_,_,_,_,_,_,_,_,_,_,_] _
   refine Qab (Qah rfl (Qad (Qag [0,1,2,3] rfl ?_)))
   refine Qaa (v:=agg ((encA (encI .i16)) (Ar.rep 4 0)).toArray) rfl rfl (QbK rfl rfl) ?_
   have hs:St _ [_,_,_] _:=hs.pull 1 rfl
   refine QaH (n:=4) hs ((fkA (n:=4) (he:=(fkI .i16).len) (h1:=(fkI .i16).one)).len _) rfl rfl (vs:=((encA (encI .i16)) (Ar.rep 4 0))) rfl rfl rfl (fun _=>rfl) ((fkA (n:=4) (he:=(fkI .i16).len) (h1:=(fkI .i16).one)).len _) ((fkA (n:=4) (he:=(fkI .i16).len) (h1:=(fkI .i16).one)).one _) ?_
   intro w hs
   refine Qaa (v:=int .i64 0) rfl rfl rfl ?_
   refine Qaa (v:=int .i64 4) rfl rfl rfl ?_
   show G _ _ _ _ [_,_,_,_,_,_,_,_,_,_,_,_,_,_,_,_,_,_,_,_,_,_,_,_] _
   refine Qab ?_
   obtain rfl:=QsJ H
   refine Qas Tryz.func13 (v:=tuple #[agg ((encA (encI .i16)) (Ar.rep 4 0)).toArray,int .i64 0,int .i64 4]) (resN (l:=Tryz.f13.results.toList) (vs:=[agg ((encA (encI .i16)) (Ar.rep 4 0)).toArray,int .i64 0,int .i64 4]) rfl ⟨⟨_,rfl,(run_loadVar_agg (es:=((encA (encI .i16)) (Ar.rep 4 0))) rfl (congrArg (Result.ok · _) ((fkA (n:=4) (he:=(fkI .i16).len) (h1:=(fkI .i16).one)).len _).symm) (cells_all (hs.cells 0 rfl)))⟩,rfl,rfl,trivial⟩ (by simp)) ?_
   have hs:St _ [] _:=St.take (Γ':=[_,_,_]) hs
   exact ⟨_,rfl,rfl,hs⟩
  intro hb
  rw [if_neg (b_beq_f hb)] at H
  show G _ _ _ _ [_,_,_,_,_,_,_,_,_,_,_,_,_,_,_,_,_,_,_,_,_,_,_,_] _
  refine Qab (Qal rfl (Qay (Qad (Qag [0,1,2,3,4] rfl ?_))))
  refine QaG rfl rfl (es:=((encA (encI .i16)) r9.1)) rfl rfl (fun _=>rfl) (n:=4) (fun _=>rfl) ((fkA (n:=4) (he:=(fkI .i16).len) (h1:=(fkI .i16).one)).len _) (cells_all (hs.cells 0 rfl)) ?_
  refine Qaa (v:=int .i64 r9.2) rfl rfl rfl ?_
  have hs:St _ [_,_,_] _:=hs.pull 1 rfl
  refine QaH (n:=4) hs ((fkA (n:=4) (he:=(fkI .i16).len) (h1:=(fkI .i16).one)).len _) rfl rfl (vs:=((encA (encI .i16)) r9.1)) rfl rfl rfl (fun _=>rfl) ((fkA (n:=4) (he:=(fkI .i16).len) (h1:=(fkI .i16).one)).len _) ((fkA (n:=4) (he:=(fkI .i16).len) (h1:=(fkI .i16).one)).one _) ?_
  intro w hs
  refine Qaa (v:=int .i64 r9.2) rfl rfl rfl ?_
  show G _ _ _ _ [_,_,_,_,_,_,_,_,_,_,_,_,_,_,_,_,_,_,_,_,_,_,_,_] _
  refine Qaa (v:=int .i64 0) rfl rfl rfl (Qab ?_)
  obtain rfl:=QsJ H
  refine Qas Tryz.func13 (v:=tuple #[agg ((encA (encI .i16)) r9.1).toArray,int .i64 r9.2,int .i64 0]) (resN (l:=Tryz.f13.results.toList) (vs:=[agg ((encA (encI .i16)) r9.1).toArray,int .i64 r9.2,int .i64 0]) rfl ⟨⟨_,rfl,(run_loadVar_agg (es:=((encA (encI .i16)) r9.1)) rfl (congrArg (Result.ok · _) ((fkA (n:=4) (he:=(fkI .i16).len) (h1:=(fkI .i16).one)).len _).symm) (cells_all (hs.cells 0 rfl)))⟩,rfl,rfl,trivial⟩ (by simp)) ?_
  have hs:St _ [] _:=St.take (Γ':=[_,_,_]) hs
  exact ⟨_,rfl,rfl,hs⟩
 |false=>
  rw [if_neg Bool.false_ne_true] at H
  show G _ _ _ _ [_,_,_,_,_,_,_,_,_,_,_,_,_,_,_,_,_,_,_,_,_,_,_,_] _
  refine Qaa (v:=bool true) rfl rfl rfl (Qab (Qah rfl (Qad (Qag [0,1,2,3] rfl ?_))))
  refine Qaa (v:=agg ((encA (encI .i16)) (Ar.rep 4 0)).toArray) rfl rfl (QbK rfl rfl) ?_
  refine QaH (n:=4) hs ((fkA (n:=4) (he:=(fkI .i16).len) (h1:=(fkI .i16).one)).len _) rfl rfl (vs:=((encA (encI .i16)) (Ar.rep 4 0))) rfl rfl rfl (fun _=>rfl) ((fkA (n:=4) (he:=(fkI .i16).len) (h1:=(fkI .i16).one)).len _) ((fkA (n:=4) (he:=(fkI .i16).len) (h1:=(fkI .i16).one)).one _) ?_
  intro w hs
  refine Qaa (v:=int .i64 0) rfl rfl rfl ?_
  show G _ _ _ _ [_,_,_,_,_,_,_,_,_,_,_,_,_,_,_,_,_,_,_,_,_,_,_,_] _
  refine Qaa (v:=int .i64 1) rfl rfl rfl (Qab ?_)
  obtain rfl:=QsJ H
  refine Qas Tryz.func13 (v:=tuple #[agg ((encA (encI .i16)) (Ar.rep 4 0)).toArray,int .i64 0,int .i64 1]) (resN (l:=Tryz.f13.results.toList) (vs:=[agg ((encA (encI .i16)) (Ar.rep 4 0)).toArray,int .i64 0,int .i64 1]) rfl ⟨⟨_,rfl,(run_loadVar_agg (es:=((encA (encI .i16)) (Ar.rep 4 0))) rfl (congrArg (Result.ok · _) ((fkA (n:=4) (he:=(fkI .i16).len) (h1:=(fkI .i16).one)).len _).symm) (cells_all (hs.cells 0 rfl)))⟩,rfl,rfl,trivial⟩ (by simp)) ?_
  have hs:St _ [] _:=St.take (Γ':=[_,_]) hs
  exact ⟨_,rfl,rfl,hs⟩
def Qar.post (w0:World) (r:((Ar Int 4)×Int)) (v:Value) (w:World):Prop:=v=tuple #[agg ((encA (encI .i16)) r.1).toArray,int .i64 r.2]∧St w0 [] w
theorem Qar.calls {N:Nat} {a1:(Ar Int 4)} {w0:World} {r:((Ar Int 4)×Int)} (H:Qar.f N a1=some r):
 Calls Tryz.prog 40 #[agg ((encA (encI .i16)) a1).toArray] w0 fun e w=>∃ v,e= .returned v∧Qar.post w0 r v w:=by
 unfold Qar.f at H
 have hs:St w0 [] w0:=St.refl w0
 refine calls_of_g (n:=45) Tryz.func40 rfl rfl ?_
 show G _ _ _ _ [_,_,_,_,_,_,_,_,_,_,_,_,_,_,_,_,_,_,_,_,_,_,_,_,_,_,_,_,_,_,_,_,_,_,_,_,_,_,_,_,_,_,_,_,_,_] _
 refine Qad (Qag [0,1,2] rfl ?_)
 refine Qbq hs rfl rfl (cs:=((encA (encI .i16)) a1)) rfl rfl ?_
 intro b2 w hs
 refine Qa8 hs rfl rfl (z:=(agg #[int .i16 0,int .i16 0,int .i16 0,int .i16 0])) (cs:=((encA (encI .i16)) (Ar.rep 4 0))) rfl (fun _=>rfl) rfl ?_
 intro b4 w hs
 refine Qaa (v:=int .i64 0) rfl rfl rfl ?_
 show G _ _ _ _ [_,_,_,_,_,_,_,_,_,_,_,_,_,_,_,_,_,_,_,_,_,_,_,_,_,_,_,_,_,_,_,_,_,_,_,_,_,_,_,_,_,_,_,_,_,_] _
 refine Qab (Qad (Qag [0] rfl ?_))
 refine Qaa (v:=int .i16 0) rfl rfl rfl (Qab (Qad (Qad (Qag [0] rfl ?_))))
 refine Qaa (v:=int .i64 0) rfl rfl rfl (Qab ?_)
 obtain ⟨o1_,Ho,Hr1_⟩:=bind_get H
 refine Qax (J:=fun t w=>∃ x9:Int,Qar.a0 N a1 x9=some r∧Fr t (fun O=>([O 0,pointer (some ⟨b2,0,none⟩),pointer (some ⟨b4,0,none⟩),O 3,int .i16 x9,O 5,O 6,O 7,O 8,O 9,O 10,O 11,O 12,O 13,O 14,O 15,O 16,O 17,O 18,O 19,O 20,O 21,O 22,O 23,O 24,O 25,O 26,O 27,O 28,O 29,O 30,O 31,O 32,O 33,O 34,O 35,O 36,O 37,O 38,O 39,O 40,O 41,O 42,O 43,O 44,O 45]:List Value))∧St w0 [Cells b2 ((encA (encI .i16)) a1) 28,Cells b4 ((encA (encI .i16)) (Ar.rep 4 0)) 28] w) ?_ ?_
 ·
  rintro t w ⟨x9,H,hf,hs⟩
  obtain ⟨O,rfl⟩:=hf.open
  show G _ _ _ _ [_,_,_,_,_,_,_,_,_,_,_,_,_,_,_,_,_,_,_,_,_,_,_,_,_,_,_,_,_,_,_,_,_,_,_,_,_,_,_,_,_,_,_,_,_,_] _
  unfold Qar.a0 at H
  refine Qad (Qad (Qag [0] rfl ?_))
  refine Qaa (v:=int .i64 0) rfl rfl rfl (Qab ?_)
  obtain ⟨o1_,Ho,Hr1_⟩:=bind_get H
  refine Qax (J:=fun t w=>∃ x15:(Ar Int 4),Qar.a2 N x9 x15=some r∧Fr t (fun O=>([O 0,pointer (some ⟨b2,0,none⟩),pointer (some ⟨b4,0,none⟩),O 3,int .i16 x9,O 5,O 6,O 7,O 8,O 9,O 10,O 11,O 12,O 13,O 14,O 15,O 16,O 17,O 18,O 19,O 20,O 21,O 22,O 23,O 24,O 25,O 26,O 27,O 28,O 29,O 30,O 31,O 32,O 33,O 34,O 35,O 36,O 37,O 38,O 39,O 40,O 41,O 42,O 43,O 44,O 45]:List Value))∧St w0 [Cells b2 ((encA (encI .i16)) x15) 28,Cells b4 ((encA (encI .i16)) (Ar.rep 4 0)) 28] w) ?_ ?_
  ·
   rintro t w ⟨x15,H,hf,hs⟩
   obtain ⟨O,rfl⟩:=hf.open
   show G _ _ _ _ [_,_,_,_,_,_,_,_,_,_,_,_,_,_,_,_,_,_,_,_,_,_,_,_,_,_,_,_,_,_,_,_,_,_,_,_,_,_,_,_,_,_,_,_,_,_] _
   unfold Qar.a2 at H
   refine Qad (Qag [0,1,2,3,4] rfl ?_)
   refine QaG rfl rfl (es:=((encA (encI .i16)) x15)) rfl rfl (fun _=>rfl) (n:=4) (fun _=>rfl) ((fkA (n:=4) (he:=(fkI .i16).len) (h1:=(fkI .i16).one)).len _) (cells_all (hs.cells 0 rfl)) ?_
   refine Qaa (v:=int .i16 x9) rfl rfl rfl ?_
   refine Qaa (v:=int .i64 (i64w x9)) rfl rfl rfl ?_
   have hs:St _ [_,_] _:=hs.pull 1 rfl
   refine QaH (n:=4) hs ((fkA (n:=4) (he:=(fkI .i16).len) (h1:=(fkI .i16).one)).len _) rfl rfl (vs:=((encA (encI .i16)) x15)) rfl rfl rfl (fun _=>rfl) ((fkA (n:=4) (he:=(fkI .i16).len) (h1:=(fkI .i16).one)).len _) ((fkA (n:=4) (he:=(fkI .i16).len) (h1:=(fkI .i16).one)).one _) ?_
   intro w hs
   refine Qaa (v:=int .i64 (i64w x9)) rfl rfl rfl ?_
   show G _ _ _ _ [_,_,_,_,_,_,_,_,_,_,_,_,_,_,_,_,_,_,_,_,_,_,_,_,_,_,_,_,_,_,_,_,_,_,_,_,_,_,_,_,_,_,_,_,_,_] _
   refine Qab ?_
   obtain rfl:=QsJ H
   refine Qas Tryz.func40 (v:=tuple #[agg ((encA (encI .i16)) x15).toArray,int .i64 (i64w x9)]) (resN (l:=Tryz.f40.results.toList) (vs:=[agg ((encA (encI .i16)) x15).toArray,int .i64 (i64w x9)]) rfl ⟨⟨_,rfl,(run_loadVar_agg (es:=((encA (encI .i16)) x15)) rfl (congrArg (Result.ok · _) ((fkA (n:=4) (he:=(fkI .i16).len) (h1:=(fkI .i16).one)).len _).symm) (cells_all (hs.cells 0 rfl)))⟩,rfl,trivial⟩ (by simp)) ?_
   have hs:St _ [] _:=St.take (Γ':=[_,_]) hs
   exact ⟨_,rfl,rfl,hs⟩
  intro ha1_
  have hs:=hs.pull 1 rfl
  have hs:=hs.pull 1 rfl
  have hs:St _ [_,_] _:=St.take (Γ':=[]) hs
  refine QaL (I:=fun n_ t w=>∃ x12:(Ar Int 4),∃ x13:Int,rounds (fun s=>Qar.b2 N x9 s.1 s.2) n_ (x12,x13)=some o1_∧Fr t (fun O=>([O 0,pointer (some ⟨b2,0,none⟩),pointer (some ⟨b4,0,none⟩),O 3,int .i16 x9,O 5,int .i64 x13,O 7,O 8,O 9,O 10,O 11,O 12,O 13,O 14,O 15,O 16,O 17,O 18,O 19,O 20,O 21,O 22,O 23,O 24,O 25,O 26,O 27,O 28,O 29,O 30,O 31,O 32,O 33,O 34,O 35,O 36,O 37,O 38,O 39,O 40,O 41,O 42,O 43,O 44,O 45]:List Value))∧St w0 [Cells b2 ((encA (encI .i16)) x12) 28,Cells b4 ((encA (encI .i16)) (Ar.rep 4 0)) 28] w) N ⟨a1,0,Ho,rfl,hs⟩ ?_ ?_
  ·
   rintro _ _ ⟨x12,x13,h,_⟩
   exact rounds_zero h
  intro n_ ih1_
  rintro t w ⟨x12,x13,Ho,hf,hs⟩
  obtain ⟨O,rfl⟩:=hf.open
  show G _ _ _ _ [_,_,_,_,_,_,_,_,_,_,_,_,_,_,_,_,_,_,_,_,_,_,_,_,_,_,_,_,_,_,_,_,_,_,_,_,_,_,_,_,_,_,_,_,_,_] _
  obtain ⟨x11_,H,Hx1_⟩:=rounds_succ Ho
  have H:Qar.b2 N x9 x12 x13=some x11_:=H
  unfold Qar.b2 at H
  refine Qad (Qad (Qag [0,1] rfl ?_))
  refine Qaa (v:=int .i64 x13) rfl rfl rfl ?_
  refine Qap (B:=decide (x13< 4)) rfl rfl rfl ?_ ?_
  ·
   intro hb
   rw [if_pos (b_dec_t hb)] at H
   show G _ _ _ _ [_,_,_,_,_,_,_,_,_,_,_,_,_,_,_,_,_,_,_,_,_,_,_,_,_,_,_,_,_,_,_,_,_,_,_,_,_,_,_,_,_,_,_,_,_,_] _
   refine Qab (Qah rfl (Qay (Qad ?_)))
   refine Qax (J:=(fun t w=>∃ x14:(Ar Int 4),Qar.j4 N x13 x14=some x11_∧Fr t (fun O=>([O 0,pointer (some ⟨b2,0,none⟩),pointer (some ⟨b4,0,none⟩),O 3,int .i16 x9,O 5,int .i64 x13,O 7,O 8,O 9,O 10,O 11,O 12,O 13,O 14,O 15,O 16,O 17,O 18,O 19,O 20,O 21,O 22,O 23,O 24,O 25,O 26,O 27,O 28,O 29,O 30,O 31,O 32,O 33,O 34,O 35,O 36,O 37,O 38,O 39,O 40,O 41,O 42,O 43,O 44,O 45]:List Value))∧St w0 [Cells b2 ((encA (encI .i16)) x14) 28,Cells b4 ((encA (encI .i16)) (Ar.rep 4 0)) 28] w)) ?_ ?_
   ·
    rintro t w ⟨x14,H,hf,hs⟩
    obtain ⟨O,rfl⟩:=hf.open
    show G _ _ _ _ [_,_,_,_,_,_,_,_,_,_,_,_,_,_,_,_,_,_,_,_,_,_,_,_,_,_,_,_,_,_,_,_,_,_,_,_,_,_,_,_,_,_,_,_,_,_] _
    unfold Qar.j4 at H
    refine Qag [0,1,2] rfl ?_
    refine Qaa (v:=int .i64 x13) rfl rfl rfl ?_
    refine Qaa (v:=int .i64 (i64w (x13+1))) rfl rfl rfl ?_
    refine Qaa (v:=int .i64 (i64w (x13+1))) rfl rfl rfl ?_
    show G _ _ _ _ [_,_,_,_,_,_,_,_,_,_,_,_,_,_,_,_,_,_,_,_,_,_,_,_,_,_,_,_,_,_,_,_,_,_,_,_,_,_,_,_,_,_,_,_,_,_] _
    refine Qab ?_
    obtain rfl:=QsJ H
    have hs:=hs.pull 1 rfl
    have hs:=hs.pull 1 rfl
    have hs:St _ [_,_] _:=St.take (Γ':=[]) hs
    exact ih1_ _ _ ⟨x14,i64w (x13+1),Hx1_,rfl,hs⟩
   intro ha
   refine Qad (Qag [0,1,2,3] rfl ?_)
   refine Qaa (v:=int .i64 x13) rfl rfl rfl ?_
   obtain ⟨g8,H⟩:=ite_get H
   refine Qbp (n:=x13) (m:=1) rfl (fun _=>rfl) g8.1 g8.2 rfl rfl rfl rfl rfl ?_
   refine Qat rfl rfl (v:=int .i16 (x12.get x13 0)) rfl rfl (fun _=>rfl) (by rw [Nat.zero_add];exact cells_load (hs.cells 0 rfl) _ _ (encA_at (fkI .i16).len _ _ 0 g8.1 g8.2)) ?_
   refine Qap (B:=decide ((x12.get x13 0)>0)) rfl rfl rfl ?_ ?_
   ·
    intro hb
    rw [if_pos (b_dec_t hb)] at H
    refine Qab (Qah rfl (Qag [0,1,2,3,4,5,6] rfl ?_))
    refine Qaa (v:=int .i64 x13) rfl rfl rfl ?_
    obtain ⟨g9,H⟩:=ite_get H
    refine Qbp (n:=x13) (m:=1) rfl (fun _=>rfl) g9.1 g9.2 rfl rfl rfl rfl rfl ?_
    refine Qat rfl rfl (v:=int .i16 (x12.get x13 0)) rfl rfl (fun _=>rfl) (by rw [Nat.zero_add];exact cells_load (hs.cells 0 rfl) _ _ (encA_at (fkI .i16).len _ _ 0 g9.1 g9.2)) ?_
    show G _ _ _ _ [_,_,_,_,_,_,_,_,_,_,_,_,_,_,_,_,_,_,_,_,_,_,_,_,_,_,_,_,_,_,_,_,_,_,_,_,_,_,_,_,_,_,_,_,_,_] _
    refine Qaa (v:=int .i16 x9) rfl rfl rfl ?_
    refine Qaa (v:=int .i16 (i16w ((x12.get x13 0) - x9))) rfl rfl rfl ?_
    obtain ⟨g10,H⟩:=ite_get H
    refine Qbp (n:=x13) (m:=1) rfl (fun _=>rfl) g10.1 g10.2 rfl rfl rfl rfl rfl ?_
    refine QbN (y:=i16w ((x12.get x13 0) - x9)) (fkI .i16).len (fkI .i16).one g10.1 g10.2 hs rfl rfl rfl rfl rfl (fun _=>rfl) ?_
    intro w hs
    refine Qab ?_
    refine QaE ?_
    have hs:=hs.pull 1 rfl
    have hs:=hs.pull 1 rfl
    have hs:St _ [_,_] _:=St.take (Γ':=[]) hs
    exact ha _ _ ⟨x12.set x13 (i16w ((x12.get x13 0) - x9)),H,rfl,hs⟩
   intro hb
   rw [if_neg (b_dec_f hb)] at H
   show G _ _ _ _ [_,_,_,_,_,_,_,_,_,_,_,_,_,_,_,_,_,_,_,_,_,_,_,_,_,_,_,_,_,_,_,_,_,_,_,_,_,_,_,_,_,_,_,_,_,_] _
   refine Qab (Qal rfl (Qay ?_))
   refine QaE ?_
   have hs:=hs.pull 1 rfl
   have hs:=hs.pull 1 rfl
   have hs:St _ [_,_] _:=St.take (Γ':=[]) hs
   exact ha _ _ ⟨x12,H,rfl,hs⟩
  intro hb
  rw [if_neg (b_dec_f hb)] at H
  refine Qab (Qal rfl ?_)
  obtain rfl:=QsJ H
  subst Hx1_
  have hs:=hs.pull 1 rfl
  have hs:=hs.pull 1 rfl
  have hs:St _ [_,_] _:=St.take (Γ':=[]) hs
  refine Qa7 rfl ?_
  exact ha1_ _ _ ⟨x12,Hr1_,rfl,hs⟩
 intro ha1_
 have hs:=hs.pull 0 rfl
 have hs:=hs.pull 1 rfl
 have hs:St _ [_,_] _:=St.take (Γ':=[]) hs
 refine QaL (I:=fun n_ t w=>∃ x6:Int,∃ x7:Int,rounds (fun s=>Qar.b0 N a1 s.1 s.2) n_ (x6,x7)=some o1_∧Fr t (fun O=>([O 0,pointer (some ⟨b2,0,none⟩),pointer (some ⟨b4,0,none⟩),O 3,int .i16 x6,int .i64 x7,O 6,O 7,O 8,O 9,O 10,O 11,O 12,O 13,O 14,O 15,O 16,O 17,O 18,O 19,O 20,O 21,O 22,O 23,O 24,O 25,O 26,O 27,O 28,O 29,O 30,O 31,O 32,O 33,O 34,O 35,O 36,O 37,O 38,O 39,O 40,O 41,O 42,O 43,O 44,O 45]:List Value))∧St w0 [Cells b2 ((encA (encI .i16)) a1) 28,Cells b4 ((encA (encI .i16)) (Ar.rep 4 0)) 28] w) N ⟨0,0,Ho,rfl,hs⟩ ?_ ?_
 ·
  rintro _ _ ⟨x6,x7,h,_⟩
  exact rounds_zero h
 intro n_ ih1_
 rintro t w ⟨x6,x7,Ho,hf,hs⟩
 obtain ⟨O,rfl⟩:=hf.open
 show G _ _ _ _ [_,_,_,_,_,_,_,_,_,_,_,_,_,_,_,_,_,_,_,_,_,_,_,_,_,_,_,_,_,_,_,_,_,_,_,_,_,_,_,_,_,_,_,_,_,_] _
 obtain ⟨x12_,H,Hx1_⟩:=rounds_succ Ho
 have H:Qar.b0 N a1 x6 x7=some x12_:=H
 unfold Qar.b0 at H
 refine Qad (Qad (Qag [0,1] rfl ?_))
 refine Qaa (v:=int .i64 x7) rfl rfl rfl ?_
 refine Qap (B:=decide (x7< 4)) rfl rfl rfl ?_ ?_
 ·
  intro hb
  rw [if_pos (b_dec_t hb)] at H
  refine Qab (Qah rfl (Qay (Qad ?_)))
  refine Qax (J:=(fun t w=>∃ x8:Int,Qar.j5 N x7 x8=some x12_∧Fr t (fun O=>([O 0,pointer (some ⟨b2,0,none⟩),pointer (some ⟨b4,0,none⟩),O 3,int .i16 x8,int .i64 x7,O 6,O 7,O 8,O 9,O 10,O 11,O 12,O 13,O 14,O 15,O 16,O 17,O 18,O 19,O 20,O 21,O 22,O 23,O 24,O 25,O 26,O 27,O 28,O 29,O 30,O 31,O 32,O 33,O 34,O 35,O 36,O 37,O 38,O 39,O 40,O 41,O 42,O 43,O 44,O 45]:List Value))∧St w0 [Cells b2 ((encA (encI .i16)) a1) 28,Cells b4 ((encA (encI .i16)) (Ar.rep 4 0)) 28] w)) ?_ ?_
  ·
   rintro t w ⟨x8,H,hf,hs⟩
   obtain ⟨O,rfl⟩:=hf.open
   show G _ _ _ _ [_,_,_,_,_,_,_,_,_,_,_,_,_,_,_,_,_,_,_,_,_,_,_,_,_,_,_,_,_,_,_,_,_,_,_,_,_,_,_,_,_,_,_,_,_,_] _
   unfold Qar.j5 at H
   refine Qag [0,1,2] rfl ?_
   refine Qaa (v:=int .i64 x7) rfl rfl rfl ?_
   refine Qaa (v:=int .i64 (i64w (x7+1))) rfl rfl rfl ?_
   refine Qaa (v:=int .i64 (i64w (x7+1))) rfl rfl rfl ?_
   show G _ _ _ _ [_,_,_,_,_,_,_,_,_,_,_,_,_,_,_,_,_,_,_,_,_,_,_,_,_,_,_,_,_,_,_,_,_,_,_,_,_,_,_,_,_,_,_,_,_,_] _
   refine Qab ?_
   obtain rfl:=QsJ H
   have hs:=hs.pull 1 rfl
   have hs:=hs.pull 1 rfl
   have hs:St _ [_,_] _:=St.take (Γ':=[]) hs
   exact ih1_ _ _ ⟨x8,i64w (x7+1),Hx1_,rfl,hs⟩
  intro ha
  refine Qad (Qag [0,1,2,3,4,5,6,7,8,9,10,11,12,13,14] rfl ?_)
  refine Qaa (v:=int .i64 x7) rfl rfl rfl ?_
  obtain ⟨g1,H⟩:=ite_get H
  refine Qbp (n:=x7) (m:=1) rfl (fun _=>rfl) g1.1 g1.2 rfl rfl rfl rfl rfl ?_
  refine Qat rfl rfl (v:=int .i16 (a1.get x7 0)) rfl rfl (fun _=>rfl) (by rw [Nat.zero_add];exact cells_load (hs.cells 0 rfl) _ _ (encA_at (fkI .i16).len _ _ 0 g1.1 g1.2)) ?_
  show G _ _ _ _ [_,_,_,_,_,_,_,_,_,_,_,_,_,_,_,_,_,_,_,_,_,_,_,_,_,_,_,_,_,_,_,_,_,_,_,_,_,_,_,_,_,_,_,_,_,_] _
  refine Qap (B:=decide ((a1.get x7 0)>0)) rfl rfl rfl ?_ ?_
  ·
   intro hb
   rw [if_pos (b_dec_t hb)] at H
   refine Qaa (v:=bool true) rfl rfl rfl ?_
   refine Qaa (v:=int .i16 x6) rfl rfl rfl ?_
   refine Qap (B:=x6==0) rfl rfl rfl ?_ ?_
   ·
    intro hb
    rw [if_pos (b_beq_t hb)] at H
    refine Qaa (v:=bool true) rfl rfl rfl (Qac rfl rfl (Qac rfl rfl ?_))
    show G _ _ _ _ [_,_,_,_,_,_,_,_,_,_,_,_,_,_,_,_,_,_,_,_,_,_,_,_,_,_,_,_,_,_,_,_,_,_,_,_,_,_,_,_,_,_,_,_,_,_] _
    refine Qac rfl rfl (Qac rfl rfl (Qac rfl rfl ?_))
    refine Qaa (v:=bool true) rfl rfl rfl ?_
    show G _ _ _ _ [_,_,_,_,_,_,_,_,_,_,_,_,_,_,_,_,_,_,_,_,_,_,_,_,_,_,_,_,_,_,_,_,_,_,_,_,_,_,_,_,_,_,_,_,_,_] _
    refine Qaa (v:=bool true) rfl rfl rfl (Qab (Qah rfl (Qag [0,1,2,3] rfl ?_)))
    refine Qaa (v:=int .i64 x7) rfl rfl rfl ?_
    obtain ⟨g2,H⟩:=ite_get H
    refine Qbp (n:=x7) (m:=1) rfl (fun _=>rfl) g2.1 g2.2 rfl rfl rfl rfl rfl ?_
    refine Qat rfl rfl (v:=int .i16 (a1.get x7 0)) rfl rfl (fun _=>rfl) (by rw [Nat.zero_add];exact cells_load (hs.cells 0 rfl) _ _ (encA_at (fkI .i16).len _ _ 0 g2.1 g2.2)) ?_
    show G _ _ _ _ [_,_,_,_,_,_,_,_,_,_,_,_,_,_,_,_,_,_,_,_,_,_,_,_,_,_,_,_,_,_,_,_,_,_,_,_,_,_,_,_,_,_,_,_,_,_] _
    refine Qaa (v:=int .i16 (a1.get x7 0)) rfl rfl rfl (Qab ?_)
    refine QaE ?_
    have hs:=hs.pull 1 rfl
    have hs:=hs.pull 1 rfl
    have hs:St _ [_,_] _:=St.take (Γ':=[]) hs
    exact ha _ _ ⟨a1.get x7 0,H,rfl,hs⟩
   intro hb
   rw [if_neg (b_beq_f hb)] at H
   show G _ _ _ _ [_,_,_,_,_,_,_,_,_,_,_,_,_,_,_,_,_,_,_,_,_,_,_,_,_,_,_,_,_,_,_,_,_,_,_,_,_,_,_,_,_,_,_,_,_,_] _
   refine Qaa (v:=bool false) rfl rfl rfl ?_
   refine Qaa (v:=int .i64 x7) rfl rfl rfl ?_
   obtain ⟨g3,H⟩:=ite_get H
   refine Qbp (n:=x7) (m:=1) rfl (fun _=>rfl) g3.1 g3.2 rfl rfl rfl rfl rfl ?_
   refine Qat rfl rfl (v:=int .i16 (a1.get x7 0)) rfl rfl (fun _=>rfl) (by rw [Nat.zero_add];exact cells_load (hs.cells 0 rfl) _ _ (encA_at (fkI .i16).len _ _ 0 g3.1 g3.2)) ?_
   refine Qaa (v:=int .i16 x6) rfl rfl rfl ?_
   refine Qaa (v:=bool (decide ((a1.get x7 0)< x6))) rfl rfl rfl ?_
   show G _ _ _ _ [_,_,_,_,_,_,_,_,_,_,_,_,_,_,_,_,_,_,_,_,_,_,_,_,_,_,_,_,_,_,_,_,_,_,_,_,_,_,_,_,_,_,_,_,_,_] _
   refine Qap (B:=decide ((a1.get x7 0)< x6)) rfl rfl rfl ?_ ?_
   ·
    intro hb
    rw [if_pos (b_dec_t hb)] at H
    show G _ _ _ _ [_,_,_,_,_,_,_,_,_,_,_,_,_,_,_,_,_,_,_,_,_,_,_,_,_,_,_,_,_,_,_,_,_,_,_,_,_,_,_,_,_,_,_,_,_,_] _
    refine Qaa (v:=bool true) rfl rfl rfl (Qab (Qah rfl (Qag [0,1,2,3] rfl ?_)))
    refine Qaa (v:=int .i64 x7) rfl rfl rfl ?_
    obtain ⟨g4,H⟩:=ite_get H
    refine Qbp (n:=x7) (m:=1) rfl (fun _=>rfl) g4.1 g4.2 rfl rfl rfl rfl rfl ?_
    refine Qat rfl rfl (v:=int .i16 (a1.get x7 0)) rfl rfl (fun _=>rfl) (by rw [Nat.zero_add];exact cells_load (hs.cells 0 rfl) _ _ (encA_at (fkI .i16).len _ _ 0 g4.1 g4.2)) ?_
    show G _ _ _ _ [_,_,_,_,_,_,_,_,_,_,_,_,_,_,_,_,_,_,_,_,_,_,_,_,_,_,_,_,_,_,_,_,_,_,_,_,_,_,_,_,_,_,_,_,_,_] _
    refine Qaa (v:=int .i16 (a1.get x7 0)) rfl rfl rfl (Qab ?_)
    refine QaE ?_
    have hs:=hs.pull 1 rfl
    have hs:=hs.pull 1 rfl
    have hs:St _ [_,_] _:=St.take (Γ':=[]) hs
    exact ha _ _ ⟨a1.get x7 0,H,rfl,hs⟩
   intro hb
   rw [if_neg (b_dec_f hb)] at H
   refine Qaa (v:=bool false) rfl rfl rfl (Qab (Qal rfl (Qay ?_)))
   refine QaE ?_
   have hs:=hs.pull 1 rfl
   have hs:=hs.pull 1 rfl
   have hs:St _ [_,_] _:=St.take (Γ':=[]) hs
   exact ha _ _ ⟨x6,H,rfl,hs⟩
  intro hb
  rw [if_neg (b_dec_f hb)] at H
  refine Qaa (v:=bool false) rfl rfl rfl (Qac rfl rfl (Qac rfl rfl (Qac rfl rfl (Qac rfl rfl (Qac rfl rfl ?_)))))
  show G _ _ _ _ [_,_,_,_,_,_,_,_,_,_,_,_,_,_,_,_,_,_,_,_,_,_,_,_,_,_,_,_,_,_,_,_,_,_,_,_,_,_,_,_,_,_,_,_,_,_] _
  refine Qac rfl rfl (Qac rfl rfl (Qac rfl rfl (Qac rfl rfl ?_)))
  show G _ _ _ _ [_,_,_,_,_,_,_,_,_,_,_,_,_,_,_,_,_,_,_,_,_,_,_,_,_,_,_,_,_,_,_,_,_,_,_,_,_,_,_,_,_,_,_,_,_,_] _
  refine Qaa (v:=bool false) rfl rfl rfl (Qab (Qal rfl (Qay ?_)))
  refine QaE ?_
  have hs:=hs.pull 1 rfl
  have hs:=hs.pull 1 rfl
  have hs:St _ [_,_] _:=St.take (Γ':=[]) hs
  exact ha _ _ ⟨x6,H,rfl,hs⟩
 intro hb
 rw [if_neg (b_dec_f hb)] at H
 show G _ _ _ _ [_,_,_,_,_,_,_,_,_,_,_,_,_,_,_,_,_,_,_,_,_,_,_,_,_,_,_,_,_,_,_,_,_,_,_,_,_,_,_,_,_,_,_,_,_,_] _
 refine Qab (Qal rfl ?_)
 obtain rfl:=QsJ H
 subst Hx1_
 have hs:=hs.pull 1 rfl
 have hs:=hs.pull 1 rfl
 have hs:St _ [_,_] _:=St.take (Γ':=[]) hs
 refine Qa7 rfl ?_
 exact ha1_ _ _ ⟨x6,Hr1_,rfl,hs⟩
def Qbs.post (w0:World) (r:((Ar Int 4)×Int×Int)) (v:Value) (w:World):Prop:=v=tuple #[agg ((encA (encI .i16)) r.1).toArray,int .i64 r.2.1,int .i64 r.2.2]∧St w0 [] w
theorem Qbs.calls {N:Nat} {a1:(List Int)} {a3:(Ar Int 4)} {v2:Value} {w0:World} {r:((Ar Int 4)×Int×Int)} (hr0:RdRow (K.int .i16) w0 v2 a1) (H:Qbs.f N a1 a3=some r):
 Calls Tryz.prog 14 #[v2,agg ((encA (encI .i16)) a3).toArray] w0 fun e w=>∃ v,e= .returned v∧Qbs.post w0 r v w:=by
 unfold Qbs.f at H
 have hs:St w0 [] w0:=St.refl w0
 refine calls_of_g (n:=22) Tryz.func14 rfl rfl ?_
 show G _ _ _ _ [_,_,_,_,_,_,_,_,_,_,_,_,_,_,_,_,_,_,_,_,_,_,_,_] _
 refine Qad (Qag [0,1,2,3] rfl ?_)
 refine Qbq hs rfl rfl (cs:=((encA (encI .i16)) a3)) rfl rfl ?_
 intro b4 w hs
 show G _ _ _ _ [_,_,_,_,_,_,_,_,_,_,_,_,_,_,_,_,_,_,_,_,_,_,_,_] _
 refine Qa8 hs rfl rfl (z:=(agg #[int .i16 0,int .i16 0,int .i16 0,int .i16 0])) (cs:=((encA (encI .i16)) (Ar.rep 4 0))) rfl (fun _=>rfl) rfl ?_
 intro b6 w hs
 refine Qaa (v:=int .i64 0) rfl rfl rfl ?_
 refine Qaa (v:=int .i64 0) rfl rfl rfl ?_
 show G _ _ _ _ [_,_,_,_,_,_,_,_,_,_,_,_,_,_,_,_,_,_,_,_,_,_,_,_] _
 refine Qab (Qad (Qad (Qag [0,1,2,3] rfl ?_)))
 refine Qaa (v:=v2) rfl rfl rfl ?_
 refine QaG rfl rfl (es:=((encA (encI .i16)) a3)) rfl rfl (fun _=>rfl) (n:=4) (fun _=>rfl) ((fkA (n:=4) (he:=(fkI .i16).len) (h1:=(fkI .i16).one)).len _) (cells_all (hs.cells 1 rfl)) ?_
 obtain ⟨r8,Hr8,H⟩:=bind_get H
 refine QaB (args:=[v2,agg ((encA (encI .i16)) a3).toArray]) rfl rfl (QaC rfl (callFunc_enter Tryz.func26 rfl rfl) rfl) (QaY.calls (a1:=a1) (a3:=a3) (hs.rd hr0) Hr8) ?_
 rintro _ w ⟨rfl,hs2⟩
 have hs:St _ [_,_] _:=hs.call hs2
 cases r8 with
 |true=>
  rw [if_pos rfl] at H
  refine Qaa (v:=bool false) rfl rfl rfl ?_
  show G _ _ _ _ [_,_,_,_,_,_,_,_,_,_,_,_,_,_,_,_,_,_,_,_,_,_,_,_] _
  refine Qab (Qal rfl (Qay (Qad (Qag [0,1,2,3,4,5,6,7] rfl ?_))))
  refine QaG rfl rfl (es:=((encA (encI .i16)) a3)) rfl rfl (fun _=>rfl) (n:=4) (fun _=>rfl) ((fkA (n:=4) (he:=(fkI .i16).len) (h1:=(fkI .i16).one)).len _) (cells_all (hs.cells 1 rfl)) ?_
  obtain ⟨r9,Hr9,H⟩:=bind_get H
  refine QaB (args:=[agg ((encA (encI .i16)) a3).toArray]) rfl rfl (QaC rfl (callFunc_enter Tryz.func40 rfl rfl) rfl) (Qar.calls (a1:=a3) Hr9) ?_
  rintro _ w ⟨rfl,hs2⟩
  have hs:St _ [_,_] _:=hs.call hs2
  refine Qaa (v:=tuple #[agg ((encA (encI .i16)) r9.1).toArray,int .i64 r9.2]) rfl rfl rfl ?_
  show G _ _ _ _ [_,_,_,_,_,_,_,_,_,_,_,_,_,_,_,_,_,_,_,_,_,_,_,_] _
  refine Qaa (v:=agg ((encA (encI .i16)) r9.1).toArray) rfl rfl rfl ?_
  refine Qaa (v:=int .i64 r9.2) rfl rfl rfl ?_
  refine Qa8 hs rfl rfl (z:=(agg #[int .i16 0,int .i16 0,int .i16 0,int .i16 0])) (cs:=((encA (encI .i16)) (Ar.rep 4 0))) rfl (fun _=>rfl) rfl ?_
  intro b10 w hs
  show G _ _ _ _ [_,_,_,_,_,_,_,_,_,_,_,_,_,_,_,_,_,_,_,_,_,_,_,_] _
  refine QaH (n:=4) hs ((fkA (n:=4) (he:=(fkI .i16).len) (h1:=(fkI .i16).one)).len _) rfl rfl (vs:=((encA (encI .i16)) r9.1)) rfl rfl rfl (fun _=>rfl) ((fkA (n:=4) (he:=(fkI .i16).len) (h1:=(fkI .i16).one)).len _) ((fkA (n:=4) (he:=(fkI .i16).len) (h1:=(fkI .i16).one)).one _) ?_
  intro w hs
  refine Qaa (v:=int .i64 r9.2) rfl rfl rfl (Qab (Qad (Qad (Qag [0,1] rfl ?_))))
  refine Qaa (v:=int .i64 r9.2) rfl rfl rfl ?_
  refine Qap (B:=r9.2==0) rfl rfl rfl ?_ ?_
  ·
   intro hb
   rw [if_pos (b_beq_t hb)] at H
   show G _ _ _ _ [_,_,_,_,_,_,_,_,_,_,_,_,_,_,_,_,_,_,_,_,_,_,_,_] _
   refine Qab (Qah rfl (Qad (Qag [0,1,2,3] rfl ?_)))
   refine Qaa (v:=agg ((encA (encI .i16)) (Ar.rep 4 0)).toArray) rfl rfl (QbK rfl rfl) ?_
   have hs:St _ [_,_,_] _:=hs.pull 1 rfl
   refine QaH (n:=4) hs ((fkA (n:=4) (he:=(fkI .i16).len) (h1:=(fkI .i16).one)).len _) rfl rfl (vs:=((encA (encI .i16)) (Ar.rep 4 0))) rfl rfl rfl (fun _=>rfl) ((fkA (n:=4) (he:=(fkI .i16).len) (h1:=(fkI .i16).one)).len _) ((fkA (n:=4) (he:=(fkI .i16).len) (h1:=(fkI .i16).one)).one _) ?_
   intro w hs
   refine Qaa (v:=int .i64 0) rfl rfl rfl ?_
   refine Qaa (v:=int .i64 4) rfl rfl rfl ?_
   show G _ _ _ _ [_,_,_,_,_,_,_,_,_,_,_,_,_,_,_,_,_,_,_,_,_,_,_,_] _
   refine Qab ?_
   obtain rfl:=QsJ H
   refine Qas Tryz.func14 (v:=tuple #[agg ((encA (encI .i16)) (Ar.rep 4 0)).toArray,int .i64 0,int .i64 4]) (resN (l:=Tryz.f14.results.toList) (vs:=[agg ((encA (encI .i16)) (Ar.rep 4 0)).toArray,int .i64 0,int .i64 4]) rfl ⟨⟨_,rfl,(run_loadVar_agg (es:=((encA (encI .i16)) (Ar.rep 4 0))) rfl (congrArg (Result.ok · _) ((fkA (n:=4) (he:=(fkI .i16).len) (h1:=(fkI .i16).one)).len _).symm) (cells_all (hs.cells 0 rfl)))⟩,rfl,rfl,trivial⟩ (by simp)) ?_
   have hs:St _ [] _:=St.take (Γ':=[_,_,_]) hs
   exact ⟨_,rfl,rfl,hs⟩
  intro hb
  rw [if_neg (b_beq_f hb)] at H
  show G _ _ _ _ [_,_,_,_,_,_,_,_,_,_,_,_,_,_,_,_,_,_,_,_,_,_,_,_] _
  refine Qab (Qal rfl (Qay (Qad (Qag [0,1,2,3,4] rfl ?_))))
  refine QaG rfl rfl (es:=((encA (encI .i16)) r9.1)) rfl rfl (fun _=>rfl) (n:=4) (fun _=>rfl) ((fkA (n:=4) (he:=(fkI .i16).len) (h1:=(fkI .i16).one)).len _) (cells_all (hs.cells 0 rfl)) ?_
  refine Qaa (v:=int .i64 r9.2) rfl rfl rfl ?_
  have hs:St _ [_,_,_] _:=hs.pull 1 rfl
  refine QaH (n:=4) hs ((fkA (n:=4) (he:=(fkI .i16).len) (h1:=(fkI .i16).one)).len _) rfl rfl (vs:=((encA (encI .i16)) r9.1)) rfl rfl rfl (fun _=>rfl) ((fkA (n:=4) (he:=(fkI .i16).len) (h1:=(fkI .i16).one)).len _) ((fkA (n:=4) (he:=(fkI .i16).len) (h1:=(fkI .i16).one)).one _) ?_
  intro w hs
  refine Qaa (v:=int .i64 r9.2) rfl rfl rfl ?_
  show G _ _ _ _ [_,_,_,_,_,_,_,_,_,_,_,_,_,_,_,_,_,_,_,_,_,_,_,_] _
  refine Qaa (v:=int .i64 0) rfl rfl rfl (Qab ?_)
  obtain rfl:=QsJ H
  refine Qas Tryz.func14 (v:=tuple #[agg ((encA (encI .i16)) r9.1).toArray,int .i64 r9.2,int .i64 0]) (resN (l:=Tryz.f14.results.toList) (vs:=[agg ((encA (encI .i16)) r9.1).toArray,int .i64 r9.2,int .i64 0]) rfl ⟨⟨_,rfl,(run_loadVar_agg (es:=((encA (encI .i16)) r9.1)) rfl (congrArg (Result.ok · _) ((fkA (n:=4) (he:=(fkI .i16).len) (h1:=(fkI .i16).one)).len _).symm) (cells_all (hs.cells 0 rfl)))⟩,rfl,rfl,trivial⟩ (by simp)) ?_
  have hs:St _ [] _:=St.take (Γ':=[_,_,_]) hs
  exact ⟨_,rfl,rfl,hs⟩
 |false=>
  rw [if_neg Bool.false_ne_true] at H
  show G _ _ _ _ [_,_,_,_,_,_,_,_,_,_,_,_,_,_,_,_,_,_,_,_,_,_,_,_] _
  refine Qaa (v:=bool true) rfl rfl rfl (Qab (Qah rfl (Qad (Qag [0,1,2,3] rfl ?_))))
  refine Qaa (v:=agg ((encA (encI .i16)) (Ar.rep 4 0)).toArray) rfl rfl (QbK rfl rfl) ?_
  refine QaH (n:=4) hs ((fkA (n:=4) (he:=(fkI .i16).len) (h1:=(fkI .i16).one)).len _) rfl rfl (vs:=((encA (encI .i16)) (Ar.rep 4 0))) rfl rfl rfl (fun _=>rfl) ((fkA (n:=4) (he:=(fkI .i16).len) (h1:=(fkI .i16).one)).len _) ((fkA (n:=4) (he:=(fkI .i16).len) (h1:=(fkI .i16).one)).one _) ?_
  intro w hs
  refine Qaa (v:=int .i64 0) rfl rfl rfl ?_
  show G _ _ _ _ [_,_,_,_,_,_,_,_,_,_,_,_,_,_,_,_,_,_,_,_,_,_,_,_] _
  refine Qaa (v:=int .i64 1) rfl rfl rfl (Qab ?_)
  obtain rfl:=QsJ H
  refine Qas Tryz.func14 (v:=tuple #[agg ((encA (encI .i16)) (Ar.rep 4 0)).toArray,int .i64 0,int .i64 1]) (resN (l:=Tryz.f14.results.toList) (vs:=[agg ((encA (encI .i16)) (Ar.rep 4 0)).toArray,int .i64 0,int .i64 1]) rfl ⟨⟨_,rfl,(run_loadVar_agg (es:=((encA (encI .i16)) (Ar.rep 4 0))) rfl (congrArg (Result.ok · _) ((fkA (n:=4) (he:=(fkI .i16).len) (h1:=(fkI .i16).one)).len _).symm) (cells_all (hs.cells 0 rfl)))⟩,rfl,rfl,trivial⟩ (by simp)) ?_
  have hs:St _ [] _:=St.take (Γ':=[_,_]) hs
  exact ⟨_,rfl,rfl,hs⟩
def QaJ.post (w0:World) (r:Int) (v:Value) (w:World):Prop:=v=int .i16 r∧St w0 [] w
theorem QaJ.calls {N:Nat} {a1:(List Int)} {v2:Value} {w0:World} {r:Int} (hr0:RdRow (K.int .i16) w0 v2 a1) (H:QaJ.f N a1=some r):
 Calls Tryz.prog 41 #[v2] w0 fun e w=>∃ v,e= .returned v∧QaJ.post w0 r v w:=by
 unfold QaJ.f at H
 have hs:St w0 [] w0:=St.refl w0
 refine calls_of_g (n:=24) Tryz.func41 rfl rfl ?_
 show G _ _ _ _ [_,_,_,_,_,_,_,_,_,_,_,_,_,_,_,_,_,_,_,_,_,_,_,_,_] _
 refine Qad (Qag [0] rfl ?_)
 refine Qaa (v:=int .i16 0) rfl rfl rfl (Qab (Qad (Qad (Qag [0,1,2] rfl ?_))))
 refine Qaa (v:=v2) rfl rfl rfl ?_
 show G _ _ _ _ [_,_,_,_,_,_,_,_,_,_,_,_,_,_,_,_,_,_,_,_,_,_,_,_,_] _
 refine Qbc (hs.rd hr0) rfl rfl rfl rfl rfl ?_
 refine Qap (B:=decide ((a1.length:Int)< 1)) rfl rfl rfl ?_ ?_
 ·
  intro hb
  rw [if_pos (b_dec_t hb)] at H
  show G _ _ _ _ [_,_,_,_,_,_,_,_,_,_,_,_,_,_,_,_,_,_,_,_,_,_,_,_,_] _
  refine Qab (Qah rfl ?_)
  cases H
 intro hb
 rw [if_neg (b_dec_f hb)] at H
 refine Qab (Qal rfl (Qay (Qad (Qag [0,1,2,3] rfl ?_))))
 refine Qaa (v:=v2) rfl rfl rfl ?_
 show G _ _ _ _ [_,_,_,_,_,_,_,_,_,_,_,_,_,_,_,_,_,_,_,_,_,_,_,_,_] _
 obtain ⟨g1,H⟩:=ite_get H
 refine Qbb (fkI .i16) 0 (hs.rd hr0) rfl (fun _=>rfl) g1.1 g1.2 rfl rfl rfl rfl rfl ?_
 intro p3 hp3 lp3 op3
 refine Qat rfl rfl (v:=int .i16 (rdL a1 0 0)) rfl rfl (fun _=>rfl) hp3 ?_
 refine Qaa (v:=int .i16 (rdL a1 0 0)) rfl rfl rfl ?_
 show G _ _ _ _ [_,_,_,_,_,_,_,_,_,_,_,_,_,_,_,_,_,_,_,_,_,_,_,_,_] _
 refine Qab (Qad (Qad (Qag [0] rfl ?_)))
 refine Qaa (v:=int .i64 1) rfl rfl rfl (Qab ?_)
 obtain ⟨o1_,Ho,Hr1_⟩:=bind_get H
 refine Qax (J:=fun t w=>∃ x7:Int,QaJ.a0 N x7=some r∧Fr t (fun O=>([O 0,O 1,O 2,int .i16 x7,O 4,O 5,O 6,O 7,O 8,O 9,O 10,O 11,O 12,O 13,O 14,O 15,O 16,O 17,O 18,O 19,O 20,O 21,O 22,O 23,O 24]:List Value))∧St w0 [] w) ?_ ?_
 ·
  rintro t w ⟨x7,H,hf,hs⟩
  obtain ⟨O,rfl⟩:=hf.open
  show G _ _ _ _ [_,_,_,_,_,_,_,_,_,_,_,_,_,_,_,_,_,_,_,_,_,_,_,_,_] _
  unfold QaJ.a0 at H
  refine Qad (Qag [0,1] rfl ?_)
  refine Qaa (v:=int .i16 x7) rfl rfl rfl ?_
  refine Qaa (v:=int .i16 x7) rfl rfl rfl ?_
  show G _ _ _ _ [_,_,_,_,_,_,_,_,_,_,_,_,_,_,_,_,_,_,_,_,_,_,_,_,_] _
  refine Qab ?_
  obtain rfl:=QsJ H
  refine Qas Tryz.func41 (v:=int .i16 x7) (res1 rfl rfl) ?_
  have hs:St _ [] _:=St.take (Γ':=[]) hs
  exact ⟨_,rfl,rfl,hs⟩
 intro ha1_
 have hs:St _ [] _:=St.take (Γ':=[]) hs
 refine QaL (I:=fun n_ t w=>∃ x4:Int,∃ x5:Int,rounds (fun s=>QaJ.b0 N a1 s.1 s.2) n_ (x4,x5)=some o1_∧Fr t (fun O=>([v2,O 1,O 2,int .i16 x4,int .i64 x5,O 5,O 6,O 7,O 8,O 9,O 10,O 11,O 12,O 13,O 14,O 15,O 16,O 17,O 18,O 19,O 20,O 21,O 22,O 23,O 24]:List Value))∧St w0 [] w) N ⟨rdL a1 0 0,1,Ho,rfl,hs⟩ ?_ ?_
 ·
  rintro _ _ ⟨x4,x5,h,_⟩
  exact rounds_zero h
 intro n_ ih1_
 rintro t w ⟨x4,x5,Ho,hf,hs⟩
 obtain ⟨O,rfl⟩:=hf.open
 show G _ _ _ _ [_,_,_,_,_,_,_,_,_,_,_,_,_,_,_,_,_,_,_,_,_,_,_,_,_] _
 obtain ⟨x3_,H,Hx1_⟩:=rounds_succ Ho
 have H:QaJ.b0 N a1 x4 x5=some x3_:=H
 unfold QaJ.b0 at H
 refine Qad (Qad (Qag [0,1,2,3] rfl ?_))
 refine Qaa (v:=int .i64 x5) rfl rfl rfl ?_
 refine Qaa (v:=v2) rfl rfl rfl ?_
 show G _ _ _ _ [_,_,_,_,_,_,_,_,_,_,_,_,_,_,_,_,_,_,_,_,_,_,_,_,_] _
 refine Qbc (hs.rd hr0) rfl rfl rfl rfl rfl ?_
 refine Qap (B:=decide (x5< (a1.length:Int))) rfl rfl rfl ?_ ?_
 ·
  intro hb
  rw [if_pos (b_dec_t hb)] at H
  show G _ _ _ _ [_,_,_,_,_,_,_,_,_,_,_,_,_,_,_,_,_,_,_,_,_,_,_,_,_] _
  refine Qab (Qah rfl (Qay (Qad ?_)))
  refine Qbh (Qag [0,1,2,3,4,5,6] rfl ?_)
  refine Qaa (v:=int .i16 x4) rfl rfl rfl ?_
  refine Qaa (v:=v2) rfl rfl rfl ?_
  refine Qaa (v:=int .i64 x5) rfl rfl rfl ?_
  show G _ _ _ _ [_,_,_,_,_,_,_,_,_,_,_,_,_,_,_,_,_,_,_,_,_,_,_,_,_] _
  obtain ⟨g2,H⟩:=ite_get H
  refine Qbb (fkI .i16) 0 (hs.rd hr0) rfl (fun _=>rfl) g2.1 g2.2 rfl rfl rfl rfl rfl ?_
  intro p6 hp6 lp6 op6
  refine Qat rfl rfl (v:=int .i16 (rdL a1 x5 0)) rfl rfl (fun _=>rfl) hp6 ?_
  refine Qaa (v:=int .i16 (mxI x4 (rdL a1 x5 0))) rfl rfl (Qcn rfl rfl rfl) ?_
  show G _ _ _ _ [_,_,_,_,_,_,_,_,_,_,_,_,_,_,_,_,_,_,_,_,_,_,_,_,_] _
  refine Qaa (v:=int .i16 (mxI x4 (rdL a1 x5 0))) rfl rfl rfl (Qab ?_)
  refine QaE (Qag [0,1,2] rfl ?_)
  refine Qaa (v:=int .i64 x5) rfl rfl rfl ?_
  refine Qaa (v:=int .i64 (i64w (x5+1))) rfl rfl rfl ?_
  show G _ _ _ _ [_,_,_,_,_,_,_,_,_,_,_,_,_,_,_,_,_,_,_,_,_,_,_,_,_] _
  refine Qaa (v:=int .i64 (i64w (x5+1))) rfl rfl rfl (Qab ?_)
  obtain rfl:=QsJ H
  have hs:St _ [] _:=St.take (Γ':=[]) hs
  exact ih1_ _ _ ⟨mxI x4 (rdL a1 x5 0),i64w (x5+1),Hx1_,rfl,hs⟩
 intro hb
 rw [if_neg (b_dec_f hb)] at H
 refine Qab (Qal rfl ?_)
 obtain rfl:=QsJ H
 subst Hx1_
 have hs:St _ [] _:=St.take (Γ':=[]) hs
 refine Qa7 rfl ?_
 exact ha1_ _ _ ⟨x4,Hr1_,rfl,hs⟩
def Qbz.post (w0:World) (r:(Int×Int)) (v:Value) (w:World):Prop:=v=tuple #[int .i64 r.1,int .i64 r.2]∧St w0 [] w
theorem Qbz.calls {N:Nat} {a1:(List Int)} {a3:(Ar Int 4)} {v2:Value} {w0:World} {r:(Int×Int)} (hr0:RdRow (K.int .i16) w0 v2 a1) (H:Qbz.f N a1 a3=some r):
 Calls Tryz.prog 15 #[v2,agg ((encA (encI .i16)) a3).toArray] w0 fun e w=>∃ v,e= .returned v∧Qbz.post w0 r v w:=by
 unfold Qbz.f at H
 have hs:St w0 [] w0:=St.refl w0
 refine calls_of_g (n:=11) Tryz.func15 rfl rfl ?_
 show G _ _ _ _ [_,_,_,_,_,_,_,_,_,_,_,_,_] _
 refine Qad (Qag [0,1,2] rfl ?_)
 refine Qbq hs rfl rfl (cs:=((encA (encI .i16)) a3)) rfl rfl ?_
 intro b4 w hs
 show G _ _ _ _ [_,_,_,_,_,_,_,_,_,_,_,_,_] _
 refine Qaa (v:=int .i64 0) rfl rfl rfl ?_
 refine Qaa (v:=int .i64 0) rfl rfl rfl (Qab (Qad (Qad (Qag [0,1,2,3] rfl ?_))))
 refine Qaa (v:=v2) rfl rfl rfl ?_
 show G _ _ _ _ [_,_,_,_,_,_,_,_,_,_,_,_,_] _
 refine QaG rfl rfl (es:=((encA (encI .i16)) a3)) rfl rfl (fun _=>rfl) (n:=4) (fun _=>rfl) ((fkA (n:=4) (he:=(fkI .i16).len) (h1:=(fkI .i16).one)).len _) (cells_all (hs.cells 0 rfl)) ?_
 obtain ⟨r6,Hr6,H⟩:=bind_get H
 refine QaB (args:=[v2,agg ((encA (encI .i16)) a3).toArray]) rfl rfl (QaC rfl (callFunc_enter Tryz.func12 rfl rfl) rfl) (QaM.calls (a1:=a1) (a3:=a3) (hs.rd hr0) Hr6) ?_
 rintro _ w ⟨rfl,hs2⟩
 have hs:St _ [_] _:=hs.call hs2
 cases r6 with
 |true=>
  rw [if_pos rfl] at H
  refine Qaa (v:=bool false) rfl rfl rfl ?_
  show G _ _ _ _ [_,_,_,_,_,_,_,_,_,_,_,_,_] _
  refine Qab (Qal rfl (Qay (Qad (Qag [0,1,2,3,4] rfl ?_))))
  refine Qaa (v:=slice (some ⟨b4,0,none⟩) 4 4) rfl rfl (Qch rfl rfl (fun _=>⟨_,rfl⟩) rfl) ?_
  obtain ⟨r7,Hr7,H⟩:=bind_get H
  refine QaB (args:=[slice (some ⟨b4,0,none⟩) 4 4]) rfl rfl (QaC rfl (callFunc_enter Tryz.func41 rfl rfl) rfl) (QaJ.calls (a1:=a3.l) (rdBox (fkI .i16) (hs.cells 0 rfl)) Hr7) ?_
  rintro _ w ⟨rfl,hs2⟩
  have hs:St _ [_] _:=hs.call hs2
  refine Qaa (v:=int .i64 (i64w r7)) rfl rfl rfl ?_
  show G _ _ _ _ [_,_,_,_,_,_,_,_,_,_,_,_,_] _
  refine Qaa (v:=int .i64 (i64w r7)) rfl rfl rfl ?_
  refine Qaa (v:=int .i64 0) rfl rfl rfl (Qab ?_)
  obtain rfl:=QsJ H
  refine Qas Tryz.func15 (v:=tuple #[int .i64 (i64w r7),int .i64 0]) (resN (l:=Tryz.f15.results.toList) (vs:=[int .i64 (i64w r7),int .i64 0]) rfl ⟨rfl,rfl,trivial⟩ (by simp)) ?_
  have hs:St _ [] _:=St.take (Γ':=[_]) hs
  exact ⟨_,rfl,rfl,hs⟩
 |false=>
  rw [if_neg Bool.false_ne_true] at H
  refine Qaa (v:=bool true) rfl rfl rfl ?_
  show G _ _ _ _ [_,_,_,_,_,_,_,_,_,_,_,_,_] _
  refine Qab (Qah rfl (Qad (Qag [0,1] rfl ?_)))
  refine Qaa (v:=int .i64 0) rfl rfl rfl ?_
  refine Qaa (v:=int .i64 1) rfl rfl rfl (Qab ?_)
  obtain rfl:=QsJ H
  refine Qas Tryz.func15 (v:=tuple #[int .i64 0,int .i64 1]) (resN (l:=Tryz.f15.results.toList) (vs:=[int .i64 0,int .i64 1]) rfl ⟨rfl,rfl,trivial⟩ (by simp)) ?_
  have hs:St _ [] _:=St.take (Γ':=[_]) hs
  exact ⟨_,rfl,rfl,hs⟩
def Qa2.post (w0:World) (r:Int) (v:Value) (w:World):Prop:=v=int .i64 r∧St w0 [] w
theorem Qa2.calls {N:Nat} {a1:Int} {a2:Int} {w0:World} {r:Int} (H:Qa2.f N a1 a2=some r):
 Calls Tryz.prog 42 #[int .i64 a1,int .i64 a2] w0 fun e w=>∃ v,e= .returned v∧Qa2.post w0 r v w:=by
 unfold Qa2.f at H
 have hs:St w0 [] w0:=St.refl w0
 refine calls_of_g (n:=10) Tryz.func42 rfl rfl ?_
 show G _ _ _ _ [_,_,_,_,_,_,_,_,_,_,_,_] _
 refine Qad (Qag [0] rfl ?_)
 refine Qaa (v:=int .i64 0) rfl rfl rfl ?_
 show G _ _ _ _ [_,_,_,_,_,_,_,_,_,_,_,_] _
 refine Qab (Qad ?_)
 obtain ⟨o1_,Ho,Hr1_⟩:=bind_get H
 refine Qax (J:=fun t w=>∃ x5:Int,Qa2.a0 N x5=some r∧Fr t (fun O=>([int .i64 x5,O 1,O 2,O 3,O 4,O 5,O 6,O 7,O 8,O 9,O 10,O 11]:List Value))∧St w0 [] w) ?_ ?_
 ·
  rintro t w ⟨x5,H,hf,hs⟩
  obtain ⟨O,rfl⟩:=hf.open
  show G _ _ _ _ [_,_,_,_,_,_,_,_,_,_,_,_] _
  unfold Qa2.a0 at H
  refine Qad (Qag [0,1] rfl ?_)
  refine Qaa (v:=int .i64 x5) rfl rfl rfl ?_
  refine Qaa (v:=int .i64 x5) rfl rfl rfl (Qab ?_)
  obtain rfl:=QsJ H
  refine Qas Tryz.func42 (v:=int .i64 x5) (res1 rfl rfl) ?_
  have hs:St _ [] _:=St.take (Γ':=[]) hs
  exact ⟨_,rfl,rfl,hs⟩
 intro ha1_
 have hs:St _ [] _:=St.take (Γ':=[]) hs
 refine QaL (I:=fun n_ t w=>∃ x3:Int,∃ x4:Int,rounds (fun s=>Qa2.b0 N s.1 s.2) n_ (x3,x4)=some o1_∧Fr t (fun O=>([int .i64 x3,int .i64 x4,O 2,O 3,O 4,O 5,O 6,O 7,O 8,O 9,O 10,O 11]:List Value))∧St w0 [] w) N ⟨a1,a2,Ho,rfl,hs⟩ ?_ ?_
 ·
  rintro _ _ ⟨x3,x4,h,_⟩
  exact rounds_zero h
 intro n_ ih1_
 rintro t w ⟨x3,x4,Ho,hf,hs⟩
 obtain ⟨O,rfl⟩:=hf.open
 show G _ _ _ _ [_,_,_,_,_,_,_,_,_,_,_,_] _
 obtain ⟨x2_,H,Hx1_⟩:=rounds_succ Ho
 have H:Qa2.b0 N x3 x4=some x2_:=H
 unfold Qa2.b0 at H
 refine Qad (Qad (Qag [0,1] rfl ?_))
 refine Qaa (v:=int .i64 x4) rfl rfl rfl ?_
 refine Qap (B:=x4 !=0) rfl rfl rfl ?_ ?_
 ·
  intro hb
  rw [if_neg (b_bne_t hb)] at H
  show G _ _ _ _ [_,_,_,_,_,_,_,_,_,_,_,_] _
  refine Qab (Qah rfl (Qay ?_))
  refine Qbh ?_
  obtain ⟨gd1,H⟩:=ite_get H
  refine Qbe ?_
  intro T hT
  refine QbM (n:=6) rfl [0,1,2,3,4,5] [0,1,2,3,4,5] rfl rfl (Inv:=fun D t w=>∃ O:Nat→Value,t=[cnd (D 4) (int .i64 x4) (int .i64 x3),cnd (D 5) (int .i64 (x3.tmod x4)) (int .i64 x4),O 2,O 3,O 4,int .i64 x4,bool true,cnd (D 0) (int .i64 x4) (O 7),cnd (D 1) (int .i64 x3) (O 8),cnd (D 2) (int .i64 x4) (O 9),cnd (D 3) (int .i64 (x3.tmod x4)) (O 10),O 11]∧St w0 [] w) ?_ ⟨⟨⟨⟨⟨⟨trivial,?_⟩,?_⟩,?_⟩,?_⟩,?_⟩,?_⟩ ?_
  ·
   intro w hh hbw
   have hs:=hs.samew hh hbw
   exact ⟨fun i=>T.getD i undef,(by subst hT;rfl),hs⟩
  ·
   rintro D t w hD hp hcl ⟨O,ht,hs⟩ rest hk
   have q4_:=nz hcl 4 0 hD
   have q5_:=nz hcl 5 1 q4_
   simp only [hD,q4_,q5_,cq,oT] at ht hs
   subst ht
   refine Qaa (v:=int .i64 x4) rfl rfl rfl ?_
   show G _ _ _ _ [_,_,_,_,_,_,_,_,_,_,_,_] _
   refine hk _ _ ⟨O,?_,hs.cast ?_⟩<;>simp only [oT,lq,cq,Nat.reduceBEq,q4_,q5_]
  ·
   rintro D t w hD hp hcl ⟨O,ht,hs⟩ rest hk
   have q3_:=nz hcl 3 0 hD
   have q4_:=nz hcl 4 2 hD
   have q5_:=nz hcl 5 0 q3_
   simp only [hD,q3_,q4_,q5_,cq,oT] at ht hs
   subst ht
   refine Qaa (v:=int .i64 x3) rfl rfl rfl ?_
   show G _ _ _ _ [_,_,_,_,_,_,_,_,_,_,_,_] _
   refine hk _ _ ⟨O,?_,hs.cast ?_⟩<;>simp only [oT,lq,cq,Nat.reduceBEq,q3_,q4_,q5_]
  ·
   rintro D t w hD hp hcl ⟨O,ht,hs⟩ rest hk
   have q3_:=nz hcl 3 1 hD
   have q5_:=nz hcl 5 0 q3_
   simp only [hD,q3_,q5_,cq,oT] at ht hs
   subst ht
   refine Qaa (v:=int .i64 x4) rfl rfl rfl ?_
   show G _ _ _ _ [_,_,_,_,_,_,_,_,_,_,_,_] _
   refine hk _ _ ⟨O,?_,hs.cast ?_⟩<;>simp only [oT,lq,cq,Nat.reduceBEq,q3_,q5_]
  ·
   rintro D t w hD hp hcl ⟨O,ht,hs⟩ rest hk
   obtain ⟨p1_,p2_,_⟩:=hp
   have q5_:=nz hcl 5 0 hD
   simp only [hD,p1_,p2_,q5_,cq,oT] at ht hs
   subst ht
   refine Qaa (v:=int .i64 (x3.tmod x4)) rfl rfl (QbP rfl rfl rfl gd1) ?_
   show G _ _ _ _ [_,_,_,_,_,_,_,_,_,_,_,_] _
   refine hk _ _ ⟨O,?_,hs.cast ?_⟩<;>simp only [oT,lq,cq,Nat.reduceBEq,p1_,p2_,q5_]
  ·
   rintro D t w hD hp hcl ⟨O,ht,hs⟩ rest hk
   obtain ⟨p0_,_,p1_,_⟩:=hp
   have q5_:=nz hcl 5 1 hD
   simp only [hD,p0_,p1_,q5_,cq,oT] at ht hs
   subst ht
   refine Qaa (v:=int .i64 x4) rfl rfl rfl ?_
   show G _ _ _ _ [_,_,_,_,_,_,_,_,_,_,_,_] _
   refine hk _ _ ⟨O,?_,hs.cast ?_⟩<;>simp only [oT,lq,cq,Nat.reduceBEq,p0_,p1_,q5_]
  ·
   rintro D t w hD hp hcl ⟨O,ht,hs⟩ rest hk
   obtain ⟨p3_,p4_,p0_,p1_,p2_,_,_,_⟩:=hp
   simp only [hD,p0_,p1_,p2_,p3_,p4_,cq,oT] at ht hs
   subst ht
   refine Qaa (v:=int .i64 (x3.tmod x4)) rfl rfl rfl ?_
   show G _ _ _ _ [_,_,_,_,_,_,_,_,_,_,_,_] _
   refine hk _ _ ⟨O,?_,hs.cast ?_⟩<;>simp only [oT,lq,cq,Nat.reduceBEq,p0_,p1_,p2_,p3_,p4_]
  intro D t w hall hI
  obtain ⟨O,ht,hs⟩:=hI
  have p0_:=hall 0 (by decide)
  have p1_:=hall 1 (by decide)
  have p2_:=hall 2 (by decide)
  have p3_:=hall 3 (by decide)
  have p4_:=hall 4 (by decide)
  have p5_:=hall 5 (by decide)
  simp only [p0_,p1_,p2_,p3_,p4_,p5_,cq,oT] at ht hs
  subst ht
  refine QaE ?_
  obtain rfl:=QsJ H
  have hs:St _ [] _:=St.take (Γ':=[]) hs
  exact ih1_ _ _ ⟨x4,x3.tmod x4,Hx1_,rfl,hs⟩
 intro hb
 rw [if_pos (b_bne_f hb)] at H
 refine Qab (Qal rfl ?_)
 obtain rfl:=QsJ H
 subst Hx1_
 have hs:St _ [] _:=St.take (Γ':=[]) hs
 refine Qa7 rfl ?_
 exact ha1_ _ _ ⟨x3,Hr1_,rfl,hs⟩
end Go.Proofs.YtgoninfjneepfaaGreatDoorX
