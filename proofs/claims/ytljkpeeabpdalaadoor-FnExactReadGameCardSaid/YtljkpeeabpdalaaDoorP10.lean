import Derived.Test.YtljkpeeabpdalaaDoorP9
namespace Go.Proofs.YtljkpeeabpdalaaDoorX
open Go Go.RowKit Go.Proofs
open Go.Value (int pointer bool agg slice string tuple)
set_option maxHeartbeats 8000000
set_option maxRecDepth 100000
set_option linter.unusedVariables false
set_option linter.unusedSimpArgs false
def QaG.post (w0:World) (r:ByteArray) (v:Value) (w:World):Prop:=v=string r∧St w0 [] w
theorem QaG.calls {N : Nat} {a1 : Qao} {v2 : Value} {w0 : World} {r : ByteArray} (htab : Lib.TabIs Tryd.prog w0 "internal/strconv.uint64pow10" .u64 Lib.pow10Tab) (hdbr : CellU w0 5 15 4) (hr3 : RdRow Qav w0 v2 a1.Qap) (H : QaG.f N a1 = some r) :
 Calls Tryd.prog 8 #[agg (([int .i8 a1.Qai,int .i8 a1.Qaq,v2]:List Value)).toArray] w0 fun e w=>∃ v,e= .returned v∧QaG.post w0 r v w:=by
 unfold QaG.f at H
 have hs:St w0 [] w0:=St.refl w0
 refine calls_of_g (n:=47) Tryd.func8 rfl rfl ?_
 show G _ _ _ _ [_,_,_,_,_,_,_,_,_,_,_,_,_,_,_,_,_,_,_,_,_,_,_,_,_,_,_,_,_,_,_,_,_,_,_,_,_,_,_,_,_,_,_,_,_,_,_,_] _
 refine Qac (Qaj [0,1] rfl ?_)
 refine Qbp hs rfl rfl (cs:=(([int .i8 a1.Qai,int .i8 a1.Qaq,v2]:List Value))) rfl rfl ?_
 intro b4 w hs
 refine Qaa (v:=string (⟨#[]⟩:ByteArray)) rfl rfl rfl ?_
 show G _ _ _ _ [_,_,_,_,_,_,_,_,_,_,_,_,_,_,_,_,_,_,_,_,_,_,_,_,_,_,_,_,_,_,_,_,_,_,_,_,_,_,_,_,_,_,_,_,_,_,_,_] _
 refine Qab (Qac (Qac (Qaj [0,1,2] rfl ?_)))
 refine Qbe rfl rfl (es:=(([int .i8 a1.Qai,int .i8 a1.Qaq,v2]:List Value))) rfl rfl (fun _=>rfl) (n:=3) (fun _=>rfl) rfl (cells_all (hs.cells 0 rfl)) ?_
 obtain ⟨r6,Hr6,H⟩:=bind_get H
 refine QaA (args:=[agg (([int .i8 a1.Qai,int .i8 a1.Qaq,v2]:List Value)).toArray]) rfl rfl (Qax rfl (callFunc_enter Tryd.func18 rfl rfl) rfl) (QaW.calls (a1:=(⟨a1.Qai,a1.Qaq,a1.Qap⟩:Qao)) (hs.rd hr3) Hr6) ?_
 rintro _ w ⟨rfl,hs2⟩
 have hs:St _ [_] _:=hs.call hs2
 cases r6 with
 |true=>
  rw [if_pos rfl] at H
  show G _ _ _ _ [_,_,_,_,_,_,_,_,_,_,_,_,_,_,_,_,_,_,_,_,_,_,_,_,_,_,_,_,_,_,_,_,_,_,_,_,_,_,_,_,_,_,_,_,_,_,_,_] _
  refine Qaa (v:=bool false) rfl rfl rfl (Qab (Qad rfl (Qaw (Qac (Qaj [0,1,2] rfl ?_)))))
  refine Qaa (v:=agg ([pointer none,slice none 0 0]).toArray) rfl rfl (Qa4 (cs:=[pointer none,slice none 0 0]) (segs:=[[pointer none],[slice none 0 0]]) rfl rfl (fun _=>rfl) ⟨rfl,(fun _=>rfl),rfl,(fun _=>rfl),trivial⟩ (by simp) (by first|rfl|(simp [ev];done)|(simp [ev];rfl))) ?_
  refine Qbm hs rfl rfl (z:=(agg #[pointer none,slice none 0 0])) (cs:=[pointer none,slice none 0 0]) rfl (fun _=>rfl) rfl ?_
  intro b7 w hs
  show G _ _ _ _ [_,_,_,_,_,_,_,_,_,_,_,_,_,_,_,_,_,_,_,_,_,_,_,_,_,_,_,_,_,_,_,_,_,_,_,_,_,_,_,_,_,_,_,_,_,_,_,_] _
  refine QaT (n:=2) hs rfl rfl rfl (vs:=[pointer none,slice none 0 0]) rfl rfl rfl (fun _=>rfl) rfl (by simp [Value.oneCell']) ?_
  intro w hs
  have hs:=hs.bld0 (e:=5)
  have hs:St _ [_,_] _:=hs
  refine Qab (Qac ?_)
  refine QbI (n:=12) rfl [0,1,2,3,4,5,6,7,8,9,10,11] [0,1,2,3,4,5,6,7,8,9,10,11] rfl rfl ?_
  intro rest w hh hbw hO
  have hs:=hs.samew hh hbw
  show G _ _ _ _ [_,_,_,_,_,_,_,_,_,_,_,_,_,_,_,_,_,_,_,_,_,_,_,_,_,_,_,_,_,_,_,_,_,_,_,_,_,_,_,_,_,_,_,_,_,_,_,_] _
  obtain ⟨r9,Hr9,H⟩:=bind_get H
  obtain ⟨gs2,H⟩:=ite_get H
  obtain ⟨r10,Hr10,H⟩:=bind_get H
  refine Qbt ?_
  intro T hT
  refine Qbz (m0:=0) hO rfl 511 [0,1,2,3,4,5,6,7,8] [0,1,3,7,15,0,32,96,239,511,1023,2047] (by decide+kernel) (fun D t w=>∃ O:Nat→Value,t=[agg (([int .i8 a1.Qai,int .i8 a1.Qaq,v2]:List Value)).toArray,pointer (some ⟨b4,0,none⟩),string (⟨#[]⟩:ByteArray),pointer (some ⟨b7,0,none⟩),O 4,O 5,O 6,O 7,agg (([int .i8 a1.Qai,int .i8 a1.Qaq,v2]:List Value)).toArray,bool true,bool false,agg ([pointer none,slice none 0 0]).toArray,cnd (D 0) (pointer (some ⟨b4,0,none⟩)) (O 12),cnd (D 1) (int .i8 a1.Qai) (O 13),cnd (D 2) (int .i64 (i64w a1.Qai)) (O 14),cnd (D 3) (string r9) (O 15),cnd (D 4) (string (r9++(⟨#[32]⟩:ByteArray))) (O 16),cnd (D 5) (pointer (some ⟨b4,1,none⟩)) (O 17),cnd (D 6) (int .i8 a1.Qaq) (O 18),cnd (D 7) (int .i64 (i64w a1.Qaq)) (O 19),cnd (D 8) (string r10) (O 20),O 21,O 22,O 23,O 24,O 25,O 26,O 27,O 28,O 29,O 30,O 31,O 32,O 33,O 34,O 35,O 36,O 37,O 38,O 39,O 40,O 41,O 42,O 43,O 44,O 45,O 46,O 47]∧St w0 [Bld 47 5 b7 (⟨#[]⟩:ByteArray),Cells b4 (([int .i8 a1.Qai,int .i8 a1.Qaq,v2]:List Value)) 30] w) ?_ ⟨?_,⟨?_,⟨?_,⟨?_,⟨?_,⟨?_,⟨?_,⟨?_,⟨?_,trivial⟩⟩⟩⟩⟩⟩⟩⟩⟩ ?_
  ·exact ⟨fun i=>T.getD i undef,(by subst hT;rfl),hs⟩
  ·
   rintro D t w hD hp hcl ⟨O,ht,hs⟩ rest hk
   have hp:AllDone D []:=hp
   have q1_:=ny hcl 1 0 hD
   have q2_:=ny hcl 2 0 q1_
   have q3_:=ny hcl 3 0 q2_
   have q4_:=ny hcl 4 0 q3_
   have q8_:=ny hcl 8 1 q3_
   simp only [hD,q1_,q2_,q3_,q4_,q8_,cq,oT] at ht hs
   subst ht
   refine Qaa (v:=pointer (some ⟨b4,0,none⟩)) rfl rfl rfl ?_
   show G _ _ _ _ [_,_,_,_,_,_,_,_,_,_,_,_,_,_,_,_,_,_,_,_,_,_,_,_,_,_,_,_,_,_,_,_,_,_,_,_,_,_,_,_,_,_,_,_,_,_,_,_] _
   refine hk _ _ ⟨O,?_,hs.cast ?_⟩<;>simp only [oT,lq,cq,Nat.reduceBEq,q1_,q2_,q3_,q4_,q8_]
  ·
   rintro D t w hD hp hcl ⟨O,ht,hs⟩ rest hk
   have hp:AllDone D [0]:=hp
   obtain ⟨p0_,_⟩:=hp
   have q2_:=ny hcl 2 0 hD
   have q3_:=ny hcl 3 0 q2_
   have q4_:=ny hcl 4 0 q3_
   have q8_:=ny hcl 8 1 q3_
   simp only [hD,p0_,q2_,q3_,q4_,q8_,cq,oT] at ht hs
   subst ht
   refine QaI rfl rfl (v:=int .i8 a1.Qai) rfl rfl (fun _=>rfl) (cells_load (hs.cells 1 rfl) 0 1 rfl) ?_
   show G _ _ _ _ [_,_,_,_,_,_,_,_,_,_,_,_,_,_,_,_,_,_,_,_,_,_,_,_,_,_,_,_,_,_,_,_,_,_,_,_,_,_,_,_,_,_,_,_,_,_,_,_] _
   refine hk _ _ ⟨O,?_,hs.cast ?_⟩<;>simp only [oT,lq,cq,Nat.reduceBEq,p0_,q2_,q3_,q4_,q8_]
  ·
   rintro D t w hD hp hcl ⟨O,ht,hs⟩ rest hk
   have hp:AllDone D [1]:=hp
   obtain ⟨p1_,_⟩:=hp
   obtain ⟨p0_,_⟩:=(show D 1=true→AllDone D [0] from hcl 1 (by decide)) p1_
   have q3_:=ny hcl 3 0 hD
   have q4_:=ny hcl 4 0 q3_
   have q8_:=ny hcl 8 1 q3_
   simp only [hD,p0_,p1_,q3_,q4_,q8_,cq,oT] at ht hs
   subst ht
   refine Qaa (v:=int .i64 (i64w a1.Qai)) rfl rfl rfl ?_
   show G _ _ _ _ [_,_,_,_,_,_,_,_,_,_,_,_,_,_,_,_,_,_,_,_,_,_,_,_,_,_,_,_,_,_,_,_,_,_,_,_,_,_,_,_,_,_,_,_,_,_,_,_] _
   refine hk _ _ ⟨O,?_,hs.cast ?_⟩<;>simp only [oT,lq,cq,Nat.reduceBEq,p0_,p1_,q3_,q4_,q8_]
  ·
   rintro D t w hD hp hcl ⟨O,ht,hs⟩ rest hk
   have hp:AllDone D [2]:=hp
   obtain ⟨p2_,_⟩:=hp
   obtain ⟨p1_,_⟩:=(show D 2=true→AllDone D [1] from hcl 2 (by decide)) p2_
   obtain ⟨p0_,_⟩:=(show D 1=true→AllDone D [0] from hcl 1 (by decide)) p1_
   have q4_:=ny hcl 4 0 hD
   have q8_:=ny hcl 8 1 hD
   simp only [hD,p0_,p1_,p2_,q4_,q8_,cq,oT] at ht hs
   subst ht
   refine QaA (args:=[int .i64 (i64w a1.Qai)]) rfl rfl (Qax rfl (callFunc_enter Tryd.func20 rfl rfl) rfl) (QaV.calls (a1:=i64w a1.Qai) (hs.tab htab) Hr9) ?_
   rintro _ w ⟨rfl,hs2⟩
   have hs:St _ [_,_] _:=hs.call hs2
   show G _ _ _ _ [_,_,_,_,_,_,_,_,_,_,_,_,_,_,_,_,_,_,_,_,_,_,_,_,_,_,_,_,_,_,_,_,_,_,_,_,_,_,_,_,_,_,_,_,_,_,_,_] _
   refine hk _ _ ⟨O,?_,hs.cast ?_⟩<;>simp only [oT,lq,cq,Nat.reduceBEq,p0_,p1_,p2_,q4_,q8_]
  ·
   rintro D t w hD hp hcl ⟨O,ht,hs⟩ rest hk
   have hp:AllDone D [3]:=hp
   obtain ⟨p3_,_⟩:=hp
   obtain ⟨p2_,_⟩:=(show D 3=true→AllDone D [2] from hcl 3 (by decide)) p3_
   obtain ⟨p1_,_⟩:=(show D 2=true→AllDone D [1] from hcl 2 (by decide)) p2_
   obtain ⟨p0_,_⟩:=(show D 1=true→AllDone D [0] from hcl 1 (by decide)) p1_
   simp only [hD,p0_,p1_,p2_,p3_,cq,oT] at ht hs
   subst ht
   refine Qaa (v:=string (r9++(⟨#[32]⟩:ByteArray))) rfl rfl (QbA rfl rfl rfl gs2) ?_
   show G _ _ _ _ [_,_,_,_,_,_,_,_,_,_,_,_,_,_,_,_,_,_,_,_,_,_,_,_,_,_,_,_,_,_,_,_,_,_,_,_,_,_,_,_,_,_,_,_,_,_,_,_] _
   refine hk _ _ ⟨O,?_,hs.cast ?_⟩<;>simp only [oT,lq,cq,Nat.reduceBEq,p0_,p1_,p2_,p3_]
  ·
   rintro D t w hD hp hcl ⟨O,ht,hs⟩ rest hk
   have hp:AllDone D []:=hp
   have q6_:=ny hcl 6 0 hD
   have q7_:=ny hcl 7 0 q6_
   have q8_:=ny hcl 8 0 q7_
   simp only [hD,q6_,q7_,q8_,cq,oT] at ht hs
   subst ht
   refine Qaa (v:=pointer (some ⟨b4,1,none⟩)) rfl rfl rfl ?_
   show G _ _ _ _ [_,_,_,_,_,_,_,_,_,_,_,_,_,_,_,_,_,_,_,_,_,_,_,_,_,_,_,_,_,_,_,_,_,_,_,_,_,_,_,_,_,_,_,_,_,_,_,_] _
   refine hk _ _ ⟨O,?_,hs.cast ?_⟩<;>simp only [oT,lq,cq,Nat.reduceBEq,q6_,q7_,q8_]
  ·
   rintro D t w hD hp hcl ⟨O,ht,hs⟩ rest hk
   have hp:AllDone D [5]:=hp
   obtain ⟨p5_,_⟩:=hp
   have q7_:=ny hcl 7 0 hD
   have q8_:=ny hcl 8 0 q7_
   simp only [hD,p5_,q7_,q8_,cq,oT] at ht hs
   subst ht
   refine QaI rfl rfl (v:=int .i8 a1.Qaq) rfl rfl (fun _=>rfl) (cells_load (hs.cells 1 rfl) 1 1 rfl) ?_
   show G _ _ _ _ [_,_,_,_,_,_,_,_,_,_,_,_,_,_,_,_,_,_,_,_,_,_,_,_,_,_,_,_,_,_,_,_,_,_,_,_,_,_,_,_,_,_,_,_,_,_,_,_] _
   refine hk _ _ ⟨O,?_,hs.cast ?_⟩<;>simp only [oT,lq,cq,Nat.reduceBEq,p5_,q7_,q8_]
  ·
   rintro D t w hD hp hcl ⟨O,ht,hs⟩ rest hk
   have hp:AllDone D [6]:=hp
   obtain ⟨p6_,_⟩:=hp
   obtain ⟨p5_,_⟩:=(show D 6=true→AllDone D [5] from hcl 6 (by decide)) p6_
   have q8_:=ny hcl 8 0 hD
   simp only [hD,p5_,p6_,q8_,cq,oT] at ht hs
   subst ht
   refine Qaa (v:=int .i64 (i64w a1.Qaq)) rfl rfl rfl ?_
   show G _ _ _ _ [_,_,_,_,_,_,_,_,_,_,_,_,_,_,_,_,_,_,_,_,_,_,_,_,_,_,_,_,_,_,_,_,_,_,_,_,_,_,_,_,_,_,_,_,_,_,_,_] _
   refine hk _ _ ⟨O,?_,hs.cast ?_⟩<;>simp only [oT,lq,cq,Nat.reduceBEq,p5_,p6_,q8_]
  ·
   rintro D t w hD hp hcl ⟨O,ht,hs⟩ rest hk
   have hp:AllDone D [7,3]:=hp
   obtain ⟨p7_,p3_,_⟩:=hp
   obtain ⟨p6_,_⟩:=(show D 7=true→AllDone D [6] from hcl 7 (by decide)) p7_
   obtain ⟨p5_,_⟩:=(show D 6=true→AllDone D [5] from hcl 6 (by decide)) p6_
   obtain ⟨p2_,_⟩:=(show D 3=true→AllDone D [2] from hcl 3 (by decide)) p3_
   obtain ⟨p1_,_⟩:=(show D 2=true→AllDone D [1] from hcl 2 (by decide)) p2_
   obtain ⟨p0_,_⟩:=(show D 1=true→AllDone D [0] from hcl 1 (by decide)) p1_
   simp only [hD,p0_,p1_,p2_,p3_,p5_,p6_,p7_,cq,oT] at ht hs
   subst ht
   refine QaA (args:=[int .i64 (i64w a1.Qaq)]) rfl rfl (Qax rfl (callFunc_enter Tryd.func20 rfl rfl) rfl) (QaV.calls (a1:=i64w a1.Qaq) (hs.tab htab) Hr10) ?_
   rintro _ w ⟨rfl,hs2⟩
   have hs:St _ [_,_] _:=hs.call hs2
   show G _ _ _ _ [_,_,_,_,_,_,_,_,_,_,_,_,_,_,_,_,_,_,_,_,_,_,_,_,_,_,_,_,_,_,_,_,_,_,_,_,_,_,_,_,_,_,_,_,_,_,_,_] _
   refine hk _ _ ⟨O,?_,hs.cast ?_⟩<;>simp only [oT,lq,cq,Nat.reduceBEq,p0_,p1_,p2_,p3_,p5_,p6_,p7_]
  intro D t w rest hall hO1_ hI
  obtain ⟨O,ht,hs⟩:=hI
  have p0_:=hall 0 (by decide) rfl
  have p1_:=hall 1 (by decide) rfl
  have p2_:=hall 2 (by decide) rfl
  have p3_:=hall 3 (by decide) rfl
  have p4_:=hall 4 (by decide) rfl
  have p5_:=hall 5 (by decide) rfl
  have p6_:=hall 6 (by decide) rfl
  have p7_:=hall 7 (by decide) rfl
  have p8_:=hall 8 (by decide) rfl
  simp only [p0_,p1_,p2_,p3_,p4_,p5_,p6_,p7_,p8_,cq,oT] at ht hs
  subst ht
  obtain ⟨rest,rfl,hO3_⟩:=ord_one (m:=511) hO1_ rfl 9 (m':=1023) (by decide+kernel) rfl
  clear hO1_
  obtain ⟨gs4,H⟩:=ite_get H
  refine Qaa (v:=string ((r9++(⟨#[32]⟩:ByteArray))++r10)) rfl rfl (QbA rfl rfl rfl gs4) ?_
  obtain ⟨rest,rfl,hO5_⟩:=ord_one (m:=1023) hO3_ rfl 10 (m':=2047) (by decide+kernel) rfl
  clear hO3_
  obtain ⟨gs6,H⟩:=ite_get H
  refine Qaa (v:=string (((r9++(⟨#[32]⟩:ByteArray))++r10)++(⟨#[10]⟩:ByteArray))) rfl rfl (QbA rfl rfl rfl gs6) ?_
  obtain ⟨rest,rfl,hO7_⟩:=ord_one (m:=2047) hO5_ rfl 11 (m':=4095) (by decide+kernel) rfl
  clear hO5_
  obtain ⟨g,H⟩:=ite_get H
  refine Qbv (x:=((r9++(⟨#[32]⟩:ByteArray))++r10)++(⟨#[10]⟩:ByteArray)) bld_write (not8_cons (not8_cells (by decide)) not8_nil) hs rfl rfl (Qax rfl (callFunc_enter Tryd.func19 rfl rfl) rfl) g ?_
  intro w hs
  show G _ _ _ _ [_,_,_,_,_,_,_,_,_,_,_,_,_,_,_,_,_,_,_,_,_,_,_,_,_,_,_,_,_,_,_,_,_,_,_,_,_,_,_,_,_,_,_,_,_,_,_,_] _
  obtain rfl:=ord_end hO7_ rfl (by decide+kernel)
  refine Qab (Qac (Qac (Qaj [0,1,2,3] rfl ?_)))
  refine Qaa (v:=pointer (some ⟨b4,2,none⟩)) rfl rfl rfl ?_
  refine QaI rfl rfl (v:=v2) rfl rfl (fun _=>rfl) (cells_load (hs.cells 1 rfl) 2 1 rfl) ?_
  refine Qbn (hs.rd hr3) rfl rfl rfl rfl rfl ?_
  refine Qaa (v:=int .i64 0) rfl rfl rfl (Qab ?_)
  obtain ⟨o1_,Ho,Hr1_⟩:=bind_get H
  refine QaR (J:=fun t w=>∃ x26:ByteArray,QaG.a0 N x26=some r∧Fr t (fun O=>([O 0,O 1,O 2,pointer (some ⟨b7,0,none⟩),O 4,O 5,O 6,O 7,O 8,O 9,O 10,O 11,O 12,O 13,O 14,O 15,O 16,O 17,O 18,O 19,O 20,O 21,O 22,O 23,O 24,O 25,O 26,O 27,O 28,O 29,O 30,O 31,O 32,O 33,O 34,O 35,O 36,O 37,O 38,O 39,O 40,O 41,O 42,O 43,O 44,O 45,O 46,O 47]:List Value))∧St w0 [Bld 47 5 b7 x26] w) ?_ ?_
  ·
   rintro t w ⟨x26,H,hf,hs⟩
   obtain ⟨O,rfl⟩:=hf.open
   show G _ _ _ _ [_,_,_,_,_,_,_,_,_,_,_,_,_,_,_,_,_,_,_,_,_,_,_,_,_,_,_,_,_,_,_,_,_,_,_,_,_,_,_,_,_,_,_,_,_,_,_,_] _
   unfold QaG.a0 at H
   refine Qac (Qaj [0,1] rfl ?_)
   refine Qby Tryd.Builder_String_any_k not8_nil hs rfl rfl (Qax rfl (callFunc_enter Tryd.func23 rfl rfl) rfl) ?_
   intro w hs
   refine Qaa (v:=string x26) rfl rfl rfl ?_
   show G _ _ _ _ [_,_,_,_,_,_,_,_,_,_,_,_,_,_,_,_,_,_,_,_,_,_,_,_,_,_,_,_,_,_,_,_,_,_,_,_,_,_,_,_,_,_,_,_,_,_,_,_] _
   refine Qab ?_
   obtain rfl:=QsJ H
   refine Qau Tryd.func8 (v:=string x26) (res1 rfl rfl) ?_
   have hs:St _ [] _:=St.take (Γ':=[_]) hs
   exact ⟨_,rfl,rfl,hs⟩
  intro ha1_
  have hs:=hs.pull 0 rfl
  have hs:St _ [_] _:=St.take (Γ':=[_]) hs
  refine QaY (I:=fun n_ t w=>∃ x18:ByteArray,∃ x19:Int,rounds (fun s=>QaG.b0 N a1 s.1 s.2) n_ (x18,x19)=some o1_∧Fr t (fun O=>([O 0,O 1,O 2,pointer (some ⟨b7,0,none⟩),O 4,O 5,O 6,O 7,O 8,O 9,O 10,O 11,O 12,O 13,O 14,O 15,O 16,O 17,O 18,O 19,O 20,O 21,O 22,O 23,O 24,v2,int .i64 (a1.Qap.length:Int),int .i64 x19,O 28,O 29,O 30,O 31,O 32,O 33,O 34,O 35,O 36,O 37,O 38,O 39,O 40,O 41,O 42,O 43,O 44,O 45,O 46,O 47]:List Value))∧St w0 [Bld 47 5 b7 x18] w) N ⟨(⟨#[]⟩:ByteArray)++(((r9++(⟨#[32]⟩:ByteArray))++r10)++(⟨#[10]⟩:ByteArray)),0,Ho,rfl,hs⟩ ?_ ?_
  ·
   rintro _ _ ⟨x18,x19,h,_⟩
   exact rounds_zero h
  intro n_ ih1_
  rintro t w ⟨x18,x19,Ho,hf,hs⟩
  obtain ⟨O,rfl⟩:=hf.open
  show G _ _ _ _ [_,_,_,_,_,_,_,_,_,_,_,_,_,_,_,_,_,_,_,_,_,_,_,_,_,_,_,_,_,_,_,_,_,_,_,_,_,_,_,_,_,_,_,_,_,_,_,_] _
  obtain ⟨x18_,H,Hx1_⟩:=rounds_succ Ho
  have H:QaG.b0 N a1 x18 x19=some x18_:=H
  unfold QaG.b0 at H
  refine Qac (Qaj [0] rfl ?_)
  refine Qas (B:=decide (x19< (a1.Qap.length:Int))) rfl rfl rfl ?_ ?_
  ·
   intro hb
   rw [if_pos (b_dec_t hb)] at H
   refine Qab (Qac (Qak rfl (Qaw (Qac ?_))))
   refine Qbd (Qac (Qaj [0,1,2,3] rfl ?_))
   obtain ⟨g13,H⟩:=ite_get H
   refine Qbl QaL Qat (hs.rd hr3) rfl (fun _=>rfl) g13.1 g13.2 rfl rfl rfl rfl rfl ?_
   intro p20 hp20 lp20 op20
   refine Qbe rfl rfl (es:=(Qay (rdL a1.Qap x19 Qat))) rfl rfl (fun _=>rfl) (n:=2) (fun _=>rfl) (QaL.len _) hp20 ?_
   show G _ _ _ _ [_,_,_,_,_,_,_,_,_,_,_,_,_,_,_,_,_,_,_,_,_,_,_,_,_,_,_,_,_,_,_,_,_,_,_,_,_,_,_,_,_,_,_,_,_,_,_,_] _
   refine Qbm hs rfl rfl (z:=(agg #[int .u64 0,bool false])) (cs:=(Qay Qat)) rfl (fun _=>rfl) rfl ?_
   intro b21 w hs
   refine QaT (n:=2) hs (QaL.len _) rfl rfl (vs:=(Qay (rdL a1.Qap x19 Qat))) rfl rfl rfl (fun _=>rfl) (QaL.len _) (QaL.one _) ?_
   intro w hs
   refine Qab (Qac (Qaj [0] rfl ?_))
   refine Qaa (v:=string (⟨#[32,110,111]⟩:ByteArray)) rfl rfl rfl (Qab (Qac (Qac ?_)))
   refine Qbr (J:=(fun t w=>∃ x23:ByteArray,QaG.j2 N a1 x19 x18 x23=some x18_∧Fr t (fun O=>([O 0,O 1,O 2,pointer (some ⟨b7,0,none⟩),O 4,pointer (some ⟨b21,0,none⟩),string x23,O 7,O 8,O 9,O 10,O 11,O 12,O 13,O 14,O 15,O 16,O 17,O 18,O 19,O 20,O 21,O 22,O 23,O 24,v2,int .i64 (a1.Qap.length:Int),int .i64 x19,O 28,O 29,O 30,O 31,O 32,O 33,O 34,O 35,O 36,O 37,O 38,O 39,O 40,O 41,O 42,O 43,O 44,O 45,O 46,O 47]:List Value))∧St w0 [Bld 47 5 b7 x18,Cells b21 (Qay (rdL a1.Qap x19 Qat)) 55] w)) ?_ ?_
   ·
    rintro t w ⟨x23,H,hf,hs⟩
    obtain ⟨O,rfl⟩:=hf.open
    show G _ _ _ _ [_,_,_,_,_,_,_,_,_,_,_,_,_,_,_,_,_,_,_,_,_,_,_,_,_,_,_,_,_,_,_,_,_,_,_,_,_,_,_,_,_,_,_,_,_,_,_,_] _
    unfold QaG.j2 at H
    refine Qac (Qaj [0,1,2,3] rfl ?_)
    refine Qaa (v:=pointer (some ⟨b21,0,none⟩)) rfl rfl rfl ?_
    refine QaI rfl rfl (v:=int .u64 ((rdL a1.Qap x19 Qat).QaO)) rfl rfl (fun _=>rfl) (cells_load (hs.cells 1 rfl) 0 1 rfl) ?_
    show G _ _ _ _ [_,_,_,_,_,_,_,_,_,_,_,_,_,_,_,_,_,_,_,_,_,_,_,_,_,_,_,_,_,_,_,_,_,_,_,_,_,_,_,_,_,_,_,_,_,_,_,_] _
    obtain ⟨r24,Hr24,H⟩:=bind_get H
    refine QaA (args:=[int .u64 ((rdL a1.Qap x19 Qat).QaO),int .i64 16]) rfl rfl (Qax rfl (callFunc_enter Tryd.func21 rfl rfl) rfl) (QaN.calls (a1:=(rdL a1.Qap x19 Qat).QaO) (hs.cellU hdbr) Hr24) ?_
    rintro _ w ⟨rfl,hs2⟩
    have hs:St _ [_,_] _:=hs.call hs2
    refine Qaa (v:=string r24) rfl rfl rfl (Qab (Qaj [0,1,2,3,4,5,6,7,8,9] rfl ?_))
    refine Qaa (v:=string r24) rfl rfl rfl ?_
    refine Qaa (v:=int .i64 (r24.size:Int)) rfl rfl (Qbf rfl rfl rfl) ?_
    show G _ _ _ _ [_,_,_,_,_,_,_,_,_,_,_,_,_,_,_,_,_,_,_,_,_,_,_,_,_,_,_,_,_,_,_,_,_,_,_,_,_,_,_,_,_,_,_,_,_,_,_,_] _
    refine Qaa (v:=int .i64 (i64w (16 - (r24.size:Int)))) rfl rfl rfl ?_
    obtain ⟨r25,Hr25,H⟩:=bind_get H
    refine QaA (args:=[string (⟨#[48]⟩:ByteArray),int .i64 (i64w (16 - (r24.size:Int)))]) rfl rfl (Qax rfl (callFunc_enter Tryd.func22 rfl rfl) rfl) (Qan.calls (a1:=(⟨#[48]⟩:ByteArray)) (a2:=i64w (16 - (r24.size:Int))) Hr25) ?_
    rintro _ w ⟨rfl,hs2⟩
    have hs:St _ [_,_] _:=hs.call hs2
    refine Qaa (v:=string r24) rfl rfl rfl ?_
    obtain ⟨gs15,H⟩:=ite_get H
    refine Qaa (v:=string (r25++r24)) rfl rfl (QbA rfl rfl rfl gs15) ?_
    show G _ _ _ _ [_,_,_,_,_,_,_,_,_,_,_,_,_,_,_,_,_,_,_,_,_,_,_,_,_,_,_,_,_,_,_,_,_,_,_,_,_,_,_,_,_,_,_,_,_,_,_,_] _
    refine Qaa (v:=string x23) rfl rfl rfl ?_
    obtain ⟨gs16,H⟩:=ite_get H
    refine Qaa (v:=string ((r25++r24)++x23)) rfl rfl (QbA rfl rfl rfl gs16) ?_
    obtain ⟨gs17,H⟩:=ite_get H
    refine Qaa (v:=string (((r25++r24)++x23)++(⟨#[10]⟩:ByteArray))) rfl rfl (QbA rfl rfl rfl gs17) ?_
    obtain ⟨g,H⟩:=ite_get H
    refine Qbv (x:=((r25++r24)++x23)++(⟨#[10]⟩:ByteArray)) bld_write (not8_cons (not8_cells (by decide)) not8_nil) hs rfl rfl (Qax rfl (callFunc_enter Tryd.func19 rfl rfl) rfl) g ?_
    intro w hs
    show G _ _ _ _ [_,_,_,_,_,_,_,_,_,_,_,_,_,_,_,_,_,_,_,_,_,_,_,_,_,_,_,_,_,_,_,_,_,_,_,_,_,_,_,_,_,_,_,_,_,_,_,_] _
    refine Qab ?_
    refine QaD (Qaj [0,1] rfl ?_)
    refine Qaa (v:=int .i64 (i64w (x19+1))) rfl rfl rfl ?_
    refine Qaa (v:=int .i64 (i64w (x19+1))) rfl rfl rfl (Qab ?_)
    obtain rfl:=QsJ H
    have hs:=hs.pull 0 rfl
    have hs:St _ [_] _:=St.take (Γ':=[_]) hs
    exact ih1_ _ _ ⟨x18++(((r25++r24)++x23)++(⟨#[10]⟩:ByteArray)),i64w (x19+1),Hx1_,rfl,hs⟩
   intro ha
   refine Qaj [0,1] rfl ?_
   refine Qaa (v:=pointer (some ⟨b21,1,none⟩)) rfl rfl rfl ?_
   by_cases hb14_:(rdL a1.Qap x19 Qat).Qa1=true
   ·
    rw [if_pos hb14_] at H
    refine QaI rfl rfl (v:=bool true) rfl rfl (fun _=>rfl) (cells_load (hs.cells 0 rfl) 1 1 (Eq.trans (b:=[bool ((rdL a1.Qap x19 Qat).Qa1)]) rfl (congrArg (fun b=>[bool b]) hb14_))) (Qab (Qak rfl (Qaj [0] rfl ?_)))
    refine Qaa (v:=string (⟨#[32,121,101,115]⟩:ByteArray)) rfl rfl rfl (Qab ?_)
    have hs:=hs.pull 0 rfl
    have hs:=hs.pull 1 rfl
    have hs:St _ [_,_] _:=St.take (Γ':=[]) hs
    exact ha _ _ ⟨(⟨#[32,121,101,115]⟩:ByteArray),H,rfl,hs⟩
   rw [if_neg hb14_] at H
   refine QaI rfl rfl (v:=bool false) rfl rfl (fun _=>rfl) (cells_load (hs.cells 0 rfl) 1 1 (Eq.trans (b:=[bool ((rdL a1.Qap x19 Qat).Qa1)]) rfl (congrArg (fun b=>[bool b]) (Bool.eq_false_iff.2 hb14_)))) ?_
   show G _ _ _ _ [_,_,_,_,_,_,_,_,_,_,_,_,_,_,_,_,_,_,_,_,_,_,_,_,_,_,_,_,_,_,_,_,_,_,_,_,_,_,_,_,_,_,_,_,_,_,_,_] _
   refine Qab (Qad rfl (Qaw ?_))
   have hs:=hs.pull 0 rfl
   have hs:=hs.pull 1 rfl
   have hs:St _ [_,_] _:=St.take (Γ':=[]) hs
   exact ha _ _ ⟨(⟨#[32,110,111]⟩:ByteArray),H,rfl,hs⟩
  intro hb
  rw [if_neg (b_dec_f hb)] at H
  show G _ _ _ _ [_,_,_,_,_,_,_,_,_,_,_,_,_,_,_,_,_,_,_,_,_,_,_,_,_,_,_,_,_,_,_,_,_,_,_,_,_,_,_,_,_,_,_,_,_,_,_,_] _
  refine Qab (Qac (Qad rfl ?_))
  obtain rfl:=QsJ H
  subst Hx1_
  have hs:=hs.pull 0 rfl
  have hs:St _ [_] _:=St.take (Γ':=[]) hs
  refine Qbi rfl ?_
  exact ha1_ _ _ ⟨x18,Hr1_,rfl,hs⟩
 |false=>
  rw [if_neg Bool.false_ne_true] at H
  refine Qaa (v:=bool true) rfl rfl rfl ?_
  show G _ _ _ _ [_,_,_,_,_,_,_,_,_,_,_,_,_,_,_,_,_,_,_,_,_,_,_,_,_,_,_,_,_,_,_,_,_,_,_,_,_,_,_,_,_,_,_,_,_,_,_,_] _
  refine Qab (Qak rfl (Qac (Qaj [0] rfl ?_)))
  refine Qaa (v:=string (⟨#[]⟩:ByteArray)) rfl rfl rfl (Qab ?_)
  obtain rfl:=QsJ H
  refine Qau Tryd.func8 (v:=string (⟨#[]⟩:ByteArray)) (res1 rfl rfl) ?_
  have hs:St _ [] _:=St.take (Γ':=[_]) hs
  exact ⟨_,rfl,rfl,hs⟩
def QaH.post (w0:World) (r:(Qao×Int)) (v:Value) (w:World):Prop:=∃ u1:Value,v=tuple #[agg (([int .i8 r.1.Qai,int .i8 r.1.Qaq,u1]:List Value)).toArray,int .i64 r.2]∧St w0 [Row 55 Qav u1 r.1.Qap] w
theorem QaH.calls {N : Nat} {a1 : ByteArray} {w0 : World} {r : (Qao × Int)} (htab : Lib.TabIs Tryd.prog w0 "internal/strconv.uint64pow10" .u64 Lib.pow10Tab) (hmax : CellI w0 1) (hsyn : CellE w0 2) (hrng : CellE w0 3) (hdbr : CellU w0 5 15 4) (H : QaH.f N a1 = some r) :
 Calls Tryd.prog 11 #[string a1] w0 fun e w=>∃ v,e= .returned v∧QaH.post w0 r v w:=by
 unfold QaH.f at H
 have hs:St w0 [] w0:=St.refl w0
 refine calls_of_g (n:=83) Tryd.func11 rfl rfl ?_
 show G _ _ _ _ (_::_::_::_::_::_::_::_::_::_::_::_::_::_::_::_::_::_::_::_::_::_::_::_::_::_::_::_::_::_::_::_::_::_::_::_::_::_::_::_::_::_::_::_::_::_::_::_::_::_::_::_::_::_::_::_::_::_::_::_::_::_::_::_::_::_::_::_::_::_::_::_::_::_::_::_::_::_::_::_::_::_::_::_::[]) _
 refine Qac (Qaj [0,1] rfl ?_)
 refine Qbm hs rfl rfl (z:=(agg #[int .i8 0,int .i8 0,slice none 0 0])) (cs:=(([int .i8 0,int .i8 0,slice none 0 0]:List Value))) rfl (fun _=>rfl) rfl ?_
 intro b2 w hs
 refine g_d rfl ?_
 try dsimp only [Qae,Qaf]
 refine Qaa (v:=int .i64 0) rfl rfl rfl (g_d rfl (Qab (Qac (Qaj [0,1,2] rfl ?_))))
 refine Qaa (v:=string a1) rfl rfl rfl (g_d rfl ?_)
 obtain ⟨r4,Hr4,H⟩:=bind_get H
 refine QaA (args:=[string a1,string (⟨#[10]⟩:ByteArray)]) rfl rfl (Qax rfl (callFunc_enter Tryd.func29 rfl rfl) rfl) (strings_Split.calls (a1:=a1) (a2:=(⟨#[10]⟩:ByteArray)) (hs.cellI hmax) Hr4) ?_
 intro v5 w hs2
 have hs:St _ [_,_] _:=hs.call hs2
 refine g_d rfl ?_
 try dsimp only [Qae,Qaf]
 refine Qaa (v:=v5) rfl rfl rfl (g_d rfl (Qab (Qac (Qaj [0,1,2,3,4,5,6,7,8,9,10] rfl ?_))))
 refine Qaa (v:=v5) rfl rfl rfl (g_d rfl ?_)
 obtain ⟨g1,H⟩:=ite_get H
 refine Qbl fkS (⟨#[]⟩:ByteArray) (hs.row 0 rfl) rfl (fun _=>rfl) g1.1 g1.2 rfl rfl rfl rfl rfl ?_
 intro p7 hp7 lp7 op7
 refine g_d rfl ?_
 try dsimp only [Qae,Qaf]
 refine QaI rfl rfl (v:=string (rdL r4 0 (⟨#[]⟩:ByteArray))) rfl rfl (fun _=>rfl) hp7 (g_d rfl ?_)
 obtain ⟨r8,Hr8,H⟩:=bind_get H
 refine QaA (args:=[string (rdL r4 0 (⟨#[]⟩:ByteArray)),string (⟨#[32]⟩:ByteArray)]) rfl rfl (Qax rfl (callFunc_enter Tryd.func30 rfl rfl) rfl) (strings_Cut.calls (a1:=rdL r4 0 (⟨#[]⟩:ByteArray)) (a2:=(⟨#[32]⟩:ByteArray)) (hs.cellI hmax) Hr8) ?_
 rintro _ w ⟨rfl,hs2⟩
 have hs:St _ [_,_] _:=hs.call hs2
 refine g_d rfl ?_
 try dsimp only [Qae,Qaf]
 refine Qaa (v:=tuple #[string r8.1,string r8.2.1,bool r8.2.2]) rfl rfl rfl (g_d rfl ?_)
 refine Qaa (v:=string r8.1) rfl rfl rfl (g_d rfl ?_)
 refine Qaa (v:=string r8.2.1) rfl rfl rfl (g_d rfl ?_)
 refine Qaa (v:=bool r8.2.2) rfl rfl rfl (g_d rfl ?_)
 refine Qaa (v:=string r8.1) rfl rfl rfl (g_d rfl ?_)
 refine Qaa (v:=string r8.2.1) rfl rfl rfl (g_d rfl ?_)
 try dsimp only [Qae,Qaf]
 refine Qaa (v:=bool r8.2.2) rfl rfl rfl (g_d rfl (Qab (Qac (Qaj [0,1,2] rfl ?_))))
 refine Qaa (v:=agg (([int .i8 0,int .i8 0,slice none 0 0]:List Value)).toArray) rfl rfl (Qa4 (cs:=(([int .i8 0,int .i8 0,slice none 0 0]:List Value))) (segs:=[[int .i8 0],[int .i8 0],[slice none 0 0]]) rfl rfl (fun _=>rfl) ⟨rfl,(fun _=>rfl),rfl,(fun _=>rfl),rfl,(fun _=>rfl),trivial⟩ (by simp) (by first|rfl|(simp [ev,encA];done)|(simp [ev,encA];rfl))) ?_
 refine g_d rfl ?_
 try dsimp only [Qae,Qaf]
 refine Qbm hs rfl rfl (z:=(agg #[int .i8 0,int .i8 0,slice none 0 0])) (cs:=(([int .i8 0,int .i8 0,slice none 0 0]:List Value))) rfl (fun _=>rfl) rfl ?_
 intro b9 w hs
 refine g_d rfl ?_
 refine QaT (n:=3) hs rfl rfl rfl (vs:=(([int .i8 0,int .i8 0,slice none 0 0]:List Value))) rfl rfl rfl (fun _=>rfl) rfl (by simp [Value.oneCell']) ?_
 intro w hs
 refine g_n rfl (Qab (Qac (Qaj [0,1,2,3,4,5,6] rfl ?_)))
 refine Qaa (v:=string r8.1) rfl rfl rfl (g_d rfl ?_)
 obtain ⟨r11,Hr11,H⟩:=bind_get H
 refine QaA (args:=[string r8.1,int .i64 60]) rfl rfl (Qax rfl (callFunc_enter Tryd.func31 rfl rfl) rfl) (Qa8.calls (a1:=r8.1) (a2:=60) (hs.tab htab) (hs.cellE hsyn) (hs.cellE hrng) Hr11) ?_
 rintro _ w ⟨rfl,hs2⟩
 have hs:St _ [_,_,_] _:=hs.call hs2
 refine g_d rfl ?_
 try dsimp only [Qae,Qaf]
 refine Qaa (v:=tuple #[int .i64 r11.1,bool r11.2]) rfl rfl rfl (g_d rfl ?_)
 refine Qaa (v:=int .i64 r11.1) rfl rfl rfl (g_d rfl ?_)
 refine Qaa (v:=bool r11.2) rfl rfl rfl (g_d rfl ?_)
 refine Qaa (v:=int .i64 r11.1) rfl rfl rfl (g_d rfl ?_)
 refine Qaa (v:=bool r11.2) rfl rfl rfl (g_d rfl ?_)
 try dsimp only [Qae,Qaf]
 refine Qab (Qac (Qaj [0,1,2,3,4,5,6] rfl ?_))
 refine Qaa (v:=string r8.2.1) rfl rfl rfl (g_d rfl ?_)
 obtain ⟨r12,Hr12,H⟩:=bind_get H
 refine QaA (args:=[string r8.2.1,int .i64 3]) rfl rfl (Qax rfl (callFunc_enter Tryd.func31 rfl rfl) rfl) (Qa8.calls (a1:=r8.2.1) (a2:=3) (hs.tab htab) (hs.cellE hsyn) (hs.cellE hrng) Hr12) ?_
 rintro _ w ⟨rfl,hs2⟩
 have hs:St _ [_,_,_] _:=hs.call hs2
 refine g_d rfl ?_
 refine Qaa (v:=tuple #[int .i64 r12.1,bool r12.2]) rfl rfl rfl (g_d rfl ?_)
 refine Qaa (v:=int .i64 r12.1) rfl rfl rfl (g_d rfl ?_)
 refine Qaa (v:=bool r12.2) rfl rfl rfl (g_d rfl ?_)
 refine Qaa (v:=int .i64 r12.1) rfl rfl rfl (g_d rfl ?_)
 try dsimp only [Qae,Qaf]
 refine Qaa (v:=bool r12.2) rfl rfl rfl (g_d rfl (Qab (Qac (Qaj [0,1,2,3,4,5,6,7] rfl ?_))))
 refine Qaa (v:=int .i64 r11.1) rfl rfl rfl (g_d rfl ?_)
 refine Qaa (v:=int .i8 (i8w r11.1)) rfl rfl rfl (g_d rfl ?_)
 refine Qaa (v:=int .i64 r12.1) rfl rfl rfl (g_d rfl ?_)
 refine Qaa (v:=int .i8 (i8w r12.1)) rfl rfl rfl (g_d rfl ?_)
 refine Qaa (v:=pointer (some ⟨b9,0,none⟩)) rfl rfl rfl (g_d rfl ?_)
 refine Qbs hs rfl rfl (vs:=((encI .i8) (i8w r11.1))) (cs':=(([int .i8 (i8w r11.1),int .i8 0,slice none 0 0]:List Value))) rfl rfl rfl (n:=1) (fun _=>rfl) ((fkI .i8).len _) (by first|exact Nat.le_of_ble_eq_true rfl|simp [encAI_len,encAB_len,encA_len]) ((fkI .i8).one _) rfl ?_
 intro w hs
 refine g_n rfl ?_
 refine Qaa (v:=pointer (some ⟨b9,1,none⟩)) rfl rfl rfl (g_d rfl ?_)
 refine Qbs hs rfl rfl (vs:=((encI .i8) (i8w r12.1))) (cs':=(([int .i8 (i8w r11.1),int .i8 (i8w r12.1),slice none 0 0]:List Value))) rfl rfl rfl (n:=1) (fun _=>rfl) ((fkI .i8).len _) (by first|exact Nat.le_of_ble_eq_true rfl|simp [encAI_len,encAB_len,encA_len]) ((fkI .i8).one _) rfl ?_
 intro w hs
 refine g_n rfl (Qab (Qac (Qac (Qaj [0] rfl ?_))))
 refine Qaa (v:=int .i64 1) rfl rfl rfl (g_d rfl ?_)
 try dsimp only [Qae,Qaf]
 refine Qab ?_
 obtain ⟨o1_,Ho,Hr1_⟩:=bind_get H
 refine QaR (J:=fun t w=>∃ x40:Int,∃ x41:Int,∃ v42:Value,∃ x43:(List Qar),QaH.a0 N a1 x40 x41 x43=some r∧Fr t (fun O=>(string a1::O 1::pointer (some ⟨b2,0,none⟩)::O 3::O 4::O 5::O 6::O 7::pointer (some ⟨b9,0,none⟩)::O 9::oT O 1 (oT O 2 (oT O 3 (oT O 4 (oT O 5 (oT O 6 (oT O 7 (O 80::O 81::O 82::O 83::[]))))))):List Value))∧St w0 [Cells b2 (([int .i8 0,int .i8 0,slice none 0 0]:List Value)) 30,Cells b9 (([int .i8 x40,int .i8 x41,v42]:List Value)) 30,Row 55 Qav v42 x43] w) ?_ ?_
 ·
  rintro t w ⟨x40,x41,v42,x43,H,hf,hs⟩
  obtain ⟨O,rfl⟩:=hf.open
  try dsimp only [oT]
  unfold QaH.a0 at H
  refine Qac (Qac (Qaj [0,1,2,3,4,5,6,7] rfl ?_))
  refine Qaa (v:=string a1) rfl rfl rfl (g_d rfl ?_)
  refine Qas (B:=a1.toList==(⟨#[]⟩:ByteArray).toList) rfl rfl rfl ?_ ?_
  ·
   intro hb
   rw [if_pos (b_beq_t hb)] at H
   refine g_d rfl ?_
   try dsimp only [Qae,Qaf]
   refine Qaa (v:=bool true) rfl rfl rfl (g_d rfl (Qag rfl rfl (g_d rfl (Qag rfl rfl (g_d rfl ?_)))))
   try dsimp only [Qae,Qaf]
   refine Qag rfl rfl (g_d rfl (Qag rfl rfl (g_d rfl ?_)))
   refine Qaa (v:=bool true) rfl rfl rfl (g_d rfl ?_)
   try dsimp only [Qae,Qaf]
   refine Qab (Qak rfl (Qac (Qaj [0,1,2] rfl ?_)))
   refine Qaa (v:=agg (([int .i8 0,int .i8 0,slice none 0 0]:List Value)).toArray) rfl rfl (Qa4 (cs:=(([int .i8 0,int .i8 0,slice none 0 0]:List Value))) (segs:=[[int .i8 0],[int .i8 0],[slice none 0 0]]) rfl rfl (fun _=>rfl) ⟨rfl,(fun _=>rfl),rfl,(fun _=>rfl),rfl,(fun _=>rfl),trivial⟩ (by simp) (by first|rfl|(simp [ev,encA];done)|(simp [ev,encA];rfl))) ?_
   refine g_d rfl ?_
   refine QaT (n:=3) hs rfl rfl rfl (vs:=(([int .i8 0,int .i8 0,slice none 0 0]:List Value))) rfl rfl rfl (fun _=>rfl) rfl (by simp [Value.oneCell']) ?_
   intro w hs
   refine g_n rfl ?_
   refine Qaa (v:=int .i64 5) rfl rfl rfl (g_d rfl ?_)
   try dsimp only [Qae,Qaf]
   refine Qab ?_
   obtain rfl:=QsJ H
   refine Qau Tryd.func11 (v:=tuple #[agg (([int .i8 0,int .i8 0,slice none 0 0]:List Value)).toArray,int .i64 5]) (resN (l:=Tryd.f11.results.toList) (vs:=[agg (([int .i8 0,int .i8 0,slice none 0 0]:List Value)).toArray,int .i64 5]) rfl ⟨⟨_,rfl,(run_loadVar_agg (es:=(([int .i8 0,int .i8 0,slice none 0 0]:List Value))) rfl rfl (cells_all (hs.cells 0 rfl)))⟩,rfl,trivial⟩ (by simp)) ?_
   have hs:=hs.nil 55 Qav
   have hs:=hs.pull 0 rfl
   have hs:St _ [_] _:=St.take (Γ':=[_,_,_]) hs
   exact ⟨_,rfl,(slice none 0 0),rfl,hs⟩
  intro hb
  rw [if_neg (b_beq_f hb)] at H
  refine g_d rfl ?_
  refine Qaa (v:=bool false) rfl rfl rfl (g_d rfl ?_)
  refine Qbe rfl rfl (es:=(([int .i8 x40,int .i8 x41,v42]:List Value))) rfl rfl (fun _=>rfl) (n:=3) (fun _=>rfl) rfl (cells_all (hs.cells 1 rfl)) (g_d rfl ?_)
  try dsimp only [Qae,Qaf]
  obtain ⟨r45,Hr45,H⟩:=bind_get H
  refine QaA (args:=[agg (([int .i8 x40,int .i8 x41,v42]:List Value)).toArray]) rfl rfl (Qax rfl (callFunc_enter Tryd.func8 rfl rfl) rfl) (QaG.calls (a1:=(⟨x40,x41,x43⟩:Qao)) (hs.tab htab) (hs.cellU hdbr) (hs.row 2 rfl) Hr45) ?_
  rintro _ w ⟨rfl,hs2⟩
  have hs:St _ [_,_,_] _:=hs.call hs2
  refine g_d rfl ?_
  refine Qaa (v:=string a1) rfl rfl rfl (g_d rfl ?_)
  refine Qas (B:=!(r45.toList==a1.toList)) rfl rfl rfl ?_ ?_
  ·
   intro hb
   rw [if_neg (b_nbeq_t hb)] at H
   refine g_d rfl ?_
   try dsimp only [Qae,Qaf]
   refine Qaa (v:=bool true) rfl rfl rfl (g_d rfl (Qab (Qak rfl (Qac (Qaj [0,1,2] rfl ?_)))))
   refine Qaa (v:=agg (([int .i8 0,int .i8 0,slice none 0 0]:List Value)).toArray) rfl rfl (Qa4 (cs:=(([int .i8 0,int .i8 0,slice none 0 0]:List Value))) (segs:=[[int .i8 0],[int .i8 0],[slice none 0 0]]) rfl rfl (fun _=>rfl) ⟨rfl,(fun _=>rfl),rfl,(fun _=>rfl),rfl,(fun _=>rfl),trivial⟩ (by simp) (by first|rfl|(simp [ev,encA];done)|(simp [ev,encA];rfl))) ?_
   refine g_d rfl ?_
   try dsimp only [Qae,Qaf]
   refine QaT (n:=3) hs rfl rfl rfl (vs:=(([int .i8 0,int .i8 0,slice none 0 0]:List Value))) rfl rfl rfl (fun _=>rfl) rfl (by simp [Value.oneCell']) ?_
   intro w hs
   refine g_n rfl ?_
   refine Qaa (v:=int .i64 5) rfl rfl rfl (g_d rfl (Qab ?_))
   obtain rfl:=QsJ H
   refine Qau Tryd.func11 (v:=tuple #[agg (([int .i8 0,int .i8 0,slice none 0 0]:List Value)).toArray,int .i64 5]) (resN (l:=Tryd.f11.results.toList) (vs:=[agg (([int .i8 0,int .i8 0,slice none 0 0]:List Value)).toArray,int .i64 5]) rfl ⟨⟨_,rfl,(run_loadVar_agg (es:=(([int .i8 0,int .i8 0,slice none 0 0]:List Value))) rfl rfl (cells_all (hs.cells 0 rfl)))⟩,rfl,trivial⟩ (by simp)) ?_
   have hs:=hs.nil 55 Qav
   have hs:=hs.pull 0 rfl
   have hs:St _ [_] _:=St.take (Γ':=[_,_,_]) hs
   exact ⟨_,rfl,(slice none 0 0),rfl,hs⟩
  intro hb
  rw [if_pos (b_nbeq_f hb)] at H
  refine g_d rfl ?_
  try dsimp only [Qae,Qaf]
  refine Qaa (v:=bool false) rfl rfl rfl (g_d rfl (Qab (Qad rfl (Qaw (Qac (Qaj [0,1,2] rfl ?_))))))
  refine Qbe rfl rfl (es:=(([int .i8 x40,int .i8 x41,v42]:List Value))) rfl rfl (fun _=>rfl) (n:=3) (fun _=>rfl) rfl (cells_all (hs.cells 1 rfl)) (g_d rfl ?_)
  try dsimp only [Qae,Qaf]
  refine QaT (n:=3) hs rfl rfl rfl (vs:=(([int .i8 x40,int .i8 x41,v42]:List Value))) rfl rfl rfl (fun _=>rfl) rfl (by intro v hv;simp only [List.mem_append,List.mem_cons,List.not_mem_nil,or_false] at hv;repeat (first|(subst hv;first|rfl|exact slOne (hs.row 2 rfl))|(rcases hv with hv|hv))) ?_
  intro w hs
  refine g_n rfl ?_
  refine Qaa (v:=int .i64 0) rfl rfl rfl (g_d rfl (Qab ?_))
  obtain rfl:=QsJ H
  refine Qau Tryd.func11 (v:=tuple #[agg (([int .i8 x40,int .i8 x41,v42]:List Value)).toArray,int .i64 0]) (resN (l:=Tryd.f11.results.toList) (vs:=[agg (([int .i8 x40,int .i8 x41,v42]:List Value)).toArray,int .i64 0]) rfl ⟨⟨_,rfl,(run_loadVar_agg (es:=(([int .i8 x40,int .i8 x41,v42]:List Value))) rfl rfl (cells_all (hs.cells 0 rfl)))⟩,rfl,trivial⟩ (by simp)) ?_
  have hs:=hs.pull 2 rfl
  have hs:St _ [_] _:=St.take (Γ':=[_,_]) hs
  exact ⟨_,rfl,v42,rfl,hs⟩
 intro ha1_
 have hs:=hs.nil 55 Qav
 have hs:=hs.pull 1 rfl
 have hs:=hs.pull 1 rfl
 have hs:=hs.pull 2 rfl
 have hs:=hs.pull 3 rfl
 have hs:St _ [_,_,_,_] _:=St.take (Γ':=[]) hs
 refine QaY (I:=fun n_ t w=>∃ x25:Int,∃ x26:Int,∃ v28:Value,∃ x29:(List Qar),∃ x30:Int,rounds (fun s=>QaH.b0 N r4 s.1 s.2.1 s.2.2.1 s.2.2.2) n_ (x25,x26,x29,x30)=some o1_∧Fr t (fun O=>(string a1::O 1::pointer (some ⟨b2,0,none⟩)::O 3::v5::O 5::O 6::O 7::pointer (some ⟨b9,0,none⟩)::O 9::O 10::O 11::O 12::int .i64 x30::O 14::O 15::O 16::O 17::O 18::O 19::oT O 2 (oT O 3 (oT O 4 (oT O 5 (oT O 6 (oT O 7 (O 80::O 81::O 82::O 83::[])))))):List Value))∧St w0 [Cells b2 (([int .i8 0,int .i8 0,slice none 0 0]:List Value)) 30,Row 9 K.str v5 r4,Row 55 Qav v28 x29,Cells b9 (([int .i8 x25,int .i8 x26,v28]:List Value)) 30] w) N ⟨i8w r11.1,i8w r12.1,slice none 0 0,[],1,Ho,rfl,hs⟩ ?_ ?_
 ·
  rintro _ _ ⟨x25,x26,v28,x29,x30,h,_⟩
  exact rounds_zero h
 intro n_ ih1_
 rintro t w ⟨x25,x26,v28,x29,x30,Ho,hf,hs⟩
 obtain ⟨O,rfl⟩:=hf.open
 try dsimp only [oT]
 obtain ⟨x4_,H,Hx1_⟩:=rounds_succ Ho
 have H:QaH.b0 N r4 x25 x26 x29 x30=some x4_:=H
 unfold QaH.b0 at H
 refine Qac (Qac (Qaj [0,1,2,3,4,5,6,7,8] rfl ?_))
 refine Qaa (v:=int .i64 x30) rfl rfl rfl (g_d rfl ?_)
 refine Qaa (v:=v5) rfl rfl rfl (g_d rfl ?_)
 refine Qbn (hs.row 1 rfl) rfl rfl rfl rfl rfl (g_d rfl ?_)
 refine Qaa (v:=int .i64 (i64w ((r4.length:Int) - 1))) rfl rfl rfl (g_d rfl ?_)
 try dsimp only [Qae,Qaf]
 refine Qas (B:=decide (x30< (i64w ((r4.length:Int) - 1)))) rfl rfl rfl ?_ ?_
 ·
  intro hb
  rw [if_pos (b_dec_t hb)] at H
  refine g_d rfl ?_
  try dsimp only [Qae,Qaf]
  refine Qaa (v:=bool true) rfl rfl rfl (g_d rfl ?_)
  refine Qaa (v:=int .i64 x30) rfl rfl rfl (g_d rfl ?_)
  refine Qas (B:=decide (x30≤61)) rfl rfl rfl ?_ ?_
  ·
   intro hb
   rw [if_pos (b_dec_t hb)] at H
   refine g_d rfl ?_
   refine Qaa (v:=bool true) rfl rfl rfl (g_d rfl ?_)
   try dsimp only [Qae,Qaf]
   refine Qab (Qak rfl (Qaw (Qac ?_)))
   refine Qbd (Qac (Qaj [0,1,2,3,4,5,6,7,8,9,10,11] rfl ?_))
   refine Qaa (v:=v5) rfl rfl rfl (g_d rfl ?_)
   refine Qaa (v:=int .i64 x30) rfl rfl rfl (g_d rfl ?_)
   obtain ⟨g3,H⟩:=ite_get H
   refine Qbl fkS (⟨#[]⟩:ByteArray) (hs.row 1 rfl) rfl (fun _=>rfl) g3.1 g3.2 rfl rfl rfl rfl rfl ?_
   intro p31 hp31 lp31 op31
   refine g_d rfl ?_
   refine QaI rfl rfl (v:=string (rdL r4 x30 (⟨#[]⟩:ByteArray))) rfl rfl (fun _=>rfl) hp31 (g_d rfl ?_)
   try dsimp only [Qae,Qaf]
   obtain ⟨r32,Hr32,H⟩:=bind_get H
   refine QaA (args:=[string (rdL r4 x30 (⟨#[]⟩:ByteArray)),string (⟨#[32]⟩:ByteArray)]) rfl rfl (Qax rfl (callFunc_enter Tryd.func30 rfl rfl) rfl) (strings_Cut.calls (a1:=rdL r4 x30 (⟨#[]⟩:ByteArray)) (a2:=(⟨#[32]⟩:ByteArray)) (hs.cellI hmax) Hr32) ?_
   rintro _ w ⟨rfl,hs2⟩
   have hs:St _ [_,_,_,_] _:=hs.call hs2
   refine g_d rfl ?_
   refine Qaa (v:=tuple #[string r32.1,string r32.2.1,bool r32.2.2]) rfl rfl rfl (g_d rfl ?_)
   refine Qaa (v:=string r32.1) rfl rfl rfl (g_d rfl ?_)
   refine Qaa (v:=string r32.2.1) rfl rfl rfl (g_d rfl ?_)
   refine Qaa (v:=bool r32.2.2) rfl rfl rfl (g_d rfl ?_)
   refine Qaa (v:=string r32.1) rfl rfl rfl (g_d rfl ?_)
   try dsimp only [Qae,Qaf]
   refine Qaa (v:=string r32.2.1) rfl rfl rfl (g_d rfl ?_)
   refine Qaa (v:=bool r32.2.2) rfl rfl rfl (g_d rfl ?_)
   try dsimp only [Qae,Qaf]
   refine Qab ?_
   obtain ⟨r33,Hr33,H⟩:=bind_get H
   obtain ⟨gq8_,H⟩:=ite_get H
   refine Qbt ?_
   intro T hT
   refine QbN (n:=11) rfl [0,1,2,3,4,5,6,7,8,9,10] [0,1,2,3,4,5,6,7,8,9,10] rfl rfl (Inv:=fun D t w=>∃ v34:Value,∃ v36:Value,∃ O:Nat→Value,t=(string a1::O 1::pointer (some ⟨b2,0,none⟩)::O 3::v5::O 5::O 6::O 7::pointer (some ⟨b9,0,none⟩)::O 9::O 10::O 11::O 12::int .i64 x30::string r32.1::string r32.2.1::bool r32.2.2::O 17::O 18::O 19::oT O 2 (oT O 3 (O 40::O 41::O 42::O 43::int .i64 x30::v5::int .i64 (r4.length:Int)::int .i64 (i64w ((r4.length:Int) - 1))::bool true::bool true::int .i64 x30::bool true::bool true::O 53::O 54::tuple #[string r32.1,string r32.2.1,bool r32.2.2]::v5::int .i64 x30::pointer (some p31)::string (rdL r4 x30 (⟨#[]⟩:ByteArray))::tuple #[string r32.1,string r32.2.1,bool r32.2.2]::string r32.1::string r32.2.1::bool r32.2.2::cnd (D 0) (pointer (some ⟨b9,2,none⟩)) (O 64)::cnd (D 1) v28 (O 65)::cnd (D 2) (string r32.1) (O 66)::cnd (D 3) (int .u64 r33) (O 67)::cnd (D 4) (string r32.2.1) (O 68)::cnd (D 5) (bool (r32.2.1.toList==(⟨#[121,101,115]⟩:ByteArray).toList)) (O 69)::cnd (D 6) (agg (Qay (⟨r33,r32.2.1.toList==(⟨#[121,101,115]⟩:ByteArray).toList⟩:Qar)).toArray) (O 70)::cnd (D 7) v34 (O 71)::cnd (D 8) v36 (O 72)::cnd (D 9) (pointer (some ⟨b9,2,none⟩)) (O 73)::O 74::O 75::O 76::O 77::O 78::O 79::O 80::O 81::O 82::O 83::[])))∧St w0 [Asc (D 7) (Row 55 Qav v34 ([(⟨r33,r32.2.1.toList==(⟨#[121,101,115]⟩:ByteArray).toList⟩:Qar)])),Cells b2 (([int .i8 0,int .i8 0,slice none 0 0]:List Value)) 30,Row 9 K.str v5 r4,Row 55 Qav (cnd (D 8) v36 v28) (cnd (D 8) (x29++([(⟨r33,r32.2.1.toList==(⟨#[121,101,115]⟩:ByteArray).toList⟩:Qar)])) x29),Cells b9 (cnd (D 10) (([int .i8 x25,int .i8 x26,v36]:List Value)) (([int .i8 x25,int .i8 x26,v28]:List Value))) 30] w) ?_ ⟨⟨⟨⟨⟨⟨⟨⟨⟨⟨⟨trivial,?_⟩,?_⟩,?_⟩,?_⟩,?_⟩,?_⟩,?_⟩,?_⟩,?_⟩,?_⟩,?_⟩ ?_
   ·
    intro w hh hbw
    have hs:=hs.samew hh hbw
    have hs:=hs.emp
    exact ⟨undef,undef,fun i=>T.getD i undef,(by subst hT;rfl),hs⟩
   ·
    rintro D t w hD hp hcl ⟨v34,v36,O,ht,hs⟩ rest hk
    have q1_:=nz hcl 1 0 hD
    have q8_:=nz hcl 8 0 q1_
    have q9_:=nz hcl 9 0 hD
    have q10_:=nz hcl 10 0 q9_
    simp only [hD,q1_,q8_,q9_,q10_,cq,oT] at ht hs
    subst ht
    refine Qaa (v:=pointer (some ⟨b9,2,none⟩)) rfl rfl rfl (g_d rfl ?_)
    try dsimp only [Qae,Qaf]
    refine hk _ _ ⟨v34,v36,O,?_,hs.cast ?_⟩<;>simp only [oT,lq,cq,Nat.reduceBEq,q1_,q8_,q9_,q10_]
   ·
    rintro D t w hD hp hcl ⟨v34,v36,O,ht,hs⟩ rest hk
    obtain ⟨p0_,_⟩:=hp
    have q8_:=nz hcl 8 0 hD
    have q9_:=nz hcl 9 1 hD
    have q10_:=nz hcl 10 0 q9_
    simp only [hD,p0_,q8_,q9_,q10_,cq,oT] at ht hs
    subst ht
    refine QaI rfl rfl (v:=v28) rfl rfl (fun _=>rfl) (cells_load (hs.cells 4 rfl) 2 1 rfl) (g_d rfl ?_)
    try dsimp only [Qae,Qaf]
    refine hk _ _ ⟨v34,v36,O,?_,hs.cast ?_⟩<;>simp only [oT,lq,cq,Nat.reduceBEq,p0_,q8_,q9_,q10_]
   ·
    rintro D t w hD hp hcl ⟨v34,v36,O,ht,hs⟩ rest hk
    have q3_:=nz hcl 3 0 hD
    have q6_:=nz hcl 6 0 q3_
    have q7_:=nz hcl 7 0 q6_
    have q8_:=nz hcl 8 1 q7_
    have q9_:=nz hcl 9 2 hD
    have q10_:=nz hcl 10 0 q9_
    simp only [hD,q3_,q6_,q7_,q8_,q9_,q10_,cq,oT] at ht hs
    subst ht
    refine Qaa (v:=string r32.1) rfl rfl rfl (g_d rfl ?_)
    try dsimp only [Qae,Qaf]
    refine hk _ _ ⟨v34,v36,O,?_,hs.cast ?_⟩<;>simp only [oT,lq,cq,Nat.reduceBEq,q3_,q6_,q7_,q8_,q9_,q10_]
   ·
    rintro D t w hD hp hcl ⟨v34,v36,O,ht,hs⟩ rest hk
    obtain ⟨p2_,_⟩:=hp
    have q6_:=nz hcl 6 0 hD
    have q7_:=nz hcl 7 0 q6_
    have q8_:=nz hcl 8 1 q7_
    have q9_:=nz hcl 9 3 hD
    have q10_:=nz hcl 10 0 q9_
    simp only [hD,p2_,q6_,q7_,q8_,q9_,q10_,cq,oT] at ht hs
    subst ht
    refine QaA (args:=[string r32.1]) rfl rfl (Qax rfl (callFunc_enter Tryd.func32 rfl rfl) rfl) (QaP.calls (a1:=r32.1) Hr33) ?_
    rintro _ w ⟨rfl,hs2⟩
    have hs:St _ [_,_,_,_,_] _:=hs.call hs2
    refine g_d rfl ?_
    try dsimp only [Qae,Qaf]
    refine hk _ _ ⟨v34,v36,O,?_,hs.cast ?_⟩<;>simp only [oT,lq,cq,Nat.reduceBEq,p2_,q6_,q7_,q8_,q9_,q10_]
   ·
    rintro D t w hD hp hcl ⟨v34,v36,O,ht,hs⟩ rest hk
    have q5_:=nz hcl 5 0 hD
    have q6_:=nz hcl 6 1 q5_
    have q7_:=nz hcl 7 0 q6_
    have q8_:=nz hcl 8 1 q7_
    have q9_:=nz hcl 9 4 hD
    have q10_:=nz hcl 10 0 q9_
    simp only [hD,q5_,q6_,q7_,q8_,q9_,q10_,cq,oT] at ht hs
    subst ht
    refine Qaa (v:=string r32.2.1) rfl rfl rfl (g_d rfl ?_)
    try dsimp only [Qae,Qaf]
    refine hk _ _ ⟨v34,v36,O,?_,hs.cast ?_⟩<;>simp only [oT,lq,cq,Nat.reduceBEq,q5_,q6_,q7_,q8_,q9_,q10_]
   ·
    rintro D t w hD hp hcl ⟨v34,v36,O,ht,hs⟩ rest hk
    obtain ⟨p4_,_⟩:=hp
    have q6_:=nz hcl 6 1 hD
    have q7_:=nz hcl 7 0 q6_
    have q8_:=nz hcl 8 1 q7_
    have q9_:=nz hcl 9 5 hD
    have q10_:=nz hcl 10 0 q9_
    simp only [hD,p4_,q6_,q7_,q8_,q9_,q10_,cq,oT] at ht hs
    subst ht
    refine Qaa (v:=bool (r32.2.1.toList==(⟨#[121,101,115]⟩:ByteArray).toList)) rfl rfl rfl (g_d rfl ?_)
    try dsimp only [Qae,Qaf]
    refine hk _ _ ⟨v34,v36,O,?_,hs.cast ?_⟩<;>simp only [oT,lq,cq,Nat.reduceBEq,p4_,q6_,q7_,q8_,q9_,q10_]
   ·
    rintro D t w hD hp hcl ⟨v34,v36,O,ht,hs⟩ rest hk
    obtain ⟨p3_,p5_,_⟩:=hp
    obtain ⟨p4_,_⟩:=(hcl.get 5 (by decide)) p5_
    obtain ⟨p2_,_⟩:=(hcl.get 3 (by decide)) p3_
    have q7_:=nz hcl 7 0 hD
    have q8_:=nz hcl 8 1 q7_
    have q9_:=nz hcl 9 6 hD
    have q10_:=nz hcl 10 0 q9_
    simp only [hD,p2_,p3_,p4_,p5_,q7_,q8_,q9_,q10_,cq,oT] at ht hs
    subst ht
    refine Qaa (v:=agg (Qay (⟨r33,r32.2.1.toList==(⟨#[121,101,115]⟩:ByteArray).toList⟩:Qar)).toArray) rfl rfl (Qa4 (cs:=(Qay (⟨r33,r32.2.1.toList==(⟨#[121,101,115]⟩:ByteArray).toList⟩:Qar))) (segs:=[[int .u64 0],[bool false]]) rfl rfl (fun _=>rfl) ⟨rfl,(fun _=>rfl),rfl,(fun _=>rfl),trivial⟩ (by simp only [List.map_cons,List.map_nil,List.forall_mem_cons,List.not_mem_nil,false_implies,implies_true,and_true];exact ⟨⟨_,rfl,rfl⟩,⟨_,rfl,rfl⟩⟩) (by first|rfl|(simp [ev,Qay];done)|(simp [ev,Qay];rfl))) ?_
    refine g_d rfl ?_
    try dsimp only [Qae,Qaf]
    refine hk _ _ ⟨v34,v36,O,?_,hs.cast ?_⟩<;>simp only [oT,lq,cq,Nat.reduceBEq,p2_,p3_,p4_,p5_,q7_,q8_,q9_,q10_]
   ·
    rintro D t w hD hp hcl ⟨v34,v36,O,ht,hs⟩ rest hk
    obtain ⟨p6_,_⟩:=hp
    obtain ⟨p3_,p5_,_⟩:=(hcl.get 6 (by decide)) p6_
    obtain ⟨p4_,_⟩:=(hcl.get 5 (by decide)) p5_
    obtain ⟨p2_,_⟩:=(hcl.get 3 (by decide)) p3_
    have q8_:=nz hcl 8 1 hD
    have q9_:=nz hcl 9 7 hD
    have q10_:=nz hcl 10 0 q9_
    simp only [hD,p2_,p3_,p4_,p5_,p6_,q8_,q9_,q10_,cq,oT] at ht hs
    subst ht
    refine QbD QaL (y:=(⟨r33,r32.2.1.toList==(⟨#[121,101,115]⟩:ByteArray).toList⟩:Qar)) hs rfl rfl rfl rfl (fun _=>rfl) (zv:=(agg #[int .u64 0,bool false])) (fun _=>rfl) rfl (by decide) (by decide) rfl ?_
    intro v34 w hs
    refine g_d rfl ?_
    try dsimp only [Qae,Qaf]
    have hs:=hs.fill 0 rfl
    refine hk _ _ ⟨v34,v36,O,?_,hs.cast ?_⟩<;>simp only [oT,lq,cq,Nat.reduceBEq,p2_,p3_,p4_,p5_,p6_,q8_,q9_,q10_]
   ·
    rintro D t w hD hp hcl ⟨v34,v36,O,ht,hs⟩ rest hk
    obtain ⟨p1_,p7_,p3_,_⟩:=hp
    obtain ⟨p6_,_⟩:=(hcl.get 7 (by decide)) p7_
    obtain ⟨_,p5_,_⟩:=(hcl.get 6 (by decide)) p6_
    obtain ⟨p4_,_⟩:=(hcl.get 5 (by decide)) p5_
    obtain ⟨p2_,_⟩:=(hcl.get 3 (by decide)) p3_
    obtain ⟨p0_,_⟩:=(hcl.get 1 (by decide)) p1_
    have q9_:=nz hcl 9 8 hD
    have q10_:=nz hcl 10 0 q9_
    simp only [hD,p0_,p1_,p2_,p3_,p4_,p5_,p6_,p7_,q9_,q10_,cq,oT] at ht hs
    subst ht
    have hs:St _ [_,_,_,_,_] _:=hs.pull 3 rfl
    refine Qbu QaL (zv:=(agg #[int .u64 0,bool false])) (B:=16) hs (hs.row 1 rfl) rfl rfl rfl rfl rfl rfl rfl rfl rfl (by decide) rfl rfl (by decide) (by have:=gq8_;omega) ?_
    intro v36 w hs
    refine g_d rfl ?_
    try dsimp only [Qae,Qaf]
    have hs:=hs.push 3 (by simp)
    refine hk _ _ ⟨v34,v36,O,?_,hs.cast ?_⟩<;>simp only [oT,lq,cq,Nat.reduceBEq,p0_,p1_,p2_,p3_,p4_,p5_,p6_,p7_,q9_,q10_]
   ·
    rintro D t w hD hp hcl ⟨v34,v36,O,ht,hs⟩ rest hk
    obtain ⟨p0_,p1_,p2_,p3_,p4_,p5_,p6_,p7_,p8_,_⟩:=hp
    have q10_:=nz hcl 10 0 hD
    simp only [hD,p0_,p1_,p2_,p3_,p4_,p5_,p6_,p7_,p8_,q10_,cq,oT] at ht hs
    subst ht
    refine Qaa (v:=pointer (some ⟨b9,2,none⟩)) rfl rfl rfl (g_d rfl ?_)
    try dsimp only [Qae,Qaf]
    refine hk _ _ ⟨v34,v36,O,?_,hs.cast ?_⟩<;>simp only [oT,lq,cq,Nat.reduceBEq,p0_,p1_,p2_,p3_,p4_,p5_,p6_,p7_,p8_,q10_]
   ·
    rintro D t w hD hp hcl ⟨v34,v36,O,ht,hs⟩ rest hk
    obtain ⟨p9_,p8_,_,p0_,p1_,p2_,p3_,p4_,p5_,p6_,p7_,_,_⟩:=hp
    simp only [hD,p0_,p1_,p2_,p3_,p4_,p5_,p6_,p7_,p8_,p9_,cq,oT] at ht hs
    subst ht
    have hs:St _ [_,_,_,_,_] _:=hs.pull 4 rfl
    refine Qbs hs rfl rfl (vs:=[v36]) (cs':=(([int .i8 x25,int .i8 x26,v36]:List Value))) rfl rfl (slCells (hs.row 4 rfl)) (n:=1) (fun _=>rfl) rfl (by first|exact Nat.le_of_ble_eq_true rfl|simp [encAI_len,encAB_len,encA_len]) (by intro v hv;simp only [List.mem_cons,List.not_mem_nil,or_false] at hv;subst hv;exact slOne (hs.row 4 rfl)) rfl ?_
    intro w hs
    refine g_n rfl ?_
    try dsimp only [Qae,Qaf]
    have hs:=hs.push 4 (by simp)
    refine hk _ _ ⟨v34,v36,O,?_,hs.cast ?_⟩<;>simp only [oT,lq,cq,Nat.reduceBEq,p0_,p1_,p2_,p3_,p4_,p5_,p6_,p7_,p8_,p9_]
   intro D t w hall hI
   obtain ⟨v34,v36,O,ht,hs⟩:=hI
   have p0_:=hall 0 (by decide)
   have p1_:=hall 1 (by decide)
   have p2_:=hall 2 (by decide)
   have p3_:=hall 3 (by decide)
   have p4_:=hall 4 (by decide)
   have p5_:=hall 5 (by decide)
   have p6_:=hall 6 (by decide)
   have p7_:=hall 7 (by decide)
   have p8_:=hall 8 (by decide)
   have p9_:=hall 9 (by decide)
   have p10_:=hall 10 (by decide)
   simp only [p0_,p1_,p2_,p3_,p4_,p5_,p6_,p7_,p8_,p9_,p10_,cq,oT] at ht hs
   subst ht
   refine QaD (Qaj [0,1,2] rfl ?_)
   refine Qaa (v:=int .i64 x30) rfl rfl rfl (g_d rfl ?_)
   refine Qaa (v:=int .i64 (i64w (x30+1))) rfl rfl rfl (g_d rfl ?_)
   refine Qaa (v:=int .i64 (i64w (x30+1))) rfl rfl rfl (g_d rfl ?_)
   try dsimp only [Qae,Qaf]
   refine Qab ?_
   obtain rfl:=QsJ H
   have hs:=hs.pull 4 rfl
   have hs:=hs.pull 4 rfl
   have hs:=hs.pull 4 rfl
   have hs:=hs.pull 4 rfl
   have hs:St _ [_,_,_,_] _:=St.take (Γ':=[_]) hs
   exact ih1_ _ _ ⟨x25,x26,v36,x29++([(⟨r33,r32.2.1.toList==(⟨#[121,101,115]⟩:ByteArray).toList⟩:Qar)]),i64w (x30+1),Hx1_,rfl,hs⟩
  intro hb
  rw [if_neg (b_dec_f hb)] at H
  refine g_d rfl ?_
  refine Qaa (v:=bool false) rfl rfl rfl (g_d rfl ?_)
  try dsimp only [Qae,Qaf]
  refine Qab (Qad rfl ?_)
  obtain rfl:=QsJ H
  subst Hx1_
  have hs:=hs.pull 2 rfl
  have hs:=hs.pull 3 rfl
  have hs:=hs.pull 2 rfl
  have hs:St _ [_,_,_] _:=St.take (Γ':=[_]) hs
  refine Qbi rfl ?_
  exact ha1_ _ _ ⟨x25,x26,v28,x29,Hr1_,rfl,hs⟩
 intro hb
 rw [if_neg (b_dec_f hb)] at H
 refine g_d rfl ?_
 refine Qaa (v:=bool false) rfl rfl rfl (g_d rfl (Qag rfl rfl (g_d rfl (Qag rfl rfl (g_d rfl ?_)))))
 try dsimp only [Qae,Qaf]
 refine Qaa (v:=bool false) rfl rfl rfl (g_d rfl (Qab (Qad rfl ?_)))
 obtain rfl:=QsJ H
 subst Hx1_
 have hs:=hs.pull 2 rfl
 have hs:=hs.pull 3 rfl
 have hs:=hs.pull 2 rfl
 have hs:St _ [_,_,_] _:=St.take (Γ':=[_]) hs
 refine Qbi rfl ?_
 exact ha1_ _ _ ⟨x25,x26,v28,x29,Hr1_,rfl,hs⟩
def Qbj.post (w0:World) (r:Bool) (v:Value) (w:World):Prop:=v=bool r∧St w0 [] w
theorem Qbj.calls {N:Nat} {a1:Qar} {a2:Qar} {w0:World} {r:Bool} (H:Qbj.f N a1 a2=some r):
 Calls Tryd.prog 50 #[agg (Qay a1).toArray,agg (Qay a2).toArray] w0 fun e w=>∃ v,e= .returned v∧Qbj.post w0 r v w:=by
 unfold Qbj.f at H
 have hs:St w0 [] w0:=St.refl w0
 refine calls_of_g (n:=13) Tryd.func50 rfl rfl ?_
 show G _ _ _ _ [_,_,_,_,_,_,_,_,_,_,_,_,_,_,_] _
 refine Qac (Qaj [0,1,2] rfl ?_)
 refine Qbp hs rfl rfl (cs:=(Qay a1)) rfl rfl ?_
 intro b3 w hs
 refine Qbp hs rfl rfl (cs:=(Qay a2)) rfl rfl ?_
 intro b5 w hs
 refine Qaa (v:=bool false) rfl rfl rfl ?_
 show G _ _ _ _ [_,_,_,_,_,_,_,_,_,_,_,_,_,_,_] _
 refine Qab (Qac (Qac (Qaj [0,1,2,3,4] rfl ?_)))
 refine Qaa (v:=pointer (some ⟨b3,0,none⟩)) rfl rfl rfl ?_
 refine QaI rfl rfl (v:=int .u64 a1.QaO) rfl rfl (fun _=>rfl) (cells_load (hs.cells 1 rfl) 0 1 rfl) ?_
 refine Qaa (v:=pointer (some ⟨b5,0,none⟩)) rfl rfl rfl ?_
 show G _ _ _ _ [_,_,_,_,_,_,_,_,_,_,_,_,_,_,_] _
 refine QaI rfl rfl (v:=int .u64 a2.QaO) rfl rfl (fun _=>rfl) (cells_load (hs.cells 0 rfl) 0 1 rfl) ?_
 refine Qas (B:=a1.QaO !=a2.QaO) rfl rfl rfl ?_ ?_
 ·
  intro hb
  rw [if_neg (b_bne_t hb)] at H
  refine Qab (Qak rfl (Qac (Qaj [0] rfl ?_)))
  refine Qaa (v:=bool false) rfl rfl rfl ?_
  show G _ _ _ _ [_,_,_,_,_,_,_,_,_,_,_,_,_,_,_] _
  refine Qab ?_
  obtain rfl:=QsJ H
  refine Qau Tryd.func50 (v:=bool false) (res1 rfl rfl) ?_
  have hs:St _ [] _:=St.take (Γ':=[_,_]) hs
  exact ⟨_,rfl,rfl,hs⟩
 intro hb
 rw [if_pos (b_bne_f hb)] at H
 refine Qab (Qad rfl (Qaw (Qac (Qac (Qaj [0,1,2,3,4] rfl ?_)))))
 refine Qaa (v:=pointer (some ⟨b3,1,none⟩)) rfl rfl rfl ?_
 show G _ _ _ _ [_,_,_,_,_,_,_,_,_,_,_,_,_,_,_] _
 refine QaI rfl rfl (v:=bool a1.Qa1) rfl rfl (fun _=>rfl) (cells_load (hs.cells 1 rfl) 1 1 rfl) ?_
 refine Qaa (v:=pointer (some ⟨b5,1,none⟩)) rfl rfl rfl ?_
 refine QaI rfl rfl (v:=bool a2.Qa1) rfl rfl (fun _=>rfl) (cells_load (hs.cells 0 rfl) 1 1 rfl) ?_
 show G _ _ _ _ [_,_,_,_,_,_,_,_,_,_,_,_,_,_,_] _
 refine Qas (B:=a1.Qa1 !=a2.Qa1) rfl rfl rfl ?_ ?_
 ·
  intro hb
  rw [if_neg (b_bne_t hb)] at H
  refine Qab (Qak rfl (Qac (Qaj [0] rfl ?_)))
  refine Qaa (v:=bool false) rfl rfl rfl (Qab ?_)
  obtain rfl:=QsJ H
  refine Qau Tryd.func50 (v:=bool false) (res1 rfl rfl) ?_
  have hs:St _ [] _:=St.take (Γ':=[_,_]) hs
  exact ⟨_,rfl,rfl,hs⟩
 intro hb
 rw [if_pos (b_bne_f hb)] at H
 refine Qab (Qad rfl (Qaw (Qac (Qaj [0] rfl ?_))))
 refine Qaa (v:=bool true) rfl rfl rfl (Qab ?_)
 obtain rfl:=QsJ H
 refine Qau Tryd.func50 (v:=bool true) (res1 rfl rfl) ?_
 have hs:St _ [] _:=St.take (Γ':=[_,_]) hs
 exact ⟨_,rfl,rfl,hs⟩
def QaQ.post (w0:World) (r:Bool) (v:Value) (w:World):Prop:=v=bool r∧St w0 [] w
theorem QaQ.calls {N:Nat} {a1:(List Qar)} {a3:(List Qar)} {v2:Value} {v4:Value} {w0:World} {r:Bool} (hr0:RdRow Qav w0 v2 a1) (hr1:RdRow Qav w0 v4 a3) (H:QaQ.f N a1 a3=some r):
 Calls Tryd.prog 24 #[v2,v4] w0 fun e w=>∃ v,e= .returned v∧QaQ.post w0 r v w:=by
 unfold QaQ.f at H
 have hs:St w0 [] w0:=St.refl w0
 refine calls_of_g (n:=25) Tryd.func24 rfl rfl ?_
 show G _ _ _ _ [_,_,_,_,_,_,_,_,_,_,_,_,_,_,_,_,_,_,_,_,_,_,_,_,_,_,_] _
 refine Qac (Qaj [0] rfl ?_)
 refine Qaa (v:=bool false) rfl rfl rfl (Qab (Qac (Qac (Qaj [0,1,2,3,4] rfl ?_))))
 refine Qaa (v:=v2) rfl rfl rfl ?_
 refine Qbn (hs.rd hr0) rfl rfl rfl rfl rfl ?_
 refine Qaa (v:=v4) rfl rfl rfl ?_
 refine Qbn (hs.rd hr1) rfl rfl rfl rfl rfl ?_
 show G _ _ _ _ [_,_,_,_,_,_,_,_,_,_,_,_,_,_,_,_,_,_,_,_,_,_,_,_,_,_,_] _
 refine Qas (B:=(a1.length:Int) !=(a3.length:Int)) rfl rfl rfl ?_ ?_
 ·
  intro hb
  rw [if_neg (b_bne_t hb)] at H
  show G _ _ _ _ [_,_,_,_,_,_,_,_,_,_,_,_,_,_,_,_,_,_,_,_,_,_,_,_,_,_,_] _
  refine Qab (Qak rfl (Qac (Qaj [0] rfl ?_)))
  refine Qaa (v:=bool false) rfl rfl rfl (Qab ?_)
  obtain rfl:=QsJ H
  refine Qau Tryd.func24 (v:=bool false) (res1 rfl rfl) ?_
  have hs:St _ [] _:=St.take (Γ':=[]) hs
  exact ⟨_,rfl,rfl,hs⟩
 intro hb
 rw [if_pos (b_bne_f hb)] at H
 refine Qab (Qad rfl (Qaw (Qac (Qac (Qaj [0] rfl ?_)))))
 refine Qaa (v:=int .i64 0) rfl rfl rfl (Qab ?_)
 obtain ⟨o1_,Ho,Hr1_⟩:=bind_get H
 refine QaR (J:=fun t w=>QaQ.a0 N=some r∧Fr t (fun O=>([O 0,O 1,O 2,O 3,O 4,O 5,O 6,O 7,O 8,O 9,O 10,O 11,O 12,O 13,O 14,O 15,O 16,O 17,O 18,O 19,O 20,O 21,O 22,O 23,O 24,O 25,O 26]:List Value))∧St w0 [] w) ?_ ?_
 ·
  rintro t w ⟨H,hf,hs⟩
  obtain ⟨O,rfl⟩:=hf.open
  show G _ _ _ _ [_,_,_,_,_,_,_,_,_,_,_,_,_,_,_,_,_,_,_,_,_,_,_,_,_,_,_] _
  unfold QaQ.a0 at H
  refine Qac (Qaj [0] rfl ?_)
  refine Qaa (v:=bool true) rfl rfl rfl (Qab ?_)
  obtain rfl:=QsJ H
  refine Qau Tryd.func24 (v:=bool true) (res1 rfl rfl) ?_
  have hs:St _ [] _:=St.take (Γ':=[]) hs
  exact ⟨_,rfl,rfl,hs⟩
 intro ha1_
 have hs:St _ [] _:=St.take (Γ':=[]) hs
 refine QaY (I:=fun n_ t w=>∃ x5:Int,rounds (fun s=>QaQ.b0 N a1 a3 s) n_ x5=some o1_∧Fr t (fun O=>([v2,v4,O 2,O 3,O 4,int .i64 x5,O 6,O 7,O 8,O 9,O 10,O 11,O 12,O 13,O 14,O 15,O 16,O 17,O 18,O 19,O 20,O 21,O 22,O 23,O 24,O 25,O 26]:List Value))∧St w0 [] w) N ⟨0,Ho,rfl,hs⟩ ?_ ?_
 ·
  rintro _ _ ⟨x5,h,_⟩
  exact rounds_zero h
 intro n_ ih1_
 rintro t w ⟨x5,Ho,hf,hs⟩
 obtain ⟨O,rfl⟩:=hf.open
 show G _ _ _ _ [_,_,_,_,_,_,_,_,_,_,_,_,_,_,_,_,_,_,_,_,_,_,_,_,_,_,_] _
 obtain ⟨x9_,H,Hx1_⟩:=rounds_succ Ho
 have H:QaQ.b0 N a1 a3 x5=some x9_:=H
 unfold QaQ.b0 at H
 refine Qac (Qac (Qaj [0,1,2,3] rfl ?_))
 refine Qaa (v:=int .i64 x5) rfl rfl rfl ?_
 refine Qaa (v:=v2) rfl rfl rfl ?_
 refine Qbn (hs.rd hr0) rfl rfl rfl rfl rfl ?_
 show G _ _ _ _ [_,_,_,_,_,_,_,_,_,_,_,_,_,_,_,_,_,_,_,_,_,_,_,_,_,_,_] _
 refine Qas (B:=decide (x5< (a1.length:Int))) rfl rfl rfl ?_ ?_
 ·
  intro hb
  rw [if_pos (b_dec_t hb)] at H
  refine Qab (Qak rfl (Qaw (Qac ?_)))
  refine Qbd (Qac ?_)
  refine QbI (n:=10) rfl [0,1,2,3,4,5,6,7,8,9] [0,1,2,3,4,5,6,7,8,9] rfl rfl ?_
  intro rest w hh hbw hO
  have hs:=hs.samew hh hbw
  show G _ _ _ _ [_,_,_,_,_,_,_,_,_,_,_,_,_,_,_,_,_,_,_,_,_,_,_,_,_,_,_] _
  obtain ⟨gd2,H⟩:=ite_get H
  obtain ⟨ad3_,ad3_N,ad3_C,had3_⟩:=sl_at (hs.rd hr0) gd2.1 gd2.2
  obtain ⟨gd4,H⟩:=ite_get H
  obtain ⟨ad5_,ad5_N,ad5_C,had5_⟩:=sl_at (hs.rd hr1) gd4.1 gd4.2
  refine Qbt ?_
  intro T hT
  refine Qbz (m0:=0) hO rfl 255 [0,1,2,3,4,5,6,7] [0,0,3,7,0,0,48,112,255,511] (by decide+kernel) (fun D t w=>∃ O:Nat→Value,t=[v2,v4,O 2,O 3,O 4,int .i64 x5,O 6,O 7,O 8,O 9,O 10,int .i64 x5,v2,int .i64 (a1.length:Int),bool true,O 15,O 16,cnd (D 0) v2 (O 17),cnd (D 1) (int .i64 x5) (O 18),cnd (D 2) (pointer (some (ad3_.add (x5.toNat*2)))) (O 19),cnd (D 3) (agg (Qay (rdL a1 x5 Qat)).toArray) (O 20),cnd (D 4) v4 (O 21),cnd (D 5) (int .i64 x5) (O 22),cnd (D 6) (pointer (some (ad5_.add (x5.toNat*2)))) (O 23),cnd (D 7) (agg (Qay (rdL a3 x5 Qat)).toArray) (O 24),O 25,O 26]∧St w0 [] w) ?_ ⟨?_,⟨?_,⟨?_,⟨?_,⟨?_,⟨?_,⟨?_,⟨?_,trivial⟩⟩⟩⟩⟩⟩⟩⟩ ?_
  ·exact ⟨fun i=>T.getD i undef,(by subst hT;rfl),hs⟩
  ·
   rintro D t w hD hp hcl ⟨O,ht,hs⟩ rest hk
   have hp:AllDone D []:=hp
   have q2_:=ny hcl 2 0 hD
   have q3_:=ny hcl 3 0 q2_
   simp only [hD,q2_,q3_,cq,oT] at ht hs
   subst ht
   refine Qaa (v:=v2) rfl rfl rfl ?_
   show G _ _ _ _ [_,_,_,_,_,_,_,_,_,_,_,_,_,_,_,_,_,_,_,_,_,_,_,_,_,_,_] _
   refine hk _ _ ⟨O,?_,hs.cast ?_⟩<;>simp only [oT,lq,cq,Nat.reduceBEq,q2_,q3_]
  ·
   rintro D t w hD hp hcl ⟨O,ht,hs⟩ rest hk
   have hp:AllDone D []:=hp
   have q2_:=ny hcl 2 1 hD
   have q3_:=ny hcl 3 0 q2_
   simp only [hD,q2_,q3_,cq,oT] at ht hs
   subst ht
   refine Qaa (v:=int .i64 x5) rfl rfl rfl ?_
   show G _ _ _ _ [_,_,_,_,_,_,_,_,_,_,_,_,_,_,_,_,_,_,_,_,_,_,_,_,_,_,_] _
   refine hk _ _ ⟨O,?_,hs.cast ?_⟩<;>simp only [oT,lq,cq,Nat.reduceBEq,q2_,q3_]
  ·
   rintro D t w hD hp hcl ⟨O,ht,hs⟩ rest hk
   have hp:AllDone D [0,1]:=hp
   obtain ⟨p0_,p1_,_⟩:=hp
   have q3_:=ny hcl 3 0 hD
   simp only [hD,p0_,p1_,q3_,cq,oT] at ht hs
   subst ht
   refine QbC (κ:=Qav) (m:=2) rfl (hs.rd hr0) rfl (fun _=>rfl) gd2.1 gd2.2 had3_ rfl rfl rfl rfl rfl ?_
   show G _ _ _ _ [_,_,_,_,_,_,_,_,_,_,_,_,_,_,_,_,_,_,_,_,_,_,_,_,_,_,_] _
   refine hk _ _ ⟨O,?_,hs.cast ?_⟩<;>simp only [oT,lq,cq,Nat.reduceBEq,p0_,p1_,q3_]
  ·
   rintro D t w hD hp hcl ⟨O,ht,hs⟩ rest hk
   have hp:AllDone D [2]:=hp
   obtain ⟨p2_,_⟩:=hp
   obtain ⟨p0_,p1_,_⟩:=(show D 2=true→AllDone D [0,1] from hcl 2 (by decide)) p2_
   simp only [hD,p0_,p1_,p2_,cq,oT] at ht hs
   subst ht
   refine Qbe rfl rfl (es:=(Qay (rdL a1 x5 Qat))) rfl rfl (fun _=>rfl) (n:=2) (fun _=>rfl) (QaL.len _) (cellsAt_of QaL Qat (hs.rd hr0) had3_ gd2.1 gd2.2) ?_
   show G _ _ _ _ [_,_,_,_,_,_,_,_,_,_,_,_,_,_,_,_,_,_,_,_,_,_,_,_,_,_,_] _
   refine hk _ _ ⟨O,?_,hs.cast ?_⟩<;>simp only [oT,lq,cq,Nat.reduceBEq,p0_,p1_,p2_]
  ·
   rintro D t w hD hp hcl ⟨O,ht,hs⟩ rest hk
   have hp:AllDone D []:=hp
   have q6_:=ny hcl 6 0 hD
   have q7_:=ny hcl 7 0 q6_
   simp only [hD,q6_,q7_,cq,oT] at ht hs
   subst ht
   refine Qaa (v:=v4) rfl rfl rfl ?_
   show G _ _ _ _ [_,_,_,_,_,_,_,_,_,_,_,_,_,_,_,_,_,_,_,_,_,_,_,_,_,_,_] _
   refine hk _ _ ⟨O,?_,hs.cast ?_⟩<;>simp only [oT,lq,cq,Nat.reduceBEq,q6_,q7_]
  ·
   rintro D t w hD hp hcl ⟨O,ht,hs⟩ rest hk
   have hp:AllDone D []:=hp
   have q6_:=ny hcl 6 1 hD
   have q7_:=ny hcl 7 0 q6_
   simp only [hD,q6_,q7_,cq,oT] at ht hs
   subst ht
   refine Qaa (v:=int .i64 x5) rfl rfl rfl ?_
   show G _ _ _ _ [_,_,_,_,_,_,_,_,_,_,_,_,_,_,_,_,_,_,_,_,_,_,_,_,_,_,_] _
   refine hk _ _ ⟨O,?_,hs.cast ?_⟩<;>simp only [oT,lq,cq,Nat.reduceBEq,q6_,q7_]
  ·
   rintro D t w hD hp hcl ⟨O,ht,hs⟩ rest hk
   have hp:AllDone D [4,5]:=hp
   obtain ⟨p4_,p5_,_⟩:=hp
   have q7_:=ny hcl 7 0 hD
   simp only [hD,p4_,p5_,q7_,cq,oT] at ht hs
   subst ht
   refine QbC (κ:=Qav) (m:=2) rfl (hs.rd hr1) rfl (fun _=>rfl) gd4.1 gd4.2 had5_ rfl rfl rfl rfl rfl ?_
   show G _ _ _ _ [_,_,_,_,_,_,_,_,_,_,_,_,_,_,_,_,_,_,_,_,_,_,_,_,_,_,_] _
   refine hk _ _ ⟨O,?_,hs.cast ?_⟩<;>simp only [oT,lq,cq,Nat.reduceBEq,p4_,p5_,q7_]
  ·
   rintro D t w hD hp hcl ⟨O,ht,hs⟩ rest hk
   have hp:AllDone D [6]:=hp
   obtain ⟨p6_,_⟩:=hp
   obtain ⟨p4_,p5_,_⟩:=(show D 6=true→AllDone D [4,5] from hcl 6 (by decide)) p6_
   simp only [hD,p4_,p5_,p6_,cq,oT] at ht hs
   subst ht
   refine Qbe rfl rfl (es:=(Qay (rdL a3 x5 Qat))) rfl rfl (fun _=>rfl) (n:=2) (fun _=>rfl) (QaL.len _) (cellsAt_of QaL Qat (hs.rd hr1) had5_ gd4.1 gd4.2) ?_
   show G _ _ _ _ [_,_,_,_,_,_,_,_,_,_,_,_,_,_,_,_,_,_,_,_,_,_,_,_,_,_,_] _
   refine hk _ _ ⟨O,?_,hs.cast ?_⟩<;>simp only [oT,lq,cq,Nat.reduceBEq,p4_,p5_,p6_]
  intro D t w rest hall hO1_ hI
  obtain ⟨O,ht,hs⟩:=hI
  have p0_:=hall 0 (by decide) rfl
  have p1_:=hall 1 (by decide) rfl
  have p2_:=hall 2 (by decide) rfl
  have p3_:=hall 3 (by decide) rfl
  have p4_:=hall 4 (by decide) rfl
  have p5_:=hall 5 (by decide) rfl
  have p6_:=hall 6 (by decide) rfl
  have p7_:=hall 7 (by decide) rfl
  simp only [p0_,p1_,p2_,p3_,p4_,p5_,p6_,p7_,cq,oT] at ht hs
  subst ht
  obtain ⟨rest,rfl,hO6_⟩:=ord_one (m:=255) hO1_ rfl 8 (m':=511) (by decide+kernel) rfl
  clear hO1_
  obtain ⟨r6,Hr6,H⟩:=bind_get H
  refine QaA (args:=[agg (Qay (rdL a1 x5 Qat)).toArray,agg (Qay (rdL a3 x5 Qat)).toArray]) rfl rfl (Qax rfl (callFunc_enter Tryd.func50 rfl rfl) rfl) (Qbj.calls (a1:=rdL a1 x5 Qat) (a2:=rdL a3 x5 Qat) Hr6) ?_
  rintro _ w ⟨rfl,hs2⟩
  have hs:St _ [] _:=hs.call hs2
  cases r6 with
  |true=>
   rw [if_pos rfl] at H
   show G _ _ _ _ [_,_,_,_,_,_,_,_,_,_,_,_,_,_,_,_,_,_,_,_,_,_,_,_,_,_,_] _
   obtain ⟨rest,rfl,hO7_⟩:=ord_one (m:=511) hO6_ rfl 9 (m':=1023) (by decide+kernel) rfl
   clear hO6_
   refine Qaa (v:=bool false) rfl rfl rfl ?_
   obtain rfl:=ord_end hO7_ rfl (by decide+kernel)
   refine Qab (Qad rfl (Qaw ?_))
   refine QaD (Qaj [0,1,2] rfl ?_)
   refine Qaa (v:=int .i64 x5) rfl rfl rfl ?_
   refine Qaa (v:=int .i64 (i64w (x5+1))) rfl rfl rfl ?_
   refine Qaa (v:=int .i64 (i64w (x5+1))) rfl rfl rfl ?_
   show G _ _ _ _ [_,_,_,_,_,_,_,_,_,_,_,_,_,_,_,_,_,_,_,_,_,_,_,_,_,_,_] _
   refine Qab ?_
   obtain rfl:=QsJ H
   have hs:St _ [] _:=St.take (Γ':=[]) hs
   exact ih1_ _ _ ⟨i64w (x5+1),Hx1_,rfl,hs⟩
  |false=>
   rw [if_neg Bool.false_ne_true] at H
   show G _ _ _ _ [_,_,_,_,_,_,_,_,_,_,_,_,_,_,_,_,_,_,_,_,_,_,_,_,_,_,_] _
   obtain ⟨rest,rfl,hO8_⟩:=ord_one (m:=511) hO6_ rfl 9 (m':=1023) (by decide+kernel) rfl
   clear hO6_
   refine Qaa (v:=bool true) rfl rfl rfl ?_
   obtain rfl:=ord_end hO8_ rfl (by decide+kernel)
   refine Qab (Qak rfl (Qac (Qaj [0] rfl ?_)))
   refine Qaa (v:=bool false) rfl rfl rfl (Qab ?_)
   obtain rfl:=QsJ H
   subst Hx1_
   have H:=QsJ Hr1_
   subst H
   refine Qau Tryd.func24 (v:=bool false) (res1 rfl rfl) ?_
   have hs:St _ [] _:=St.take (Γ':=[]) hs
   exact ⟨_,rfl,rfl,hs⟩
 intro hb
 rw [if_neg (b_dec_f hb)] at H
 refine Qab (Qad rfl ?_)
 obtain rfl:=QsJ H
 subst Hx1_
 have hs:St _ [] _:=St.take (Γ':=[]) hs
 refine Qbi rfl ?_
 exact ha1_ _ _ ⟨Hr1_,rfl,hs⟩
def Qa6.post (w0:World) (r:Bool) (v:Value) (w:World):Prop:=v=bool r∧St w0 [] w
theorem Qa6.calls {N:Nat} {a1:Qao} {a4:Qao} {v2:Value} {v5:Value} {w0:World} {r:Bool} (hr3:RdRow Qav w0 v2 a1.Qap) (hr6:RdRow Qav w0 v5 a4.Qap) (H:Qa6.f N a1 a4=some r):
 Calls Tryd.prog 9 #[agg (([int .i8 a1.Qai,int .i8 a1.Qaq,v2]:List Value)).toArray,agg (([int .i8 a4.Qai,int .i8 a4.Qaq,v5]:List Value)).toArray] w0 fun e w=>∃ v,e= .returned v∧Qa6.post w0 r v w:=by
 unfold Qa6.f at H
 have hs:St w0 [] w0:=St.refl w0
 refine calls_of_g (n:=19) Tryd.func9 rfl rfl ?_
 show G _ _ _ _ [_,_,_,_,_,_,_,_,_,_,_,_,_,_,_,_,_,_,_,_,_] _
 refine Qac (Qaj [0,1,2] rfl ?_)
 refine Qbp hs rfl rfl (cs:=(([int .i8 a1.Qai,int .i8 a1.Qaq,v2]:List Value))) rfl rfl ?_
 intro b7 w hs
 show G _ _ _ _ [_,_,_,_,_,_,_,_,_,_,_,_,_,_,_,_,_,_,_,_,_] _
 refine Qbp hs rfl rfl (cs:=(([int .i8 a4.Qai,int .i8 a4.Qaq,v5]:List Value))) rfl rfl ?_
 intro b9 w hs
 refine Qaa (v:=bool false) rfl rfl rfl (Qab (Qac (Qac (Qaj [0,1,2,3,4] rfl ?_))))
 refine Qaa (v:=pointer (some ⟨b7,0,none⟩)) rfl rfl rfl ?_
 show G _ _ _ _ [_,_,_,_,_,_,_,_,_,_,_,_,_,_,_,_,_,_,_,_,_] _
 refine QaI rfl rfl (v:=int .i8 a1.Qai) rfl rfl (fun _=>rfl) (cells_load (hs.cells 1 rfl) 0 1 rfl) ?_
 refine Qaa (v:=pointer (some ⟨b9,0,none⟩)) rfl rfl rfl ?_
 refine QaI rfl rfl (v:=int .i8 a4.Qai) rfl rfl (fun _=>rfl) (cells_load (hs.cells 0 rfl) 0 1 rfl) ?_
 show G _ _ _ _ [_,_,_,_,_,_,_,_,_,_,_,_,_,_,_,_,_,_,_,_,_] _
 refine Qas (B:=a1.Qai !=a4.Qai) rfl rfl rfl ?_ ?_
 ·
  intro hb
  rw [if_neg (b_bne_t hb)] at H
  refine Qab (Qak rfl (Qac (Qaj [0] rfl ?_)))
  refine Qaa (v:=bool false) rfl rfl rfl ?_
  show G _ _ _ _ [_,_,_,_,_,_,_,_,_,_,_,_,_,_,_,_,_,_,_,_,_] _
  refine Qab ?_
  obtain rfl:=QsJ H
  refine Qau Tryd.func9 (v:=bool false) (res1 rfl rfl) ?_
  have hs:St _ [] _:=St.take (Γ':=[_,_]) hs
  exact ⟨_,rfl,rfl,hs⟩
 intro hb
 rw [if_pos (b_bne_f hb)] at H
 refine Qab (Qad rfl (Qaw (Qac (Qac (Qaj [0,1,2,3,4] rfl ?_)))))
 refine Qaa (v:=pointer (some ⟨b7,1,none⟩)) rfl rfl rfl ?_
 refine QaI rfl rfl (v:=int .i8 a1.Qaq) rfl rfl (fun _=>rfl) (cells_load (hs.cells 1 rfl) 1 1 rfl) ?_
 show G _ _ _ _ [_,_,_,_,_,_,_,_,_,_,_,_,_,_,_,_,_,_,_,_,_] _
 refine Qaa (v:=pointer (some ⟨b9,1,none⟩)) rfl rfl rfl ?_
 refine QaI rfl rfl (v:=int .i8 a4.Qaq) rfl rfl (fun _=>rfl) (cells_load (hs.cells 0 rfl) 1 1 rfl) ?_
 refine Qas (B:=a1.Qaq !=a4.Qaq) rfl rfl rfl ?_ ?_
 ·
  intro hb
  rw [if_neg (b_bne_t hb)] at H
  refine Qab (Qak rfl (Qac (Qaj [0] rfl ?_)))
  refine Qaa (v:=bool false) rfl rfl rfl (Qab ?_)
  obtain rfl:=QsJ H
  refine Qau Tryd.func9 (v:=bool false) (res1 rfl rfl) ?_
  have hs:St _ [] _:=St.take (Γ':=[_,_]) hs
  exact ⟨_,rfl,rfl,hs⟩
 intro hb
 rw [if_pos (b_bne_f hb)] at H
 show G _ _ _ _ [_,_,_,_,_,_,_,_,_,_,_,_,_,_,_,_,_,_,_,_,_] _
 refine Qab (Qad rfl (Qaw (Qac (Qac (Qaj [0,1,2,3,4,5] rfl ?_)))))
 refine Qaa (v:=pointer (some ⟨b7,2,none⟩)) rfl rfl rfl ?_
 refine QaI rfl rfl (v:=v2) rfl rfl (fun _=>rfl) (cells_load (hs.cells 1 rfl) 2 1 rfl) ?_
 refine Qaa (v:=pointer (some ⟨b9,2,none⟩)) rfl rfl rfl ?_
 show G _ _ _ _ [_,_,_,_,_,_,_,_,_,_,_,_,_,_,_,_,_,_,_,_,_] _
 refine QaI rfl rfl (v:=v5) rfl rfl (fun _=>rfl) (cells_load (hs.cells 0 rfl) 2 1 rfl) ?_
 obtain ⟨r11,Hr11,H⟩:=bind_get H
 refine QaA (args:=[v2,v5]) rfl rfl (Qax rfl (callFunc_enter Tryd.func24 rfl rfl) rfl) (QaQ.calls (a1:=a1.Qap) (a3:=a4.Qap) (hs.rd hr3) (hs.rd hr6) Hr11) ?_
 rintro _ w ⟨rfl,hs2⟩
 have hs:St _ [_,_] _:=hs.call hs2
 cases r11 with
 |true=>
  rw [if_pos rfl] at H
  refine Qaa (v:=bool false) rfl rfl rfl ?_
  show G _ _ _ _ [_,_,_,_,_,_,_,_,_,_,_,_,_,_,_,_,_,_,_,_,_] _
  refine Qab (Qad rfl (Qaw (Qac (Qaj [0] rfl ?_))))
  refine Qaa (v:=bool true) rfl rfl rfl (Qab ?_)
  obtain rfl:=QsJ H
  refine Qau Tryd.func9 (v:=bool true) (res1 rfl rfl) ?_
  have hs:St _ [] _:=St.take (Γ':=[_,_]) hs
  exact ⟨_,rfl,rfl,hs⟩
 |false=>
  rw [if_neg Bool.false_ne_true] at H
  refine Qaa (v:=bool true) rfl rfl rfl ?_
  show G _ _ _ _ [_,_,_,_,_,_,_,_,_,_,_,_,_,_,_,_,_,_,_,_,_] _
  refine Qab (Qak rfl (Qac (Qaj [0] rfl ?_)))
  refine Qaa (v:=bool false) rfl rfl rfl (Qab ?_)
  obtain rfl:=QsJ H
  refine Qau Tryd.func9 (v:=bool false) (res1 rfl rfl) ?_
  have hs:St _ [] _:=St.take (Γ':=[_,_]) hs
  exact ⟨_,rfl,rfl,hs⟩
end Go.Proofs.YtljkpeeabpdalaaDoorX
