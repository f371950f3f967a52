import Derived.Test.YtljkpeeabpdalaaDoorP9
namespace Go.Proofs.YtljkpeeabpdalaaDoorX
open Go Go.RowKit Go.Proofs
open Go.Value (int pointer bool agg slice string tuple)
set_option maxHeartbeats 8000000
set_option maxRecDepth 100000
set_option linter.unusedVariables false
set_option linter.unusedSimpArgs false
def QaD.post (w0:World) (r:ByteArray) (v:Value) (w:World):Prop:=v=string r∧St w0 [] w
theorem QaD.calls {N : Nat} {a1 : Qar} {v2 : Value} {w0 : World} {r : ByteArray} (htab : Lib.TabIs Tryd.prog w0 "internal/strconv.uint64pow10" .u64 Lib.pow10Tab) (hdbr : CellU w0 5 15 4) (hr3 : RdRow QaC w0 v2 a1.Qaf) (H : QaD.f N a1 = some r) :
 Calls Tryd.prog 8 #[agg (([int .i8 a1.Qac,int .i8 a1.Qak,v2]:List Value)).toArray] w0 fun e w=>∃ v,e= .returned v∧QaD.post w0 r v w:=by
 unfold QaD.f at H
 have hs:St w0 [] w0:=St.refl w0
 refine calls_of_g (n:=47) Tryd.func8 rfl rfl ?_
 show G _ _ _ _ [_,_,_,_,_,_,_,_,_,_,_,_,_,_,_,_,_,_,_,_,_,_,_,_,_,_,_,_,_,_,_,_,_,_,_,_,_,_,_,_,_,_,_,_,_,_,_,_] _
 refine Qad (Qaj [0,1] rfl ?_)
 refine Qbf hs rfl rfl (cs:=(([int .i8 a1.Qac,int .i8 a1.Qak,v2]:List Value))) rfl rfl ?_
 intro b4 w hs
 refine Qaa (v:=string (⟨#[]⟩:ByteArray)) rfl rfl rfl ?_
 show G _ _ _ _ [_,_,_,_,_,_,_,_,_,_,_,_,_,_,_,_,_,_,_,_,_,_,_,_,_,_,_,_,_,_,_,_,_,_,_,_,_,_,_,_,_,_,_,_,_,_,_,_] _
 refine Qab (Qad (Qad (Qaj [0,1,2] rfl ?_)))
 refine Qa6 rfl rfl (es:=(([int .i8 a1.Qac,int .i8 a1.Qak,v2]:List Value))) rfl rfl (fun _=>rfl) (n:=3) (fun _=>rfl) rfl (cells_all (hs.cells 0 rfl)) ?_
 obtain ⟨r6,Hr6,H⟩:=bind_get H
 refine Qaz (args:=[agg (([int .i8 a1.Qac,int .i8 a1.Qak,v2]:List Value)).toArray]) rfl rfl (Qaw rfl (callFunc_enter Tryd.func18 rfl rfl) rfl) (QaQ.calls (a1:=(⟨a1.Qac,a1.Qak,a1.Qaf⟩:Qar)) (hs.rd hr3) Hr6) ?_
 rintro _ w ⟨rfl,hs2⟩
 have hs:St _ [_] _:=hs.call hs2
 cases r6 with
 |true=>
  rw [if_pos rfl] at H
  show G _ _ _ _ [_,_,_,_,_,_,_,_,_,_,_,_,_,_,_,_,_,_,_,_,_,_,_,_,_,_,_,_,_,_,_,_,_,_,_,_,_,_,_,_,_,_,_,_,_,_,_,_] _
  refine Qaa (v:=bool false) rfl rfl rfl (Qab (Qag rfl (Qay (Qad (Qaj [0,1,2] rfl ?_)))))
  refine Qaa (v:=agg ([pointer none,slice none 0 0]).toArray) rfl rfl (QbS (cs:=[pointer none,slice none 0 0]) (segs:=[[pointer none],[slice none 0 0]]) rfl rfl (fun _=>rfl) ⟨rfl,(fun _=>rfl),rfl,(fun _=>rfl),trivial⟩ (by simp) (by first|rfl|(simp [ev];done)|(simp [ev];rfl))) ?_
  refine Qbe hs rfl rfl (z:=(agg #[pointer none,slice none 0 0])) (cs:=[pointer none,slice none 0 0]) rfl (fun _=>rfl) rfl ?_
  intro b7 w hs
  show G _ _ _ _ [_,_,_,_,_,_,_,_,_,_,_,_,_,_,_,_,_,_,_,_,_,_,_,_,_,_,_,_,_,_,_,_,_,_,_,_,_,_,_,_,_,_,_,_,_,_,_,_] _
  refine Qbj (n:=2) hs rfl rfl rfl (vs:=[pointer none,slice none 0 0]) rfl rfl rfl (fun _=>rfl) rfl (by simp [Value.oneCell']) ?_
  intro w hs
  have hs:=hs.bld0 (e:=5)
  have hs:St _ [_,_] _:=hs
  refine Qab (Qad ?_)
  refine Qbz (n:=12) rfl [0,1,2,3,4,5,6,7,8,9,10,11] [0,1,2,3,4,5,6,7,8,9,10,11] rfl rfl ?_
  intro rest w hh hbw hO
  have hs:=hs.samew hh hbw
  show G _ _ _ _ [_,_,_,_,_,_,_,_,_,_,_,_,_,_,_,_,_,_,_,_,_,_,_,_,_,_,_,_,_,_,_,_,_,_,_,_,_,_,_,_,_,_,_,_,_,_,_,_] _
  obtain ⟨r9,Hr9,H⟩:=bind_get H
  obtain ⟨gs2,H⟩:=ite_get H
  obtain ⟨r10,Hr10,H⟩:=bind_get H
  refine Qbn ?_
  intro T hT
  refine Qbo (m0:=0) hO rfl 511 [0,1,2,3,4,5,6,7,8] [0,1,3,7,15,0,32,96,239,511,1023,2047] (by decide+kernel) (fun D t w=>∃ O:Nat→Value,t=[agg (([int .i8 a1.Qac,int .i8 a1.Qak,v2]:List Value)).toArray,pointer (some ⟨b4,0,none⟩),string (⟨#[]⟩:ByteArray),pointer (some ⟨b7,0,none⟩),O 4,O 5,O 6,O 7,agg (([int .i8 a1.Qac,int .i8 a1.Qak,v2]:List Value)).toArray,bool true,bool false,agg ([pointer none,slice none 0 0]).toArray,cnd (D 0) (pointer (some ⟨b4,0,none⟩)) (O 12),cnd (D 1) (int .i8 a1.Qac) (O 13),cnd (D 2) (int .i64 (i64w a1.Qac)) (O 14),cnd (D 3) (string r9) (O 15),cnd (D 4) (string (r9++(⟨#[32]⟩:ByteArray))) (O 16),cnd (D 5) (pointer (some ⟨b4,1,none⟩)) (O 17),cnd (D 6) (int .i8 a1.Qak) (O 18),cnd (D 7) (int .i64 (i64w a1.Qak)) (O 19),cnd (D 8) (string r10) (O 20),O 21,O 22,O 23,O 24,O 25,O 26,O 27,O 28,O 29,O 30,O 31,O 32,O 33,O 34,O 35,O 36,O 37,O 38,O 39,O 40,O 41,O 42,O 43,O 44,O 45,O 46,O 47]∧St w0 [Bld 47 5 b7 (⟨#[]⟩:ByteArray),Cells b4 (([int .i8 a1.Qac,int .i8 a1.Qak,v2]:List Value)) 30] w) ?_ ⟨?_,⟨?_,⟨?_,⟨?_,⟨?_,⟨?_,⟨?_,⟨?_,⟨?_,trivial⟩⟩⟩⟩⟩⟩⟩⟩⟩ ?_
  ·exact ⟨fun i=>T.getD i undef,(by subst hT;rfl),hs⟩
  ·
   rintro D t w hD hp hcl ⟨O,ht,hs⟩ rest hk
   have hp:AllDone D []:=hp
   have q1_:=ny hcl 1 0 hD
   have q2_:=ny hcl 2 0 q1_
   have q3_:=ny hcl 3 0 q2_
   have q4_:=ny hcl 4 0 q3_
   have q8_:=ny hcl 8 1 q3_
   simp only [hD,q1_,q2_,q3_,q4_,q8_,cq,oT] at ht hs
   subst ht
   refine Qaa (v:=pointer (some ⟨b4,0,none⟩)) rfl rfl rfl ?_
   show G _ _ _ _ [_,_,_,_,_,_,_,_,_,_,_,_,_,_,_,_,_,_,_,_,_,_,_,_,_,_,_,_,_,_,_,_,_,_,_,_,_,_,_,_,_,_,_,_,_,_,_,_] _
   refine hk _ _ ⟨O,?_,hs.cast ?_⟩<;>simp only [oT,lq,cq,Nat.reduceBEq,q1_,q2_,q3_,q4_,q8_]
  ·
   rintro D t w hD hp hcl ⟨O,ht,hs⟩ rest hk
   have hp:AllDone D [0]:=hp
   obtain ⟨p0_,_⟩:=hp
   have q2_:=ny hcl 2 0 hD
   have q3_:=ny hcl 3 0 q2_
   have q4_:=ny hcl 4 0 q3_
   have q8_:=ny hcl 8 1 q3_
   simp only [hD,p0_,q2_,q3_,q4_,q8_,cq,oT] at ht hs
   subst ht
   refine QaH rfl rfl (v:=int .i8 a1.Qac) rfl rfl (fun _=>rfl) (cells_load (hs.cells 1 rfl) 0 1 rfl) ?_
   show G _ _ _ _ [_,_,_,_,_,_,_,_,_,_,_,_,_,_,_,_,_,_,_,_,_,_,_,_,_,_,_,_,_,_,_,_,_,_,_,_,_,_,_,_,_,_,_,_,_,_,_,_] _
   refine hk _ _ ⟨O,?_,hs.cast ?_⟩<;>simp only [oT,lq,cq,Nat.reduceBEq,p0_,q2_,q3_,q4_,q8_]
  ·
   rintro D t w hD hp hcl ⟨O,ht,hs⟩ rest hk
   have hp:AllDone D [1]:=hp
   obtain ⟨p1_,_⟩:=hp
   obtain ⟨p0_,_⟩:=(show D 1=true→AllDone D [0] from hcl 1 (by decide)) p1_
   have q3_:=ny hcl 3 0 hD
   have q4_:=ny hcl 4 0 q3_
   have q8_:=ny hcl 8 1 q3_
   simp only [hD,p0_,p1_,q3_,q4_,q8_,cq,oT] at ht hs
   subst ht
   refine Qaa (v:=int .i64 (i64w a1.Qac)) rfl rfl rfl ?_
   show G _ _ _ _ [_,_,_,_,_,_,_,_,_,_,_,_,_,_,_,_,_,_,_,_,_,_,_,_,_,_,_,_,_,_,_,_,_,_,_,_,_,_,_,_,_,_,_,_,_,_,_,_] _
   refine hk _ _ ⟨O,?_,hs.cast ?_⟩<;>simp only [oT,lq,cq,Nat.reduceBEq,p0_,p1_,q3_,q4_,q8_]
  ·
   rintro D t w hD hp hcl ⟨O,ht,hs⟩ rest hk
   have hp:AllDone D [2]:=hp
   obtain ⟨p2_,_⟩:=hp
   obtain ⟨p1_,_⟩:=(show D 2=true→AllDone D [1] from hcl 2 (by decide)) p2_
   obtain ⟨p0_,_⟩:=(show D 1=true→AllDone D [0] from hcl 1 (by decide)) p1_
   have q4_:=ny hcl 4 0 hD
   have q8_:=ny hcl 8 1 hD
   simp only [hD,p0_,p1_,p2_,q4_,q8_,cq,oT] at ht hs
   subst ht
   refine Qaz (args:=[int .i64 (i64w a1.Qac)]) rfl rfl (Qaw rfl (callFunc_enter Tryd.func20 rfl rfl) rfl) (QaX.calls (a1:=i64w a1.Qac) (hs.tab htab) Hr9) ?_
   rintro _ w ⟨rfl,hs2⟩
   have hs:St _ [_,_] _:=hs.call hs2
   show G _ _ _ _ [_,_,_,_,_,_,_,_,_,_,_,_,_,_,_,_,_,_,_,_,_,_,_,_,_,_,_,_,_,_,_,_,_,_,_,_,_,_,_,_,_,_,_,_,_,_,_,_] _
   refine hk _ _ ⟨O,?_,hs.cast ?_⟩<;>simp only [oT,lq,cq,Nat.reduceBEq,p0_,p1_,p2_,q4_,q8_]
  ·
   rintro D t w hD hp hcl ⟨O,ht,hs⟩ rest hk
   have hp:AllDone D [3]:=hp
   obtain ⟨p3_,_⟩:=hp
   obtain ⟨p2_,_⟩:=(show D 3=true→AllDone D [2] from hcl 3 (by decide)) p3_
   obtain ⟨p1_,_⟩:=(show D 2=true→AllDone D [1] from hcl 2 (by decide)) p2_
   obtain ⟨p0_,_⟩:=(show D 1=true→AllDone D [0] from hcl 1 (by decide)) p1_
   simp only [hD,p0_,p1_,p2_,p3_,cq,oT] at ht hs
   subst ht
   refine Qaa (v:=string (r9++(⟨#[32]⟩:ByteArray))) rfl rfl (Qbg rfl rfl rfl gs2) ?_
   show G _ _ _ _ [_,_,_,_,_,_,_,_,_,_,_,_,_,_,_,_,_,_,_,_,_,_,_,_,_,_,_,_,_,_,_,_,_,_,_,_,_,_,_,_,_,_,_,_,_,_,_,_] _
   refine hk _ _ ⟨O,?_,hs.cast ?_⟩<;>simp only [oT,lq,cq,Nat.reduceBEq,p0_,p1_,p2_,p3_]
  ·
   rintro D t w hD hp hcl ⟨O,ht,hs⟩ rest hk
   have hp:AllDone D []:=hp
   have q6_:=ny hcl 6 0 hD
   have q7_:=ny hcl 7 0 q6_
   have q8_:=ny hcl 8 0 q7_
   simp only [hD,q6_,q7_,q8_,cq,oT] at ht hs
   subst ht
   refine Qaa (v:=pointer (some ⟨b4,1,none⟩)) rfl rfl rfl ?_
   show G _ _ _ _ [_,_,_,_,_,_,_,_,_,_,_,_,_,_,_,_,_,_,_,_,_,_,_,_,_,_,_,_,_,_,_,_,_,_,_,_,_,_,_,_,_,_,_,_,_,_,_,_] _
   refine hk _ _ ⟨O,?_,hs.cast ?_⟩<;>simp only [oT,lq,cq,Nat.reduceBEq,q6_,q7_,q8_]
  ·
   rintro D t w hD hp hcl ⟨O,ht,hs⟩ rest hk
   have hp:AllDone D [5]:=hp
   obtain ⟨p5_,_⟩:=hp
   have q7_:=ny hcl 7 0 hD
   have q8_:=ny hcl 8 0 q7_
   simp only [hD,p5_,q7_,q8_,cq,oT] at ht hs
   subst ht
   refine QaH rfl rfl (v:=int .i8 a1.Qak) rfl rfl (fun _=>rfl) (cells_load (hs.cells 1 rfl) 1 1 rfl) ?_
   show G _ _ _ _ [_,_,_,_,_,_,_,_,_,_,_,_,_,_,_,_,_,_,_,_,_,_,_,_,_,_,_,_,_,_,_,_,_,_,_,_,_,_,_,_,_,_,_,_,_,_,_,_] _
   refine hk _ _ ⟨O,?_,hs.cast ?_⟩<;>simp only [oT,lq,cq,Nat.reduceBEq,p5_,q7_,q8_]
  ·
   rintro D t w hD hp hcl ⟨O,ht,hs⟩ rest hk
   have hp:AllDone D [6]:=hp
   obtain ⟨p6_,_⟩:=hp
   obtain ⟨p5_,_⟩:=(show D 6=true→AllDone D [5] from hcl 6 (by decide)) p6_
   have q8_:=ny hcl 8 0 hD
   simp only [hD,p5_,p6_,q8_,cq,oT] at ht hs
   subst ht
   refine Qaa (v:=int .i64 (i64w a1.Qak)) rfl rfl rfl ?_
   show G _ _ _ _ [_,_,_,_,_,_,_,_,_,_,_,_,_,_,_,_,_,_,_,_,_,_,_,_,_,_,_,_,_,_,_,_,_,_,_,_,_,_,_,_,_,_,_,_,_,_,_,_] _
   refine hk _ _ ⟨O,?_,hs.cast ?_⟩<;>simp only [oT,lq,cq,Nat.reduceBEq,p5_,p6_,q8_]
  ·
   rintro D t w hD hp hcl ⟨O,ht,hs⟩ rest hk
   have hp:AllDone D [7,3]:=hp
   obtain ⟨p7_,p3_,_⟩:=hp
   obtain ⟨p6_,_⟩:=(show D 7=true→AllDone D [6] from hcl 7 (by decide)) p7_
   obtain ⟨p5_,_⟩:=(show D 6=true→AllDone D [5] from hcl 6 (by decide)) p6_
   obtain ⟨p2_,_⟩:=(show D 3=true→AllDone D [2] from hcl 3 (by decide)) p3_
   obtain ⟨p1_,_⟩:=(show D 2=true→AllDone D [1] from hcl 2 (by decide)) p2_
   obtain ⟨p0_,_⟩:=(show D 1=true→AllDone D [0] from hcl 1 (by decide)) p1_
   simp only [hD,p0_,p1_,p2_,p3_,p5_,p6_,p7_,cq,oT] at ht hs
   subst ht
   refine Qaz (args:=[int .i64 (i64w a1.Qak)]) rfl rfl (Qaw rfl (callFunc_enter Tryd.func20 rfl rfl) rfl) (QaX.calls (a1:=i64w a1.Qak) (hs.tab htab) Hr10) ?_
   rintro _ w ⟨rfl,hs2⟩
   have hs:St _ [_,_] _:=hs.call hs2
   show G _ _ _ _ [_,_,_,_,_,_,_,_,_,_,_,_,_,_,_,_,_,_,_,_,_,_,_,_,_,_,_,_,_,_,_,_,_,_,_,_,_,_,_,_,_,_,_,_,_,_,_,_] _
   refine hk _ _ ⟨O,?_,hs.cast ?_⟩<;>simp only [oT,lq,cq,Nat.reduceBEq,p0_,p1_,p2_,p3_,p5_,p6_,p7_]
  intro D t w rest hall hO1_ hI
  obtain ⟨O,ht,hs⟩:=hI
  have p0_:=hall 0 (by decide) rfl
  have p1_:=hall 1 (by decide) rfl
  have p2_:=hall 2 (by decide) rfl
  have p3_:=hall 3 (by decide) rfl
  have p4_:=hall 4 (by decide) rfl
  have p5_:=hall 5 (by decide) rfl
  have p6_:=hall 6 (by decide) rfl
  have p7_:=hall 7 (by decide) rfl
  have p8_:=hall 8 (by decide) rfl
  simp only [p0_,p1_,p2_,p3_,p4_,p5_,p6_,p7_,p8_,cq,oT] at ht hs
  subst ht
  obtain ⟨rest,rfl,hO3_⟩:=ord_one (m:=511) hO1_ rfl 9 (m':=1023) (by decide+kernel) rfl
  clear hO1_
  obtain ⟨gs4,H⟩:=ite_get H
  refine Qaa (v:=string ((r9++(⟨#[32]⟩:ByteArray))++r10)) rfl rfl (Qbg rfl rfl rfl gs4) ?_
  obtain ⟨rest,rfl,hO5_⟩:=ord_one (m:=1023) hO3_ rfl 10 (m':=2047) (by decide+kernel) rfl
  clear hO3_
  obtain ⟨gs6,H⟩:=ite_get H
  refine Qaa (v:=string (((r9++(⟨#[32]⟩:ByteArray))++r10)++(⟨#[10]⟩:ByteArray))) rfl rfl (Qbg rfl rfl rfl gs6) ?_
  obtain ⟨rest,rfl,hO7_⟩:=ord_one (m:=2047) hO5_ rfl 11 (m':=4095) (by decide+kernel) rfl
  clear hO5_
  obtain ⟨g,H⟩:=ite_get H
  refine Qbr (x:=((r9++(⟨#[32]⟩:ByteArray))++r10)++(⟨#[10]⟩:ByteArray)) bld_write (not8_cons (not8_cells (by decide)) not8_nil) hs rfl rfl (Qaw rfl (callFunc_enter Tryd.func19 rfl rfl) rfl) g ?_
  intro w hs
  show G _ _ _ _ [_,_,_,_,_,_,_,_,_,_,_,_,_,_,_,_,_,_,_,_,_,_,_,_,_,_,_,_,_,_,_,_,_,_,_,_,_,_,_,_,_,_,_,_,_,_,_,_] _
  obtain rfl:=ord_end hO7_ rfl (by decide+kernel)
  refine Qab (Qad (Qad (Qaj [0,1,2,3] rfl ?_)))
  refine Qaa (v:=pointer (some ⟨b4,2,none⟩)) rfl rfl rfl ?_
  refine QaH rfl rfl (v:=v2) rfl rfl (fun _=>rfl) (cells_load (hs.cells 1 rfl) 2 1 rfl) ?_
  refine Qbi (hs.rd hr3) rfl rfl rfl rfl rfl ?_
  refine Qaa (v:=int .i64 0) rfl rfl rfl (Qab ?_)
  obtain ⟨o1_,Ho,Hr1_⟩:=bind_get H
  refine QaT (J:=fun t w=>∃ x26:ByteArray,QaD.a0 N x26=some r∧Fr t (fun O=>([O 0,O 1,O 2,pointer (some ⟨b7,0,none⟩),O 4,O 5,O 6,O 7,O 8,O 9,O 10,O 11,O 12,O 13,O 14,O 15,O 16,O 17,O 18,O 19,O 20,O 21,O 22,O 23,O 24,O 25,O 26,O 27,O 28,O 29,O 30,O 31,O 32,O 33,O 34,O 35,O 36,O 37,O 38,O 39,O 40,O 41,O 42,O 43,O 44,O 45,O 46,O 47]:List Value))∧St w0 [Bld 47 5 b7 x26] w) ?_ ?_
  ·
   rintro t w ⟨x26,H,hf,hs⟩
   obtain ⟨O,rfl⟩:=hf.open
   show G _ _ _ _ [_,_,_,_,_,_,_,_,_,_,_,_,_,_,_,_,_,_,_,_,_,_,_,_,_,_,_,_,_,_,_,_,_,_,_,_,_,_,_,_,_,_,_,_,_,_,_,_] _
   unfold QaD.a0 at H
   refine Qad (Qaj [0,1] rfl ?_)
   refine Qbv Tryd.Builder_String_any_k not8_nil hs rfl rfl (Qaw rfl (callFunc_enter Tryd.func23 rfl rfl) rfl) ?_
   intro w hs
   refine Qaa (v:=string x26) rfl rfl rfl ?_
   show G _ _ _ _ [_,_,_,_,_,_,_,_,_,_,_,_,_,_,_,_,_,_,_,_,_,_,_,_,_,_,_,_,_,_,_,_,_,_,_,_,_,_,_,_,_,_,_,_,_,_,_,_] _
   refine Qab ?_
   obtain rfl:=QsJ H
   refine Qax Tryd.func8 (v:=string x26) (res1 rfl rfl) ?_
   have hs:St _ [] _:=St.take (Γ':=[_]) hs
   exact ⟨_,rfl,rfl,hs⟩
  intro ha1_
  have hs:=hs.pull 0 rfl
  have hs:St _ [_] _:=St.take (Γ':=[_]) hs
  refine Qa2 (I:=fun n_ t w=>∃ x18:ByteArray,∃ x19:Int,rounds (fun s=>QaD.b0 N a1 s.1 s.2) n_ (x18,x19)=some o1_∧Fr t (fun O=>([O 0,O 1,O 2,pointer (some ⟨b7,0,none⟩),O 4,O 5,O 6,O 7,O 8,O 9,O 10,O 11,O 12,O 13,O 14,O 15,O 16,O 17,O 18,O 19,O 20,O 21,O 22,O 23,O 24,v2,int .i64 (a1.Qaf.length:Int),int .i64 x19,O 28,O 29,O 30,O 31,O 32,O 33,O 34,O 35,O 36,O 37,O 38,O 39,O 40,O 41,O 42,O 43,O 44,O 45,O 46,O 47]:List Value))∧St w0 [Bld 47 5 b7 x18] w) N ⟨(⟨#[]⟩:ByteArray)++(((r9++(⟨#[32]⟩:ByteArray))++r10)++(⟨#[10]⟩:ByteArray)),0,Ho,rfl,hs⟩ ?_ ?_
  ·
   rintro _ _ ⟨x18,x19,h,_⟩
   exact rounds_zero h
  intro n_ ih1_
  rintro t w ⟨x18,x19,Ho,hf,hs⟩
  obtain ⟨O,rfl⟩:=hf.open
  show G _ _ _ _ [_,_,_,_,_,_,_,_,_,_,_,_,_,_,_,_,_,_,_,_,_,_,_,_,_,_,_,_,_,_,_,_,_,_,_,_,_,_,_,_,_,_,_,_,_,_,_,_] _
  obtain ⟨x18_,H,Hx1_⟩:=rounds_succ Ho
  have H:QaD.b0 N a1 x18 x19=some x18_:=H
  unfold QaD.b0 at H
  refine Qad (Qaj [0] rfl ?_)
  refine Qau (B:=decide (x19< (a1.Qaf.length:Int))) rfl rfl rfl ?_ ?_
  ·
   intro hb
   rw [if_pos (b_dec_t hb)] at H
   refine Qab (Qad (Qap rfl (Qay (Qad ?_))))
   refine Qbd (Qad (Qaj [0,1,2,3] rfl ?_))
   obtain ⟨g13,H⟩:=ite_get H
   refine Qby QaG Qao (hs.rd hr3) rfl (fun _=>rfl) g13.1 g13.2 rfl rfl rfl rfl rfl ?_
   intro p20 hp20 lp20 op20
   refine Qa6 rfl rfl (es:=(Qat (rdL a1.Qaf x19 Qao))) rfl rfl (fun _=>rfl) (n:=2) (fun _=>rfl) (QaG.len _) hp20 ?_
   show G _ _ _ _ [_,_,_,_,_,_,_,_,_,_,_,_,_,_,_,_,_,_,_,_,_,_,_,_,_,_,_,_,_,_,_,_,_,_,_,_,_,_,_,_,_,_,_,_,_,_,_,_] _
   refine Qbe hs rfl rfl (z:=(agg #[int .u64 0,bool false])) (cs:=(Qat Qao)) rfl (fun _=>rfl) rfl ?_
   intro b21 w hs
   refine Qbj (n:=2) hs (QaG.len _) rfl rfl (vs:=(Qat (rdL a1.Qaf x19 Qao))) rfl rfl rfl (fun _=>rfl) (QaG.len _) (QaG.one _) ?_
   intro w hs
   refine Qab (Qad (Qaj [0] rfl ?_))
   refine Qaa (v:=string (⟨#[32,110,111]⟩:ByteArray)) rfl rfl rfl (Qab (Qad (Qad ?_)))
   refine Qbx (J:=(fun t w=>∃ x23:ByteArray,QaD.j2 N a1 x19 x18 x23=some x18_∧Fr t (fun O=>([O 0,O 1,O 2,pointer (some ⟨b7,0,none⟩),O 4,pointer (some ⟨b21,0,none⟩),string x23,O 7,O 8,O 9,O 10,O 11,O 12,O 13,O 14,O 15,O 16,O 17,O 18,O 19,O 20,O 21,O 22,O 23,O 24,v2,int .i64 (a1.Qaf.length:Int),int .i64 x19,O 28,O 29,O 30,O 31,O 32,O 33,O 34,O 35,O 36,O 37,O 38,O 39,O 40,O 41,O 42,O 43,O 44,O 45,O 46,O 47]:List Value))∧St w0 [Bld 47 5 b7 x18,Cells b21 (Qat (rdL a1.Qaf x19 Qao)) 55] w)) ?_ ?_
   ·
    rintro t w ⟨x23,H,hf,hs⟩
    obtain ⟨O,rfl⟩:=hf.open
    show G _ _ _ _ [_,_,_,_,_,_,_,_,_,_,_,_,_,_,_,_,_,_,_,_,_,_,_,_,_,_,_,_,_,_,_,_,_,_,_,_,_,_,_,_,_,_,_,_,_,_,_,_] _
    unfold QaD.j2 at H
    refine Qad (Qaj [0,1,2,3] rfl ?_)
    refine Qaa (v:=pointer (some ⟨b21,0,none⟩)) rfl rfl rfl ?_
    refine QaH rfl rfl (v:=int .u64 ((rdL a1.Qaf x19 Qao).QaE)) rfl rfl (fun _=>rfl) (cells_load (hs.cells 1 rfl) 0 1 rfl) ?_
    show G _ _ _ _ [_,_,_,_,_,_,_,_,_,_,_,_,_,_,_,_,_,_,_,_,_,_,_,_,_,_,_,_,_,_,_,_,_,_,_,_,_,_,_,_,_,_,_,_,_,_,_,_] _
    obtain ⟨r24,Hr24,H⟩:=bind_get H
    refine Qaz (args:=[int .u64 ((rdL a1.Qaf x19 Qao).QaE),int .i64 16]) rfl rfl (Qaw rfl (callFunc_enter Tryd.func21 rfl rfl) rfl) (QaJ.calls (a1:=(rdL a1.Qaf x19 Qao).QaE) (hs.cellU hdbr) Hr24) ?_
    rintro _ w ⟨rfl,hs2⟩
    have hs:St _ [_,_] _:=hs.call hs2
    refine Qaa (v:=string r24) rfl rfl rfl (Qab (Qaj [0,1,2,3,4,5,6,7,8,9] rfl ?_))
    refine Qaa (v:=string r24) rfl rfl rfl ?_
    refine Qaa (v:=int .i64 (r24.size:Int)) rfl rfl (Qbk rfl rfl rfl) ?_
    show G _ _ _ _ [_,_,_,_,_,_,_,_,_,_,_,_,_,_,_,_,_,_,_,_,_,_,_,_,_,_,_,_,_,_,_,_,_,_,_,_,_,_,_,_,_,_,_,_,_,_,_,_] _
    refine Qaa (v:=int .i64 (i64w (16 - (r24.size:Int)))) rfl rfl rfl ?_
    obtain ⟨r25,Hr25,H⟩:=bind_get H
    refine Qaz (args:=[string (⟨#[48]⟩:ByteArray),int .i64 (i64w (16 - (r24.size:Int)))]) rfl rfl (Qaw rfl (callFunc_enter Tryd.func22 rfl rfl) rfl) (Qal.calls (a1:=(⟨#[48]⟩:ByteArray)) (a2:=i64w (16 - (r24.size:Int))) Hr25) ?_
    rintro _ w ⟨rfl,hs2⟩
    have hs:St _ [_,_] _:=hs.call hs2
    refine Qaa (v:=string r24) rfl rfl rfl ?_
    obtain ⟨gs15,H⟩:=ite_get H
    refine Qaa (v:=string (r25++r24)) rfl rfl (Qbg rfl rfl rfl gs15) ?_
    show G _ _ _ _ [_,_,_,_,_,_,_,_,_,_,_,_,_,_,_,_,_,_,_,_,_,_,_,_,_,_,_,_,_,_,_,_,_,_,_,_,_,_,_,_,_,_,_,_,_,_,_,_] _
    refine Qaa (v:=string x23) rfl rfl rfl ?_
    obtain ⟨gs16,H⟩:=ite_get H
    refine Qaa (v:=string ((r25++r24)++x23)) rfl rfl (Qbg rfl rfl rfl gs16) ?_
    obtain ⟨gs17,H⟩:=ite_get H
    refine Qaa (v:=string (((r25++r24)++x23)++(⟨#[10]⟩:ByteArray))) rfl rfl (Qbg rfl rfl rfl gs17) ?_
    obtain ⟨g,H⟩:=ite_get H
    refine Qbr (x:=((r25++r24)++x23)++(⟨#[10]⟩:ByteArray)) bld_write (not8_cons (not8_cells (by decide)) not8_nil) hs rfl rfl (Qaw rfl (callFunc_enter Tryd.func19 rfl rfl) rfl) g ?_
    intro w hs
    show G _ _ _ _ [_,_,_,_,_,_,_,_,_,_,_,_,_,_,_,_,_,_,_,_,_,_,_,_,_,_,_,_,_,_,_,_,_,_,_,_,_,_,_,_,_,_,_,_,_,_,_,_] _
    refine Qab ?_
    refine QaB (Qaj [0,1] rfl ?_)
    refine Qaa (v:=int .i64 (i64w (x19+1))) rfl rfl rfl ?_
    refine Qaa (v:=int .i64 (i64w (x19+1))) rfl rfl rfl (Qab ?_)
    obtain rfl:=QsJ H
    have hs:=hs.pull 0 rfl
    have hs:St _ [_] _:=St.take (Γ':=[_]) hs
    exact ih1_ _ _ ⟨x18++(((r25++r24)++x23)++(⟨#[10]⟩:ByteArray)),i64w (x19+1),Hx1_,rfl,hs⟩
   intro ha
   refine Qaj [0,1] rfl ?_
   refine Qaa (v:=pointer (some ⟨b21,1,none⟩)) rfl rfl rfl ?_
   by_cases hb14_:(rdL a1.Qaf x19 Qao).QaS=true
   ·
    rw [if_pos hb14_] at H
    refine QaH rfl rfl (v:=bool true) rfl rfl (fun _=>rfl) (cells_load (hs.cells 0 rfl) 1 1 (Eq.trans (b:=[bool ((rdL a1.Qaf x19 Qao).QaS)]) rfl (congrArg (fun b=>[bool b]) hb14_))) (Qab (Qap rfl (Qaj [0] rfl ?_)))
    refine Qaa (v:=string (⟨#[32,121,101,115]⟩:ByteArray)) rfl rfl rfl (Qab ?_)
    have hs:=hs.pull 0 rfl
    have hs:=hs.pull 1 rfl
    have hs:St _ [_,_] _:=St.take (Γ':=[]) hs
    exact ha _ _ ⟨(⟨#[32,121,101,115]⟩:ByteArray),H,rfl,hs⟩
   rw [if_neg hb14_] at H
   refine QaH rfl rfl (v:=bool false) rfl rfl (fun _=>rfl) (cells_load (hs.cells 0 rfl) 1 1 (Eq.trans (b:=[bool ((rdL a1.Qaf x19 Qao).QaS)]) rfl (congrArg (fun b=>[bool b]) (Bool.eq_false_iff.2 hb14_)))) ?_
   show G _ _ _ _ [_,_,_,_,_,_,_,_,_,_,_,_,_,_,_,_,_,_,_,_,_,_,_,_,_,_,_,_,_,_,_,_,_,_,_,_,_,_,_,_,_,_,_,_,_,_,_,_] _
   refine Qab (Qag rfl (Qay ?_))
   have hs:=hs.pull 0 rfl
   have hs:=hs.pull 1 rfl
   have hs:St _ [_,_] _:=St.take (Γ':=[]) hs
   exact ha _ _ ⟨(⟨#[32,110,111]⟩:ByteArray),H,rfl,hs⟩
  intro hb
  rw [if_neg (b_dec_f hb)] at H
  show G _ _ _ _ [_,_,_,_,_,_,_,_,_,_,_,_,_,_,_,_,_,_,_,_,_,_,_,_,_,_,_,_,_,_,_,_,_,_,_,_,_,_,_,_,_,_,_,_,_,_,_,_] _
  refine Qab (Qad (Qag rfl ?_))
  obtain rfl:=QsJ H
  subst Hx1_
  have hs:=hs.pull 0 rfl
  have hs:St _ [_] _:=St.take (Γ':=[]) hs
  refine Qbh rfl ?_
  exact ha1_ _ _ ⟨x18,Hr1_,rfl,hs⟩
 |false=>
  rw [if_neg Bool.false_ne_true] at H
  refine Qaa (v:=bool true) rfl rfl rfl ?_
  show G _ _ _ _ [_,_,_,_,_,_,_,_,_,_,_,_,_,_,_,_,_,_,_,_,_,_,_,_,_,_,_,_,_,_,_,_,_,_,_,_,_,_,_,_,_,_,_,_,_,_,_,_] _
  refine Qab (Qap rfl (Qad (Qaj [0] rfl ?_)))
  refine Qaa (v:=string (⟨#[]⟩:ByteArray)) rfl rfl rfl (Qab ?_)
  obtain rfl:=QsJ H
  refine Qax Tryd.func8 (v:=string (⟨#[]⟩:ByteArray)) (res1 rfl rfl) ?_
  have hs:St _ [] _:=St.take (Γ':=[_]) hs
  exact ⟨_,rfl,rfl,hs⟩
def Qba.post (w0:World) (r:Bool) (v:Value) (w:World):Prop:=v=bool r∧St w0 [] w
theorem Qba.calls {N:Nat} {a1:Qas} {a2:Qas} {w0:World} {r:Bool} (H:Qba.f N a1 a2=some r):
 Calls Tryd.prog 50 #[agg (Qat a1).toArray,agg (Qat a2).toArray] w0 fun e w=>∃ v,e= .returned v∧Qba.post w0 r v w:=by
 unfold Qba.f at H
 have hs:St w0 [] w0:=St.refl w0
 refine calls_of_g (n:=13) Tryd.func50 rfl rfl ?_
 show G _ _ _ _ [_,_,_,_,_,_,_,_,_,_,_,_,_,_,_] _
 refine Qad (Qaj [0,1,2] rfl ?_)
 refine Qbf hs rfl rfl (cs:=(Qat a1)) rfl rfl ?_
 intro b3 w hs
 refine Qbf hs rfl rfl (cs:=(Qat a2)) rfl rfl ?_
 intro b5 w hs
 refine Qaa (v:=bool false) rfl rfl rfl ?_
 show G _ _ _ _ [_,_,_,_,_,_,_,_,_,_,_,_,_,_,_] _
 refine Qab (Qad (Qad (Qaj [0,1,2,3,4] rfl ?_)))
 refine Qaa (v:=pointer (some ⟨b3,0,none⟩)) rfl rfl rfl ?_
 refine QaH rfl rfl (v:=int .u64 a1.QaE) rfl rfl (fun _=>rfl) (cells_load (hs.cells 1 rfl) 0 1 rfl) ?_
 refine Qaa (v:=pointer (some ⟨b5,0,none⟩)) rfl rfl rfl ?_
 show G _ _ _ _ [_,_,_,_,_,_,_,_,_,_,_,_,_,_,_] _
 refine QaH rfl rfl (v:=int .u64 a2.QaE) rfl rfl (fun _=>rfl) (cells_load (hs.cells 0 rfl) 0 1 rfl) ?_
 refine Qau (B:=a1.QaE !=a2.QaE) rfl rfl rfl ?_ ?_
 ·
  intro hb
  rw [if_neg (b_bne_t hb)] at H
  refine Qab (Qap rfl (Qad (Qaj [0] rfl ?_)))
  refine Qaa (v:=bool false) rfl rfl rfl ?_
  show G _ _ _ _ [_,_,_,_,_,_,_,_,_,_,_,_,_,_,_] _
  refine Qab ?_
  obtain rfl:=QsJ H
  refine Qax Tryd.func50 (v:=bool false) (res1 rfl rfl) ?_
  have hs:St _ [] _:=St.take (Γ':=[_,_]) hs
  exact ⟨_,rfl,rfl,hs⟩
 intro hb
 rw [if_pos (b_bne_f hb)] at H
 refine Qab (Qag rfl (Qay (Qad (Qad (Qaj [0,1,2,3,4] rfl ?_)))))
 refine Qaa (v:=pointer (some ⟨b3,1,none⟩)) rfl rfl rfl ?_
 show G _ _ _ _ [_,_,_,_,_,_,_,_,_,_,_,_,_,_,_] _
 refine QaH rfl rfl (v:=bool a1.QaS) rfl rfl (fun _=>rfl) (cells_load (hs.cells 1 rfl) 1 1 rfl) ?_
 refine Qaa (v:=pointer (some ⟨b5,1,none⟩)) rfl rfl rfl ?_
 refine QaH rfl rfl (v:=bool a2.QaS) rfl rfl (fun _=>rfl) (cells_load (hs.cells 0 rfl) 1 1 rfl) ?_
 show G _ _ _ _ [_,_,_,_,_,_,_,_,_,_,_,_,_,_,_] _
 refine Qau (B:=a1.QaS !=a2.QaS) rfl rfl rfl ?_ ?_
 ·
  intro hb
  rw [if_neg (b_bne_t hb)] at H
  refine Qab (Qap rfl (Qad (Qaj [0] rfl ?_)))
  refine Qaa (v:=bool false) rfl rfl rfl (Qab ?_)
  obtain rfl:=QsJ H
  refine Qax Tryd.func50 (v:=bool false) (res1 rfl rfl) ?_
  have hs:St _ [] _:=St.take (Γ':=[_,_]) hs
  exact ⟨_,rfl,rfl,hs⟩
 intro hb
 rw [if_pos (b_bne_f hb)] at H
 refine Qab (Qag rfl (Qay (Qad (Qaj [0] rfl ?_))))
 refine Qaa (v:=bool true) rfl rfl rfl (Qab ?_)
 obtain rfl:=QsJ H
 refine Qax Tryd.func50 (v:=bool true) (res1 rfl rfl) ?_
 have hs:St _ [] _:=St.take (Γ':=[_,_]) hs
 exact ⟨_,rfl,rfl,hs⟩
def QaL.post (w0:World) (r:Bool) (v:Value) (w:World):Prop:=v=bool r∧St w0 [] w
theorem QaL.calls {N:Nat} {a1:(List Qas)} {a3:(List Qas)} {v2:Value} {v4:Value} {w0:World} {r:Bool} (hr0:RdRow QaC w0 v2 a1) (hr1:RdRow QaC w0 v4 a3) (H:QaL.f N a1 a3=some r):
 Calls Tryd.prog 24 #[v2,v4] w0 fun e w=>∃ v,e= .returned v∧QaL.post w0 r v w:=by
 unfold QaL.f at H
 have hs:St w0 [] w0:=St.refl w0
 refine calls_of_g (n:=25) Tryd.func24 rfl rfl ?_
 show G _ _ _ _ [_,_,_,_,_,_,_,_,_,_,_,_,_,_,_,_,_,_,_,_,_,_,_,_,_,_,_] _
 refine Qad (Qaj [0] rfl ?_)
 refine Qaa (v:=bool false) rfl rfl rfl (Qab (Qad (Qad (Qaj [0,1,2,3,4] rfl ?_))))
 refine Qaa (v:=v2) rfl rfl rfl ?_
 refine Qbi (hs.rd hr0) rfl rfl rfl rfl rfl ?_
 refine Qaa (v:=v4) rfl rfl rfl ?_
 refine Qbi (hs.rd hr1) rfl rfl rfl rfl rfl ?_
 show G _ _ _ _ [_,_,_,_,_,_,_,_,_,_,_,_,_,_,_,_,_,_,_,_,_,_,_,_,_,_,_] _
 refine Qau (B:=(a1.length:Int) !=(a3.length:Int)) rfl rfl rfl ?_ ?_
 ·
  intro hb
  rw [if_neg (b_bne_t hb)] at H
  show G _ _ _ _ [_,_,_,_,_,_,_,_,_,_,_,_,_,_,_,_,_,_,_,_,_,_,_,_,_,_,_] _
  refine Qab (Qap rfl (Qad (Qaj [0] rfl ?_)))
  refine Qaa (v:=bool false) rfl rfl rfl (Qab ?_)
  obtain rfl:=QsJ H
  refine Qax Tryd.func24 (v:=bool false) (res1 rfl rfl) ?_
  have hs:St _ [] _:=St.take (Γ':=[]) hs
  exact ⟨_,rfl,rfl,hs⟩
 intro hb
 rw [if_pos (b_bne_f hb)] at H
 refine Qab (Qag rfl (Qay (Qad (Qad (Qaj [0] rfl ?_)))))
 refine Qaa (v:=int .i64 0) rfl rfl rfl (Qab ?_)
 obtain ⟨o1_,Ho,Hr1_⟩:=bind_get H
 refine QaT (J:=fun t w=>QaL.a0 N=some r∧Fr t (fun O=>([O 0,O 1,O 2,O 3,O 4,O 5,O 6,O 7,O 8,O 9,O 10,O 11,O 12,O 13,O 14,O 15,O 16,O 17,O 18,O 19,O 20,O 21,O 22,O 23,O 24,O 25,O 26]:List Value))∧St w0 [] w) ?_ ?_
 ·
  rintro t w ⟨H,hf,hs⟩
  obtain ⟨O,rfl⟩:=hf.open
  show G _ _ _ _ [_,_,_,_,_,_,_,_,_,_,_,_,_,_,_,_,_,_,_,_,_,_,_,_,_,_,_] _
  unfold QaL.a0 at H
  refine Qad (Qaj [0] rfl ?_)
  refine Qaa (v:=bool true) rfl rfl rfl (Qab ?_)
  obtain rfl:=QsJ H
  refine Qax Tryd.func24 (v:=bool true) (res1 rfl rfl) ?_
  have hs:St _ [] _:=St.take (Γ':=[]) hs
  exact ⟨_,rfl,rfl,hs⟩
 intro ha1_
 have hs:St _ [] _:=St.take (Γ':=[]) hs
 refine Qa2 (I:=fun n_ t w=>∃ x5:Int,rounds (fun s=>QaL.b0 N a1 a3 s) n_ x5=some o1_∧Fr t (fun O=>([v2,v4,O 2,O 3,O 4,int .i64 x5,O 6,O 7,O 8,O 9,O 10,O 11,O 12,O 13,O 14,O 15,O 16,O 17,O 18,O 19,O 20,O 21,O 22,O 23,O 24,O 25,O 26]:List Value))∧St w0 [] w) N ⟨0,Ho,rfl,hs⟩ ?_ ?_
 ·
  rintro _ _ ⟨x5,h,_⟩
  exact rounds_zero h
 intro n_ ih1_
 rintro t w ⟨x5,Ho,hf,hs⟩
 obtain ⟨O,rfl⟩:=hf.open
 show G _ _ _ _ [_,_,_,_,_,_,_,_,_,_,_,_,_,_,_,_,_,_,_,_,_,_,_,_,_,_,_] _
 obtain ⟨x9_,H,Hx1_⟩:=rounds_succ Ho
 have H:QaL.b0 N a1 a3 x5=some x9_:=H
 unfold QaL.b0 at H
 refine Qad (Qad (Qaj [0,1,2,3] rfl ?_))
 refine Qaa (v:=int .i64 x5) rfl rfl rfl ?_
 refine Qaa (v:=v2) rfl rfl rfl ?_
 refine Qbi (hs.rd hr0) rfl rfl rfl rfl rfl ?_
 show G _ _ _ _ [_,_,_,_,_,_,_,_,_,_,_,_,_,_,_,_,_,_,_,_,_,_,_,_,_,_,_] _
 refine Qau (B:=decide (x5< (a1.length:Int))) rfl rfl rfl ?_ ?_
 ·
  intro hb
  rw [if_pos (b_dec_t hb)] at H
  refine Qab (Qap rfl (Qay (Qad ?_)))
  refine Qbd (Qad ?_)
  refine Qbz (n:=10) rfl [0,1,2,3,4,5,6,7,8,9] [0,1,2,3,4,5,6,7,8,9] rfl rfl ?_
  intro rest w hh hbw hO
  have hs:=hs.samew hh hbw
  show G _ _ _ _ [_,_,_,_,_,_,_,_,_,_,_,_,_,_,_,_,_,_,_,_,_,_,_,_,_,_,_] _
  obtain ⟨gd2,H⟩:=ite_get H
  obtain ⟨ad3_,ad3_N,ad3_C,had3_⟩:=sl_at (hs.rd hr0) gd2.1 gd2.2
  obtain ⟨gd4,H⟩:=ite_get H
  obtain ⟨ad5_,ad5_N,ad5_C,had5_⟩:=sl_at (hs.rd hr1) gd4.1 gd4.2
  refine Qbn ?_
  intro T hT
  refine Qbo (m0:=0) hO rfl 255 [0,1,2,3,4,5,6,7] [0,0,3,7,0,0,48,112,255,511] (by decide+kernel) (fun D t w=>∃ O:Nat→Value,t=[v2,v4,O 2,O 3,O 4,int .i64 x5,O 6,O 7,O 8,O 9,O 10,int .i64 x5,v2,int .i64 (a1.length:Int),bool true,O 15,O 16,cnd (D 0) v2 (O 17),cnd (D 1) (int .i64 x5) (O 18),cnd (D 2) (pointer (some (ad3_.add (x5.toNat*2)))) (O 19),cnd (D 3) (agg (Qat (rdL a1 x5 Qao)).toArray) (O 20),cnd (D 4) v4 (O 21),cnd (D 5) (int .i64 x5) (O 22),cnd (D 6) (pointer (some (ad5_.add (x5.toNat*2)))) (O 23),cnd (D 7) (agg (Qat (rdL a3 x5 Qao)).toArray) (O 24),O 25,O 26]∧St w0 [] w) ?_ ⟨?_,⟨?_,⟨?_,⟨?_,⟨?_,⟨?_,⟨?_,⟨?_,trivial⟩⟩⟩⟩⟩⟩⟩⟩ ?_
  ·exact ⟨fun i=>T.getD i undef,(by subst hT;rfl),hs⟩
  ·
   rintro D t w hD hp hcl ⟨O,ht,hs⟩ rest hk
   have hp:AllDone D []:=hp
   have q2_:=ny hcl 2 0 hD
   have q3_:=ny hcl 3 0 q2_
   simp only [hD,q2_,q3_,cq,oT] at ht hs
   subst ht
   refine Qaa (v:=v2) rfl rfl rfl ?_
   show G _ _ _ _ [_,_,_,_,_,_,_,_,_,_,_,_,_,_,_,_,_,_,_,_,_,_,_,_,_,_,_] _
   refine hk _ _ ⟨O,?_,hs.cast ?_⟩<;>simp only [oT,lq,cq,Nat.reduceBEq,q2_,q3_]
  ·
   rintro D t w hD hp hcl ⟨O,ht,hs⟩ rest hk
   have hp:AllDone D []:=hp
   have q2_:=ny hcl 2 1 hD
   have q3_:=ny hcl 3 0 q2_
   simp only [hD,q2_,q3_,cq,oT] at ht hs
   subst ht
   refine Qaa (v:=int .i64 x5) rfl rfl rfl ?_
   show G _ _ _ _ [_,_,_,_,_,_,_,_,_,_,_,_,_,_,_,_,_,_,_,_,_,_,_,_,_,_,_] _
   refine hk _ _ ⟨O,?_,hs.cast ?_⟩<;>simp only [oT,lq,cq,Nat.reduceBEq,q2_,q3_]
  ·
   rintro D t w hD hp hcl ⟨O,ht,hs⟩ rest hk
   have hp:AllDone D [0,1]:=hp
   obtain ⟨p0_,p1_,_⟩:=hp
   have q3_:=ny hcl 3 0 hD
   simp only [hD,p0_,p1_,q3_,cq,oT] at ht hs
   subst ht
   refine QbG (κ:=QaC) (m:=2) rfl (hs.rd hr0) rfl (fun _=>rfl) gd2.1 gd2.2 had3_ rfl rfl rfl rfl rfl ?_
   show G _ _ _ _ [_,_,_,_,_,_,_,_,_,_,_,_,_,_,_,_,_,_,_,_,_,_,_,_,_,_,_] _
   refine hk _ _ ⟨O,?_,hs.cast ?_⟩<;>simp only [oT,lq,cq,Nat.reduceBEq,p0_,p1_,q3_]
  ·
   rintro D t w hD hp hcl ⟨O,ht,hs⟩ rest hk
   have hp:AllDone D [2]:=hp
   obtain ⟨p2_,_⟩:=hp
   obtain ⟨p0_,p1_,_⟩:=(show D 2=true→AllDone D [0,1] from hcl 2 (by decide)) p2_
   simp only [hD,p0_,p1_,p2_,cq,oT] at ht hs
   subst ht
   refine Qa6 rfl rfl (es:=(Qat (rdL a1 x5 Qao))) rfl rfl (fun _=>rfl) (n:=2) (fun _=>rfl) (QaG.len _) (cellsAt_of QaG Qao (hs.rd hr0) had3_ gd2.1 gd2.2) ?_
   show G _ _ _ _ [_,_,_,_,_,_,_,_,_,_,_,_,_,_,_,_,_,_,_,_,_,_,_,_,_,_,_] _
   refine hk _ _ ⟨O,?_,hs.cast ?_⟩<;>simp only [oT,lq,cq,Nat.reduceBEq,p0_,p1_,p2_]
  ·
   rintro D t w hD hp hcl ⟨O,ht,hs⟩ rest hk
   have hp:AllDone D []:=hp
   have q6_:=ny hcl 6 0 hD
   have q7_:=ny hcl 7 0 q6_
   simp only [hD,q6_,q7_,cq,oT] at ht hs
   subst ht
   refine Qaa (v:=v4) rfl rfl rfl ?_
   show G _ _ _ _ [_,_,_,_,_,_,_,_,_,_,_,_,_,_,_,_,_,_,_,_,_,_,_,_,_,_,_] _
   refine hk _ _ ⟨O,?_,hs.cast ?_⟩<;>simp only [oT,lq,cq,Nat.reduceBEq,q6_,q7_]
  ·
   rintro D t w hD hp hcl ⟨O,ht,hs⟩ rest hk
   have hp:AllDone D []:=hp
   have q6_:=ny hcl 6 1 hD
   have q7_:=ny hcl 7 0 q6_
   simp only [hD,q6_,q7_,cq,oT] at ht hs
   subst ht
   refine Qaa (v:=int .i64 x5) rfl rfl rfl ?_
   show G _ _ _ _ [_,_,_,_,_,_,_,_,_,_,_,_,_,_,_,_,_,_,_,_,_,_,_,_,_,_,_] _
   refine hk _ _ ⟨O,?_,hs.cast ?_⟩<;>simp only [oT,lq,cq,Nat.reduceBEq,q6_,q7_]
  ·
   rintro D t w hD hp hcl ⟨O,ht,hs⟩ rest hk
   have hp:AllDone D [4,5]:=hp
   obtain ⟨p4_,p5_,_⟩:=hp
   have q7_:=ny hcl 7 0 hD
   simp only [hD,p4_,p5_,q7_,cq,oT] at ht hs
   subst ht
   refine QbG (κ:=QaC) (m:=2) rfl (hs.rd hr1) rfl (fun _=>rfl) gd4.1 gd4.2 had5_ rfl rfl rfl rfl rfl ?_
   show G _ _ _ _ [_,_,_,_,_,_,_,_,_,_,_,_,_,_,_,_,_,_,_,_,_,_,_,_,_,_,_] _
   refine hk _ _ ⟨O,?_,hs.cast ?_⟩<;>simp only [oT,lq,cq,Nat.reduceBEq,p4_,p5_,q7_]
  ·
   rintro D t w hD hp hcl ⟨O,ht,hs⟩ rest hk
   have hp:AllDone D [6]:=hp
   obtain ⟨p6_,_⟩:=hp
   obtain ⟨p4_,p5_,_⟩:=(show D 6=true→AllDone D [4,5] from hcl 6 (by decide)) p6_
   simp only [hD,p4_,p5_,p6_,cq,oT] at ht hs
   subst ht
   refine Qa6 rfl rfl (es:=(Qat (rdL a3 x5 Qao))) rfl rfl (fun _=>rfl) (n:=2) (fun _=>rfl) (QaG.len _) (cellsAt_of QaG Qao (hs.rd hr1) had5_ gd4.1 gd4.2) ?_
   show G _ _ _ _ [_,_,_,_,_,_,_,_,_,_,_,_,_,_,_,_,_,_,_,_,_,_,_,_,_,_,_] _
   refine hk _ _ ⟨O,?_,hs.cast ?_⟩<;>simp only [oT,lq,cq,Nat.reduceBEq,p4_,p5_,p6_]
  intro D t w rest hall hO1_ hI
  obtain ⟨O,ht,hs⟩:=hI
  have p0_:=hall 0 (by decide) rfl
  have p1_:=hall 1 (by decide) rfl
  have p2_:=hall 2 (by decide) rfl
  have p3_:=hall 3 (by decide) rfl
  have p4_:=hall 4 (by decide) rfl
  have p5_:=hall 5 (by decide) rfl
  have p6_:=hall 6 (by decide) rfl
  have p7_:=hall 7 (by decide) rfl
  simp only [p0_,p1_,p2_,p3_,p4_,p5_,p6_,p7_,cq,oT] at ht hs
  subst ht
  obtain ⟨rest,rfl,hO6_⟩:=ord_one (m:=255) hO1_ rfl 8 (m':=511) (by decide+kernel) rfl
  clear hO1_
  obtain ⟨r6,Hr6,H⟩:=bind_get H
  refine Qaz (args:=[agg (Qat (rdL a1 x5 Qao)).toArray,agg (Qat (rdL a3 x5 Qao)).toArray]) rfl rfl (Qaw rfl (callFunc_enter Tryd.func50 rfl rfl) rfl) (Qba.calls (a1:=rdL a1 x5 Qao) (a2:=rdL a3 x5 Qao) Hr6) ?_
  rintro _ w ⟨rfl,hs2⟩
  have hs:St _ [] _:=hs.call hs2
  cases r6 with
  |true=>
   rw [if_pos rfl] at H
   show G _ _ _ _ [_,_,_,_,_,_,_,_,_,_,_,_,_,_,_,_,_,_,_,_,_,_,_,_,_,_,_] _
   obtain ⟨rest,rfl,hO7_⟩:=ord_one (m:=511) hO6_ rfl 9 (m':=1023) (by decide+kernel) rfl
   clear hO6_
   refine Qaa (v:=bool false) rfl rfl rfl ?_
   obtain rfl:=ord_end hO7_ rfl (by decide+kernel)
   refine Qab (Qag rfl (Qay ?_))
   refine QaB (Qaj [0,1,2] rfl ?_)
   refine Qaa (v:=int .i64 x5) rfl rfl rfl ?_
   refine Qaa (v:=int .i64 (i64w (x5+1))) rfl rfl rfl ?_
   refine Qaa (v:=int .i64 (i64w (x5+1))) rfl rfl rfl ?_
   show G _ _ _ _ [_,_,_,_,_,_,_,_,_,_,_,_,_,_,_,_,_,_,_,_,_,_,_,_,_,_,_] _
   refine Qab ?_
   obtain rfl:=QsJ H
   have hs:St _ [] _:=St.take (Γ':=[]) hs
   exact ih1_ _ _ ⟨i64w (x5+1),Hx1_,rfl,hs⟩
  |false=>
   rw [if_neg Bool.false_ne_true] at H
   show G _ _ _ _ [_,_,_,_,_,_,_,_,_,_,_,_,_,_,_,_,_,_,_,_,_,_,_,_,_,_,_] _
   obtain ⟨rest,rfl,hO8_⟩:=ord_one (m:=511) hO6_ rfl 9 (m':=1023) (by decide+kernel) rfl
   clear hO6_
   refine Qaa (v:=bool true) rfl rfl rfl ?_
   obtain rfl:=ord_end hO8_ rfl (by decide+kernel)
   refine Qab (Qap rfl (Qad (Qaj [0] rfl ?_)))
   refine Qaa (v:=bool false) rfl rfl rfl (Qab ?_)
   obtain rfl:=QsJ H
   subst Hx1_
   have H:=QsJ Hr1_
   subst H
   refine Qax Tryd.func24 (v:=bool false) (res1 rfl rfl) ?_
   have hs:St _ [] _:=St.take (Γ':=[]) hs
   exact ⟨_,rfl,rfl,hs⟩
 intro hb
 rw [if_neg (b_dec_f hb)] at H
 refine Qab (Qag rfl ?_)
 obtain rfl:=QsJ H
 subst Hx1_
 have hs:St _ [] _:=St.take (Γ':=[]) hs
 refine Qbh rfl ?_
 exact ha1_ _ _ ⟨Hr1_,rfl,hs⟩
def Qa7.post (w0:World) (r:Bool) (v:Value) (w:World):Prop:=v=bool r∧St w0 [] w
theorem Qa7.calls {N:Nat} {a1:Qar} {a4:Qar} {v2:Value} {v5:Value} {w0:World} {r:Bool} (hr3:RdRow QaC w0 v2 a1.Qaf) (hr6:RdRow QaC w0 v5 a4.Qaf) (H:Qa7.f N a1 a4=some r):
 Calls Tryd.prog 9 #[agg (([int .i8 a1.Qac,int .i8 a1.Qak,v2]:List Value)).toArray,agg (([int .i8 a4.Qac,int .i8 a4.Qak,v5]:List Value)).toArray] w0 fun e w=>∃ v,e= .returned v∧Qa7.post w0 r v w:=by
 unfold Qa7.f at H
 have hs:St w0 [] w0:=St.refl w0
 refine calls_of_g (n:=19) Tryd.func9 rfl rfl ?_
 show G _ _ _ _ [_,_,_,_,_,_,_,_,_,_,_,_,_,_,_,_,_,_,_,_,_] _
 refine Qad (Qaj [0,1,2] rfl ?_)
 refine Qbf hs rfl rfl (cs:=(([int .i8 a1.Qac,int .i8 a1.Qak,v2]:List Value))) rfl rfl ?_
 intro b7 w hs
 show G _ _ _ _ [_,_,_,_,_,_,_,_,_,_,_,_,_,_,_,_,_,_,_,_,_] _
 refine Qbf hs rfl rfl (cs:=(([int .i8 a4.Qac,int .i8 a4.Qak,v5]:List Value))) rfl rfl ?_
 intro b9 w hs
 refine Qaa (v:=bool false) rfl rfl rfl (Qab (Qad (Qad (Qaj [0,1,2,3,4] rfl ?_))))
 refine Qaa (v:=pointer (some ⟨b7,0,none⟩)) rfl rfl rfl ?_
 show G _ _ _ _ [_,_,_,_,_,_,_,_,_,_,_,_,_,_,_,_,_,_,_,_,_] _
 refine QaH rfl rfl (v:=int .i8 a1.Qac) rfl rfl (fun _=>rfl) (cells_load (hs.cells 1 rfl) 0 1 rfl) ?_
 refine Qaa (v:=pointer (some ⟨b9,0,none⟩)) rfl rfl rfl ?_
 refine QaH rfl rfl (v:=int .i8 a4.Qac) rfl rfl (fun _=>rfl) (cells_load (hs.cells 0 rfl) 0 1 rfl) ?_
 show G _ _ _ _ [_,_,_,_,_,_,_,_,_,_,_,_,_,_,_,_,_,_,_,_,_] _
 refine Qau (B:=a1.Qac !=a4.Qac) rfl rfl rfl ?_ ?_
 ·
  intro hb
  rw [if_neg (b_bne_t hb)] at H
  refine Qab (Qap rfl (Qad (Qaj [0] rfl ?_)))
  refine Qaa (v:=bool false) rfl rfl rfl ?_
  show G _ _ _ _ [_,_,_,_,_,_,_,_,_,_,_,_,_,_,_,_,_,_,_,_,_] _
  refine Qab ?_
  obtain rfl:=QsJ H
  refine Qax Tryd.func9 (v:=bool false) (res1 rfl rfl) ?_
  have hs:St _ [] _:=St.take (Γ':=[_,_]) hs
  exact ⟨_,rfl,rfl,hs⟩
 intro hb
 rw [if_pos (b_bne_f hb)] at H
 refine Qab (Qag rfl (Qay (Qad (Qad (Qaj [0,1,2,3,4] rfl ?_)))))
 refine Qaa (v:=pointer (some ⟨b7,1,none⟩)) rfl rfl rfl ?_
 refine QaH rfl rfl (v:=int .i8 a1.Qak) rfl rfl (fun _=>rfl) (cells_load (hs.cells 1 rfl) 1 1 rfl) ?_
 show G _ _ _ _ [_,_,_,_,_,_,_,_,_,_,_,_,_,_,_,_,_,_,_,_,_] _
 refine Qaa (v:=pointer (some ⟨b9,1,none⟩)) rfl rfl rfl ?_
 refine QaH rfl rfl (v:=int .i8 a4.Qak) rfl rfl (fun _=>rfl) (cells_load (hs.cells 0 rfl) 1 1 rfl) ?_
 refine Qau (B:=a1.Qak !=a4.Qak) rfl rfl rfl ?_ ?_
 ·
  intro hb
  rw [if_neg (b_bne_t hb)] at H
  refine Qab (Qap rfl (Qad (Qaj [0] rfl ?_)))
  refine Qaa (v:=bool false) rfl rfl rfl (Qab ?_)
  obtain rfl:=QsJ H
  refine Qax Tryd.func9 (v:=bool false) (res1 rfl rfl) ?_
  have hs:St _ [] _:=St.take (Γ':=[_,_]) hs
  exact ⟨_,rfl,rfl,hs⟩
 intro hb
 rw [if_pos (b_bne_f hb)] at H
 show G _ _ _ _ [_,_,_,_,_,_,_,_,_,_,_,_,_,_,_,_,_,_,_,_,_] _
 refine Qab (Qag rfl (Qay (Qad (Qad (Qaj [0,1,2,3,4,5] rfl ?_)))))
 refine Qaa (v:=pointer (some ⟨b7,2,none⟩)) rfl rfl rfl ?_
 refine QaH rfl rfl (v:=v2) rfl rfl (fun _=>rfl) (cells_load (hs.cells 1 rfl) 2 1 rfl) ?_
 refine Qaa (v:=pointer (some ⟨b9,2,none⟩)) rfl rfl rfl ?_
 show G _ _ _ _ [_,_,_,_,_,_,_,_,_,_,_,_,_,_,_,_,_,_,_,_,_] _
 refine QaH rfl rfl (v:=v5) rfl rfl (fun _=>rfl) (cells_load (hs.cells 0 rfl) 2 1 rfl) ?_
 obtain ⟨r11,Hr11,H⟩:=bind_get H
 refine Qaz (args:=[v2,v5]) rfl rfl (Qaw rfl (callFunc_enter Tryd.func24 rfl rfl) rfl) (QaL.calls (a1:=a1.Qaf) (a3:=a4.Qaf) (hs.rd hr3) (hs.rd hr6) Hr11) ?_
 rintro _ w ⟨rfl,hs2⟩
 have hs:St _ [_,_] _:=hs.call hs2
 cases r11 with
 |true=>
  rw [if_pos rfl] at H
  refine Qaa (v:=bool false) rfl rfl rfl ?_
  show G _ _ _ _ [_,_,_,_,_,_,_,_,_,_,_,_,_,_,_,_,_,_,_,_,_] _
  refine Qab (Qag rfl (Qay (Qad (Qaj [0] rfl ?_))))
  refine Qaa (v:=bool true) rfl rfl rfl (Qab ?_)
  obtain rfl:=QsJ H
  refine Qax Tryd.func9 (v:=bool true) (res1 rfl rfl) ?_
  have hs:St _ [] _:=St.take (Γ':=[_,_]) hs
  exact ⟨_,rfl,rfl,hs⟩
 |false=>
  rw [if_neg Bool.false_ne_true] at H
  refine Qaa (v:=bool true) rfl rfl rfl ?_
  show G _ _ _ _ [_,_,_,_,_,_,_,_,_,_,_,_,_,_,_,_,_,_,_,_,_] _
  refine Qab (Qap rfl (Qad (Qaj [0] rfl ?_)))
  refine Qaa (v:=bool false) rfl rfl rfl (Qab ?_)
  obtain rfl:=QsJ H
  refine Qax Tryd.func9 (v:=bool false) (res1 rfl rfl) ?_
  have hs:St _ [] _:=St.take (Γ':=[_,_]) hs
  exact ⟨_,rfl,rfl,hs⟩
def QaN.post (w0:World) (r:Bool) (v:Value) (w:World):Prop:=v=bool r∧St w0 [] w
theorem QaN.calls {N : Nat} {a1 : QaI} {v2 : Value} {w0 : World} {r : Bool} (htab : Lib.TabIs Tryd.prog w0 "internal/strconv.uint64pow10" .u64 Lib.pow10Tab) (hdbr : CellU w0 5 15 4) (hr3 : RdRow QaC w0 v2 a1.Qaf) (H : QaN.f N a1 = some r) :
 Calls Tryd.prog 3 #[agg (([int .i8 a1.Qac,int .i8 a1.Qak,v2]:List Value)).toArray] w0 fun e w=>∃ v,e= .returned v∧QaN.post w0 r v w:=by
 unfold QaN.f at H
 have hs:St w0 [] w0:=St.refl w0
 refine calls_of_g (n:=26) Tryd.func3 rfl rfl ?_
 show G _ _ _ _ [_,_,_,_,_,_,_,_,_,_,_,_,_,_,_,_,_,_,_,_,_,_,_,_,_,_,_] _
 refine Qad (Qaj [0,1] rfl ?_)
 refine Qbf hs rfl rfl (cs:=(([int .i8 a1.Qac,int .i8 a1.Qak,v2]:List Value))) rfl rfl ?_
 intro b4 w hs
 refine Qaa (v:=bool false) rfl rfl rfl (Qab (Qad (Qaj [0] rfl ?_)))
 refine Qaa (v:=int .i64 1048576) rfl rfl rfl ?_
 show G _ _ _ _ [_,_,_,_,_,_,_,_,_,_,_,_,_,_,_,_,_,_,_,_,_,_,_,_,_,_,_] _
 refine Qab (Qad (Qaj [0,1,2,3] rfl ?_))
 refine Qa6 rfl rfl (es:=(([int .i8 a1.Qac,int .i8 a1.Qak,v2]:List Value))) rfl rfl (fun _=>rfl) (n:=3) (fun _=>rfl) rfl (cells_all (hs.cells 0 rfl)) ?_
 refine Qaa (v:=int .i64 1048576) rfl rfl rfl ?_
 obtain ⟨r6,Hr6,H⟩:=bind_get H
 refine Qaz (args:=[agg (([int .i8 a1.Qac,int .i8 a1.Qak,v2]:List Value)).toArray,int .i64 1048576]) rfl rfl (Qaw rfl (callFunc_enter Tryd.func5 rfl rfl) rfl) (Qa0.calls (a1:=(⟨a1.Qac,a1.Qak,a1.Qaf⟩:QaI)) (a4:=1048576) (hs.rd hr3) Hr6) ?_
 rintro _ w ⟨rfl,hs2⟩
 have hs:St _ [_] _:=hs.call hs2
 refine Qaa (v:=int .i64 r6) rfl rfl rfl ?_
 show G _ _ _ _ [_,_,_,_,_,_,_,_,_,_,_,_,_,_,_,_,_,_,_,_,_,_,_,_,_,_,_] _
 refine Qab (Qad (Qad (Qaj [0,1] rfl ?_)))
 refine Qaa (v:=int .i64 r6) rfl rfl rfl ?_
 refine Qau (B:=decide (r6< 0)) rfl rfl rfl ?_ ?_
 ·
  intro hb
  rw [if_pos (b_dec_t hb)] at H
  show G _ _ _ _ [_,_,_,_,_,_,_,_,_,_,_,_,_,_,_,_,_,_,_,_,_,_,_,_,_,_,_] _
  refine Qab (Qap rfl (Qad (Qaj [0] rfl ?_)))
  refine Qaa (v:=bool true) rfl rfl rfl (Qab ?_)
  obtain rfl:=QsJ H
  refine Qax Tryd.func3 (v:=bool true) (res1 rfl rfl) ?_
  have hs:St _ [] _:=St.take (Γ':=[_]) hs
  exact ⟨_,rfl,rfl,hs⟩
 intro hb
 rw [if_neg (b_dec_f hb)] at H
 refine Qab (Qag rfl (Qay (Qad (Qaj [0,1,2,3] rfl ?_))))
 refine Qa6 rfl rfl (es:=(([int .i8 a1.Qac,int .i8 a1.Qak,v2]:List Value))) rfl rfl (fun _=>rfl) (n:=3) (fun _=>rfl) rfl (cells_all (hs.cells 0 rfl)) ?_
 obtain ⟨r7,Hr7,H⟩:=bind_get H
 refine Qaz (args:=[agg (([int .i8 a1.Qac,int .i8 a1.Qak,v2]:List Value)).toArray]) rfl rfl (Qaw rfl (callFunc_enter Tryd.func7 rfl rfl) rfl) (QaV.calls (a1:=(⟨a1.Qac,a1.Qak,a1.Qaf⟩:QaI)) (hs.rd hr3) Hr7) ?_
 rintro _ w ⟨v8,rfl,hs2⟩
 have hs:St _ [_,_] _:=hs.call hs2
 show G _ _ _ _ [_,_,_,_,_,_,_,_,_,_,_,_,_,_,_,_,_,_,_,_,_,_,_,_,_,_,_] _
 obtain ⟨r10,Hr10,H⟩:=bind_get H
 refine Qaz (args:=[agg (([int .i8 r7.Qac,int .i8 r7.Qak,v8]:List Value)).toArray]) rfl rfl (Qaw rfl (callFunc_enter Tryd.func6 rfl rfl) rfl) (QaY.calls (a1:=(⟨r7.Qac,r7.Qak,r7.Qaf⟩:Qar)) (hs.row 0 rfl) Hr10) ?_
 rintro _ w ⟨rfl,hs2⟩
 have hs:St _ [_,_] _:=hs.call hs2
 refine Qaa (v:=string r10) rfl rfl rfl (Qab (Qad (Qaj [0,1,2,3] rfl ?_)))
 refine Qa6 rfl rfl (es:=(([int .i8 a1.Qac,int .i8 a1.Qak,v2]:List Value))) rfl rfl (fun _=>rfl) (n:=3) (fun _=>rfl) rfl (cells_all (hs.cells 1 rfl)) ?_
 show G _ _ _ _ [_,_,_,_,_,_,_,_,_,_,_,_,_,_,_,_,_,_,_,_,_,_,_,_,_,_,_] _
 obtain ⟨r11,Hr11,H⟩:=bind_get H
 refine Qaz (args:=[agg (([int .i8 a1.Qac,int .i8 a1.Qak,v2]:List Value)).toArray]) rfl rfl (Qaw rfl (callFunc_enter Tryd.func7 rfl rfl) rfl) (QaV.calls (a1:=(⟨a1.Qac,a1.Qak,a1.Qaf⟩:QaI)) (hs.rd hr3) Hr11) ?_
 rintro _ w ⟨v12,rfl,hs2⟩
 have hs:St _ [_,_,_] _:=hs.call hs2
 refine Qbe hs rfl rfl (z:=(agg #[int .i8 0,int .i8 0,slice none 0 0])) (cs:=(([int .i8 0,int .i8 0,slice none 0 0]:List Value))) rfl (fun _=>rfl) rfl ?_
 intro b14 w hs
 refine Qbj (n:=3) hs rfl rfl rfl (vs:=(([int .i8 r11.Qac,int .i8 r11.Qak,v12]:List Value))) rfl rfl rfl (fun _=>rfl) rfl (by intro v hv;simp only [List.mem_append,List.mem_cons,List.not_mem_nil,or_false] at hv;repeat (first|(subst hv;first|rfl|exact slOne (hs.row 1 rfl))|(rcases hv with hv|hv))) ?_
 intro w hs
 refine Qab (Qad (Qaj [0,1,2] rfl ?_))
 refine Qa6 rfl rfl (es:=(([int .i8 r11.Qac,int .i8 r11.Qak,v12]:List Value))) rfl rfl (fun _=>rfl) (n:=3) (fun _=>rfl) rfl (cells_all (hs.cells 0 rfl)) ?_
 show G _ _ _ _ [_,_,_,_,_,_,_,_,_,_,_,_,_,_,_,_,_,_,_,_,_,_,_,_,_,_,_] _
 obtain ⟨r16,Hr16,H⟩:=bind_get H
 refine Qaz (args:=[agg (([int .i8 r11.Qac,int .i8 r11.Qak,v12]:List Value)).toArray]) rfl rfl (Qaw rfl (callFunc_enter Tryd.func8 rfl rfl) rfl) (QaD.calls (a1:=(⟨r11.Qac,r11.Qak,r11.Qaf⟩:Qar)) (hs.tab htab) (hs.cellU hdbr) (hs.row 1 rfl) Hr16) ?_
 rintro _ w ⟨rfl,hs2⟩
 have hs:St _ [_,_,_,_] _:=hs.call hs2
 refine Qaa (v:=string r16) rfl rfl rfl (Qab (Qad (Qad (Qaj [0,1,2] rfl ?_))))
 refine Qaa (v:=string r16) rfl rfl rfl ?_
 refine Qaa (v:=string r10) rfl rfl rfl ?_
 refine Qau (B:=!(r16.toList==r10.toList)) rfl rfl rfl ?_ ?_
 ·
  intro hb
  rw [if_neg (b_nbeq_t hb)] at H
  refine Qab (Qap rfl (Qad (Qaj [0] rfl ?_)))
  refine Qaa (v:=bool false) rfl rfl rfl ?_
  show G _ _ _ _ [_,_,_,_,_,_,_,_,_,_,_,_,_,_,_,_,_,_,_,_,_,_,_,_,_,_,_] _
  refine Qab ?_
  obtain rfl:=QsJ H
  refine Qax Tryd.func3 (v:=bool false) (res1 rfl rfl) ?_
  have hs:St _ [] _:=St.take (Γ':=[_,_,_,_]) hs
  exact ⟨_,rfl,rfl,hs⟩
 intro hb
 rw [if_pos (b_nbeq_f hb)] at H
 show G _ _ _ _ [_,_,_,_,_,_,_,_,_,_,_,_,_,_,_,_,_,_,_,_,_,_,_,_,_,_,_] _
 refine Qab (Qag rfl (Qay (Qad (Qad ?_))))
 refine Qbz (n:=5) rfl [0,1,2,3,4] [0,1,2,3,4] rfl rfl ?_
 intro rest w hh hbw hO
 have hs:=hs.samew hh hbw
 show G _ _ _ _ [_,_,_,_,_,_,_,_,_,_,_,_,_,_,_,_,_,_,_,_,_,_,_,_,_,_,_] _
 obtain ⟨r17,Hr17,H⟩:=bind_get H
 refine Qbn ?_
 intro T hT
 refine Qbo (m0:=0) hO rfl 7 [0,1,2] [0,0,2,7,15] (by decide+kernel) (fun D t w=>∃ v18:Value,∃ O:Nat→Value,t=[agg (([int .i8 a1.Qac,int .i8 a1.Qak,v2]:List Value)).toArray,pointer (some ⟨b4,0,none⟩),bool false,int .i64 r6,string r10,pointer (some ⟨b14,0,none⟩),string r16,agg (([int .i8 a1.Qac,int .i8 a1.Qak,v2]:List Value)).toArray,int .i64 1048576,int .i64 r6,int .i64 r6,bool false,agg (([int .i8 a1.Qac,int .i8 a1.Qak,v2]:List Value)).toArray,agg (([int .i8 r7.Qac,int .i8 r7.Qak,v8]:List Value)).toArray,string r10,agg (([int .i8 a1.Qac,int .i8 a1.Qak,v2]:List Value)).toArray,agg (([int .i8 r11.Qac,int .i8 r11.Qak,v12]:List Value)).toArray,agg (([int .i8 r11.Qac,int .i8 r11.Qak,v12]:List Value)).toArray,string r16,string r16,string r10,bool false,cnd (D 0) (agg (([int .i8 r11.Qac,int .i8 r11.Qak,v12]:List Value)).toArray) (O 22),cnd (D 1) (agg (([int .i8 a1.Qac,int .i8 a1.Qak,v2]:List Value)).toArray) (O 23),cnd (D 2) (agg (([int .i8 r17.Qac,int .i8 r17.Qak,v18]:List Value)).toArray) (O 24),O 25,O 26]∧St w0 [Asc (D 2) (Row 55 QaC v18 r17.Qaf),Cells b14 (([int .i8 r11.Qac,int .i8 r11.Qak,v12]:List Value)) 30,Row 55 QaC v12 r11.Qaf,Row 55 QaC v8 r7.Qaf,Cells b4 (([int .i8 a1.Qac,int .i8 a1.Qak,v2]:List Value)) 25] w) ?_ ⟨?_,⟨?_,⟨?_,trivial⟩⟩⟩ ?_
 ·
  have hs:=hs.emp
  exact ⟨undef,fun i=>T.getD i undef,(by subst hT;rfl),hs⟩
 ·
  rintro D t w hD hp hcl ⟨v18,O,ht,hs⟩ rest hk
  have hp:AllDone D []:=hp
  simp only [hD,cq,oT] at ht hs
  subst ht
  refine Qa6 rfl rfl (es:=(([int .i8 r11.Qac,int .i8 r11.Qak,v12]:List Value))) rfl rfl (fun _=>rfl) (n:=3) (fun _=>rfl) rfl (cells_all (hs.cells 1 rfl)) ?_
  show G _ _ _ _ [_,_,_,_,_,_,_,_,_,_,_,_,_,_,_,_,_,_,_,_,_,_,_,_,_,_,_] _
  refine hk _ _ ⟨v18,O,?_,hs.cast ?_⟩<;>simp only [oT,lq,cq,Nat.reduceBEq]
 ·
  rintro D t w hD hp hcl ⟨v18,O,ht,hs⟩ rest hk
  have hp:AllDone D []:=hp
  have q2_:=ny hcl 2 0 hD
  simp only [hD,q2_,cq,oT] at ht hs
  subst ht
  refine Qa6 rfl rfl (es:=(([int .i8 a1.Qac,int .i8 a1.Qak,v2]:List Value))) rfl rfl (fun _=>rfl) (n:=3) (fun _=>rfl) rfl (cells_all (hs.cells 4 rfl)) ?_
  show G _ _ _ _ [_,_,_,_,_,_,_,_,_,_,_,_,_,_,_,_,_,_,_,_,_,_,_,_,_,_,_] _
  refine hk _ _ ⟨v18,O,?_,hs.cast ?_⟩<;>simp only [oT,lq,cq,Nat.reduceBEq,q2_]
 ·
  rintro D t w hD hp hcl ⟨v18,O,ht,hs⟩ rest hk
  have hp:AllDone D [1]:=hp
  obtain ⟨p1_,_⟩:=hp
  simp only [hD,p1_,cq,oT] at ht hs
  subst ht
  refine Qaz (args:=[agg (([int .i8 a1.Qac,int .i8 a1.Qak,v2]:List Value)).toArray]) rfl rfl (Qaw rfl (callFunc_enter Tryd.func7 rfl rfl) rfl) (QaV.calls (a1:=(⟨a1.Qac,a1.Qak,a1.Qaf⟩:QaI)) (hs.rd hr3) Hr17) ?_
  rintro _ w ⟨v18,rfl,hs2⟩
  have hs:St _ [_,_,_,_,_,_] _:=hs.call hs2
  show G _ _ _ _ [_,_,_,_,_,_,_,_,_,_,_,_,_,_,_,_,_,_,_,_,_,_,_,_,_,_,_] _
  have hs:=hs.fill 0 rfl
  refine hk _ _ ⟨v18,O,?_,hs.cast ?_⟩<;>simp only [oT,lq,cq,Nat.reduceBEq,p1_]
 intro D t w rest hall hO1_ hI
 obtain ⟨v18,O,ht,hs⟩:=hI
 have p0_:=hall 0 (by decide) rfl
 have p1_:=hall 1 (by decide) rfl
 have p2_:=hall 2 (by decide) rfl
 simp only [p0_,p1_,p2_,cq,oT] at ht hs
 subst ht
 obtain ⟨rest,rfl,hO2_⟩:=ord_one (m:=7) hO1_ rfl 3 (m':=15) (by decide+kernel) rfl
 clear hO1_
 obtain ⟨r21,Hr21,H⟩:=bind_get H
 refine Qaz (args:=[agg (([int .i8 r11.Qac,int .i8 r11.Qak,v12]:List Value)).toArray,agg (([int .i8 r17.Qac,int .i8 r17.Qak,v18]:List Value)).toArray]) rfl rfl (Qaw rfl (callFunc_enter Tryd.func9 rfl rfl) rfl) (Qa7.calls (a1:=(⟨r11.Qac,r11.Qak,r11.Qaf⟩:Qar)) (a4:=(⟨r17.Qac,r17.Qak,r17.Qaf⟩:Qar)) (hs.row 2 rfl) (hs.row 0 rfl) Hr21) ?_
 rintro _ w ⟨rfl,hs2⟩
 have hs:St _ [_,_,_,_,_] _:=hs.call hs2
 cases r21 with
 |true=>
  rw [if_pos rfl] at H
  obtain ⟨rest,rfl,hO3_⟩:=ord_one (m:=15) hO2_ rfl 4 (m':=31) (by decide+kernel) rfl
  clear hO2_
  refine Qaa (v:=bool false) rfl rfl rfl ?_
  obtain rfl:=ord_end hO3_ rfl (by decide+kernel)
  refine Qab (Qag rfl (Qay (Qad (Qaj [0] rfl ?_))))
  refine Qaa (v:=bool true) rfl rfl rfl ?_
  show G _ _ _ _ [_,_,_,_,_,_,_,_,_,_,_,_,_,_,_,_,_,_,_,_,_,_,_,_,_,_,_] _
  refine Qab ?_
  obtain rfl:=QsJ H
  refine Qax Tryd.func3 (v:=bool true) (res1 rfl rfl) ?_
  have hs:St _ [] _:=St.take (Γ':=[_,_,_,_,_]) hs
  exact ⟨_,rfl,rfl,hs⟩
 |false=>
  rw [if_neg Bool.false_ne_true] at H
  obtain ⟨rest,rfl,hO4_⟩:=ord_one (m:=15) hO2_ rfl 4 (m':=31) (by decide+kernel) rfl
  clear hO2_
  refine Qaa (v:=bool true) rfl rfl rfl ?_
  obtain rfl:=ord_end hO4_ rfl (by decide+kernel)
  refine Qab (Qap rfl (Qad (Qaj [0] rfl ?_)))
  refine Qaa (v:=bool false) rfl rfl rfl ?_
  show G _ _ _ _ [_,_,_,_,_,_,_,_,_,_,_,_,_,_,_,_,_,_,_,_,_,_,_,_,_,_,_] _
  refine Qab ?_
  obtain rfl:=QsJ H
  refine Qax Tryd.func3 (v:=bool false) (res1 rfl rfl) ?_
  have hs:St _ [] _:=St.take (Γ':=[_,_,_,_,_]) hs
  exact ⟨_,rfl,rfl,hs⟩
end Go.Proofs.YtljkpeeabpdalaaDoorX
