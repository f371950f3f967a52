import Derived.Test.YtblbfnngmeoipaaGreatDoorP8
import Derived.Test.YtblbfnngmeoipaaGreatDoorP9
namespace Go.Proofs.YtblbfnngmeoipaaGreatDoorX
open Go Go.RowKit Go.Proofs
open Go.Value (int pointer bool agg slice string tuple)
set_option maxHeartbeats 8000000
set_option maxRecDepth 100000
set_option linter.unusedVariables false
set_option linter.unusedSimpArgs false
def Qbq.post (w0:World) (r:Int) (v:Value) (w:World):Prop:=v=int .i64 r∧St w0 [] w
theorem Qbq.calls {N:Nat} {a1:Qaf} {a4:Qak} {a5:Int} {v2:Value} {w0:World} {r:Int} (hr3:RdRow (K.int .u16) w0 v2 a1.Qal) (H:Qbq.f N a1 a4 a5=some r):
 Calls Tryz.prog 55 #[agg (([int .i8 a1.Qad,int .i8 a1.Qag,v2]:List Value)).toArray,agg (Qaa a4).toArray,int .u16 a5] w0 fun e w=>∃ v,e= .returned v∧Qbq.post w0 r v w:=by
 unfold Qbq.f at H
 have hs:St w0 [] w0:=St.refl w0
 refine calls_of_g (n:=30) Tryz.func55 rfl rfl ?_
 show G _ _ _ _ [_,_,_,_,_,_,_,_,_,_,_,_,_,_,_,_,_,_,_,_,_,_,_,_,_,_,_,_,_,_,_,_,_] _
 refine Qaj (Qan [0,1,2] rfl ?_)
 refine Qbw hs rfl rfl (cs:=(([int .i8 a1.Qad,int .i8 a1.Qag,v2]:List Value))) rfl rfl ?_
 intro b6 w hs
 show G _ _ _ _ [_,_,_,_,_,_,_,_,_,_,_,_,_,_,_,_,_,_,_,_,_,_,_,_,_,_,_,_,_,_,_,_,_] _
 refine Qbw hs rfl rfl (cs:=(Qaa a4)) rfl rfl ?_
 intro b8 w hs
 refine Qab (v:=int .i64 0) rfl rfl rfl (Qac (Qaj (Qan [0,1,2,3,4,5,6,7] rfl ?_)))
 refine QaF rfl rfl (es:=(([int .i8 a1.Qad,int .i8 a1.Qag,v2]:List Value))) rfl rfl (fun _=>rfl) (n:=3) (fun _=>rfl) rfl (cells_all (hs.cells 1 rfl)) ?_
 show G _ _ _ _ [_,_,_,_,_,_,_,_,_,_,_,_,_,_,_,_,_,_,_,_,_,_,_,_,_,_,_,_,_,_,_,_,_] _
 refine QaF rfl rfl (es:=(Qaa a4)) rfl rfl (fun _=>rfl) (n:=2) (fun _=>rfl) (Qam.len _) (cells_all (hs.cells 0 rfl)) ?_
 obtain ⟨r10,Hr10,H⟩:=bind_get H
 refine Qaz (args:=[agg (([int .i8 a1.Qad,int .i8 a1.Qag,v2]:List Value)).toArray,agg (Qaa a4).toArray]) rfl rfl (QaA rfl (callFunc_enter Tryz.func80 rfl rfl) rfl) (QbF.calls (a1:=(⟨a1.Qad,a1.Qag,a1.Qal⟩:Qaf)) (a4:=a4) (hs.rd hr3) Hr10) ?_
 rintro _ w ⟨rfl,hs2⟩
 have hs:St _ [_,_] _:=hs.call hs2
 refine Qab (v:=tuple #[int .u16 r10.1,int .u16 r10.2]) rfl rfl rfl ?_
 refine Qab (v:=int .u16 r10.1) rfl rfl rfl ?_
 refine Qab (v:=int .u16 r10.2) rfl rfl rfl ?_
 refine Qab (v:=int .u16 r10.1) rfl rfl rfl ?_
 show G _ _ _ _ [_,_,_,_,_,_,_,_,_,_,_,_,_,_,_,_,_,_,_,_,_,_,_,_,_,_,_,_,_,_,_,_,_] _
 refine Qab (v:=int .u16 r10.2) rfl rfl rfl (Qac (Qaj ?_))
 refine QbG (Qaj (Qan [0,1,2,3,4] rfl ?_))
 refine Qab (v:=int .u16 a5) rfl rfl rfl ?_
 refine Qab (v:=int .u16 r10.1) rfl rfl rfl ?_
 obtain ⟨r11,Hr11,H⟩:=bind_get H
 refine Qaz (args:=[int .u16 a5,int .u16 r10.1]) rfl rfl (QaA rfl (callFunc_enter Tryz.func53 rfl rfl) rfl) (Qby.calls (a1:=a5) (a2:=r10.1) Hr11) ?_
 rintro _ w ⟨rfl,hs2⟩
 have hs:St _ [_,_] _:=hs.call hs2
 cases r11 with
 |true=>
  rw [if_pos rfl] at H
  refine Qab (v:=bool false) rfl rfl rfl ?_
  refine Qab (v:=bool false) rfl rfl rfl ?_
  show G _ _ _ _ [_,_,_,_,_,_,_,_,_,_,_,_,_,_,_,_,_,_,_,_,_,_,_,_,_,_,_,_,_,_,_,_,_] _
  refine Qac (Qas rfl (Qaj ?_))
  refine Qck (n:=7) rfl [0,1,2,3,4,5,6] [0,1,2,3,4,5,6] rfl rfl ?_
  intro rest w hh hbw hO
  have hs:=hs.samew hh hbw
  show G _ _ _ _ [_,_,_,_,_,_,_,_,_,_,_,_,_,_,_,_,_,_,_,_,_,_,_,_,_,_,_,_,_,_,_,_,_] _
  obtain ⟨r12,Hr12,H⟩:=bind_get H
  refine QaV ?_
  intro T hT
  refine Qbb (m0:=0) hO rfl 31 [0,1,2,3,4] [0,1,0,4,12,31,63] (by decide+kernel) (fun D t w=>∃ O:Nat→Value,t=[agg (([int .i8 a1.Qad,int .i8 a1.Qag,v2]:List Value)).toArray,agg (Qaa a4).toArray,int .u16 a5,pointer (some ⟨b6,0,none⟩),pointer (some ⟨b8,0,none⟩),O 5,int .i64 0,int .u16 r10.1,int .u16 r10.2,tuple #[int .u16 r10.1,int .u16 r10.2],agg (([int .i8 a1.Qad,int .i8 a1.Qag,v2]:List Value)).toArray,agg (Qaa a4).toArray,tuple #[int .u16 r10.1,int .u16 r10.2],int .u16 r10.1,int .u16 r10.2,bool false,int .u16 a5,int .u16 r10.1,bool true,bool false,O 20,cnd (D 0) (int .u16 a5) (O 21),cnd (D 1) (int .i64 r12) (O 22),cnd (D 2) (pointer (some ⟨b6,1,none⟩)) (O 23),cnd (D 3) (int .i8 a1.Qag) (O 24),cnd (D 4) (int .i64 (i64w a1.Qag)) (O 25),O 26,O 27,O 28,O 29,O 30,O 31,O 32]∧St w0 [Cells b8 (Qaa a4) 48,Cells b6 (([int .i8 a1.Qad,int .i8 a1.Qag,v2]:List Value)) 27] w) ?_ ⟨?_,⟨?_,⟨?_,⟨?_,⟨?_,trivial⟩⟩⟩⟩⟩ ?_
  ·exact ⟨fun i=>T.getD i undef,(by subst hT;rfl),hs⟩
  ·
   rintro D t w hD hp hcl ⟨O,ht,hs⟩ rest hk
   have hp:AllDone D []:=hp
   have q1_:=ny hcl 1 0 hD
   simp only [hD,q1_,cq,oT] at ht hs
   subst ht
   refine Qab (v:=int .u16 a5) rfl rfl rfl ?_
   show G _ _ _ _ [_,_,_,_,_,_,_,_,_,_,_,_,_,_,_,_,_,_,_,_,_,_,_,_,_,_,_,_,_,_,_,_,_] _
   refine hk _ _ ⟨O,?_,hs.cast ?_⟩<;>simp only [oT,lq,cq,Nat.reduceBEq,q1_]
  ·
   rintro D t w hD hp hcl ⟨O,ht,hs⟩ rest hk
   have hp:AllDone D [0]:=hp
   obtain ⟨p0_,_⟩:=hp
   simp only [hD,p0_,cq,oT] at ht hs
   subst ht
   refine Qaz (args:=[int .u16 a5]) rfl rfl (QaA rfl (callFunc_enter Tryz.func54 rfl rfl) rfl) (QbD.calls (a1:=a5) Hr12) ?_
   rintro _ w ⟨rfl,hs2⟩
   have hs:St _ [_,_] _:=hs.call hs2
   show G _ _ _ _ [_,_,_,_,_,_,_,_,_,_,_,_,_,_,_,_,_,_,_,_,_,_,_,_,_,_,_,_,_,_,_,_,_] _
   refine hk _ _ ⟨O,?_,hs.cast ?_⟩<;>simp only [oT,lq,cq,Nat.reduceBEq,p0_]
  ·
   rintro D t w hD hp hcl ⟨O,ht,hs⟩ rest hk
   have hp:AllDone D []:=hp
   have q3_:=ny hcl 3 0 hD
   have q4_:=ny hcl 4 0 q3_
   simp only [hD,q3_,q4_,cq,oT] at ht hs
   subst ht
   refine Qab (v:=pointer (some ⟨b6,1,none⟩)) rfl rfl rfl ?_
   show G _ _ _ _ [_,_,_,_,_,_,_,_,_,_,_,_,_,_,_,_,_,_,_,_,_,_,_,_,_,_,_,_,_,_,_,_,_] _
   refine hk _ _ ⟨O,?_,hs.cast ?_⟩<;>simp only [oT,lq,cq,Nat.reduceBEq,q3_,q4_]
  ·
   rintro D t w hD hp hcl ⟨O,ht,hs⟩ rest hk
   have hp:AllDone D [2]:=hp
   obtain ⟨p2_,_⟩:=hp
   have q4_:=ny hcl 4 0 hD
   simp only [hD,p2_,q4_,cq,oT] at ht hs
   subst ht
   refine Qaw rfl rfl (v:=int .i8 a1.Qag) rfl rfl (fun _=>rfl) (cells_load (hs.cells 1 rfl) 1 1 rfl) ?_
   show G _ _ _ _ [_,_,_,_,_,_,_,_,_,_,_,_,_,_,_,_,_,_,_,_,_,_,_,_,_,_,_,_,_,_,_,_,_] _
   refine hk _ _ ⟨O,?_,hs.cast ?_⟩<;>simp only [oT,lq,cq,Nat.reduceBEq,p2_,q4_]
  ·
   rintro D t w hD hp hcl ⟨O,ht,hs⟩ rest hk
   have hp:AllDone D [3]:=hp
   obtain ⟨p3_,_⟩:=hp
   obtain ⟨p2_,_⟩:=(show D 3=true→AllDone D [2] from hcl 3 (by decide)) p3_
   simp only [hD,p2_,p3_,cq,oT] at ht hs
   subst ht
   refine Qab (v:=int .i64 (i64w a1.Qag)) rfl rfl rfl ?_
   show G _ _ _ _ [_,_,_,_,_,_,_,_,_,_,_,_,_,_,_,_,_,_,_,_,_,_,_,_,_,_,_,_,_,_,_,_,_] _
   refine hk _ _ ⟨O,?_,hs.cast ?_⟩<;>simp only [oT,lq,cq,Nat.reduceBEq,p2_,p3_]
  intro D t w rest hall hO1_ hI
  obtain ⟨O,ht,hs⟩:=hI
  have p0_:=hall 0 (by decide) rfl
  have p1_:=hall 1 (by decide) rfl
  have p2_:=hall 2 (by decide) rfl
  have p3_:=hall 3 (by decide) rfl
  have p4_:=hall 4 (by decide) rfl
  simp only [p0_,p1_,p2_,p3_,p4_,cq,oT] at ht hs
  subst ht
  obtain ⟨rest,rfl,hO2_⟩:=ord_one (m:=31) hO1_ rfl 5 (m':=63) (by decide+kernel) rfl
  clear hO1_
  refine QaI (B:=decide (r12>(i64w a1.Qag))) rfl rfl rfl ?_ ?_
  ·
   intro hb
   rw [if_pos (b_dec_t hb)] at H
   show G _ _ _ _ [_,_,_,_,_,_,_,_,_,_,_,_,_,_,_,_,_,_,_,_,_,_,_,_,_,_,_,_,_,_,_,_,_] _
   obtain ⟨rest,rfl,hO3_⟩:=ord_one (m:=63) hO2_ rfl 6 (m':=127) (by decide+kernel) rfl
   clear hO2_
   refine Qab (v:=bool true) rfl rfl rfl ?_
   obtain rfl:=ord_end hO3_ rfl (by decide+kernel)
   refine Qac (Qaq rfl (Qaj (Qan [0] rfl ?_)))
   refine Qab (v:=int .i64 3) rfl rfl rfl (Qac ?_)
   obtain rfl:=QsJ H
   refine QaB Tryz.func55 (v:=int .i64 3) (res1 rfl rfl) ?_
   have hs:St _ [] _:=St.take (Γ':=[_,_]) hs
   exact ⟨_,rfl,rfl,hs⟩
  intro hb
  rw [if_neg (b_dec_f hb)] at H
  obtain ⟨rest,rfl,hO4_⟩:=ord_one (m:=63) hO2_ rfl 6 (m':=127) (by decide+kernel) rfl
  clear hO2_
  refine Qab (v:=bool false) rfl rfl rfl ?_
  obtain rfl:=ord_end hO4_ rfl (by decide+kernel)
  refine Qac (Qas rfl (QaK ?_))
  refine Qa0 (Qaj ?_)
  obtain ⟨r13,Hr13,H⟩:=bind_get H
  obtain ⟨r14,Hr14,H⟩:=bind_get H
  obtain ⟨r15,Hr15,H⟩:=bind_get H
  refine QaV ?_
  intro T hT
  refine QbZ (n:=7) rfl [0,1,2,3,4,5,6] [0,1,2,3,4,5,6] rfl rfl (Inv:=fun D t w=>∃ O:Nat→Value,t=[agg (([int .i8 a1.Qad,int .i8 a1.Qag,v2]:List Value)).toArray,agg (Qaa a4).toArray,int .u16 a5,pointer (some ⟨b6,0,none⟩),pointer (some ⟨b8,0,none⟩),O 5,cnd (D 6) (int .i64 r15) (int .i64 0),int .u16 r10.1,int .u16 r10.2,tuple #[int .u16 r10.1,int .u16 r10.2],agg (([int .i8 a1.Qad,int .i8 a1.Qag,v2]:List Value)).toArray,agg (Qaa a4).toArray,tuple #[int .u16 r10.1,int .u16 r10.2],int .u16 r10.1,int .u16 r10.2,bool false,int .u16 a5,int .u16 r10.1,bool true,bool false,bool false,int .u16 a5,int .i64 r12,pointer (some ⟨b6,1,none⟩),int .i8 a1.Qag,int .i64 (i64w a1.Qag),bool false,cnd (D 0) (agg (([int .i8 a1.Qad,int .i8 a1.Qag,v2]:List Value)).toArray) (O 27),cnd (D 1) (agg (Qaa a4).toArray) (O 28),cnd (D 2) (int .u16 a5) (O 29),cnd (D 3) (agg (Qaa r13).toArray) (O 30),cnd (D 4) (bool r14) (O 31),cnd (D 5) (int .i64 r15) (O 32)]∧St w0 [Cells b8 (Qaa a4) 48,Cells b6 (([int .i8 a1.Qad,int .i8 a1.Qag,v2]:List Value)) 27] w) ?_ ⟨⟨⟨⟨⟨⟨⟨trivial,?_⟩,?_⟩,?_⟩,?_⟩,?_⟩,?_⟩,?_⟩ ?_
  ·
   intro w hh hbw
   have hs:=hs.samew hh hbw
   exact ⟨fun i=>T.getD i undef,(by subst hT;rfl),hs⟩
  ·
   rintro D t w hD hp hcl ⟨O,ht,hs⟩ rest hk
   have q4_:=nz hcl 4 0 hD
   have q5_:=nz hcl 5 0 q4_
   have q6_:=nz hcl 6 0 q5_
   simp only [hD,q4_,q5_,q6_,cq,oT] at ht hs
   subst ht
   refine QaF rfl rfl (es:=(([int .i8 a1.Qad,int .i8 a1.Qag,v2]:List Value))) rfl rfl (fun _=>rfl) (n:=3) (fun _=>rfl) rfl (cells_all (hs.cells 1 rfl)) ?_
   show G _ _ _ _ [_,_,_,_,_,_,_,_,_,_,_,_,_,_,_,_,_,_,_,_,_,_,_,_,_,_,_,_,_,_,_,_,_] _
   refine hk _ _ ⟨O,?_,hs.cast ?_⟩<;>simp only [oT,lq,cq,Nat.reduceBEq,q4_,q5_,q6_]
  ·
   rintro D t w hD hp hcl ⟨O,ht,hs⟩ rest hk
   have q3_:=nz hcl 3 0 hD
   have q4_:=nz hcl 4 1 q3_
   have q5_:=nz hcl 5 0 q4_
   have q6_:=nz hcl 6 0 q5_
   simp only [hD,q3_,q4_,q5_,q6_,cq,oT] at ht hs
   subst ht
   refine QaF rfl rfl (es:=(Qaa a4)) rfl rfl (fun _=>rfl) (n:=2) (fun _=>rfl) (Qam.len _) (cells_all (hs.cells 0 rfl)) ?_
   show G _ _ _ _ [_,_,_,_,_,_,_,_,_,_,_,_,_,_,_,_,_,_,_,_,_,_,_,_,_,_,_,_,_,_,_,_,_] _
   refine hk _ _ ⟨O,?_,hs.cast ?_⟩<;>simp only [oT,lq,cq,Nat.reduceBEq,q3_,q4_,q5_,q6_]
  ·
   rintro D t w hD hp hcl ⟨O,ht,hs⟩ rest hk
   have q3_:=nz hcl 3 1 hD
   have q4_:=nz hcl 4 1 q3_
   have q5_:=nz hcl 5 0 q4_
   have q6_:=nz hcl 6 0 q5_
   simp only [hD,q3_,q4_,q5_,q6_,cq,oT] at ht hs
   subst ht
   refine Qab (v:=int .u16 a5) rfl rfl rfl ?_
   show G _ _ _ _ [_,_,_,_,_,_,_,_,_,_,_,_,_,_,_,_,_,_,_,_,_,_,_,_,_,_,_,_,_,_,_,_,_] _
   refine hk _ _ ⟨O,?_,hs.cast ?_⟩<;>simp only [oT,lq,cq,Nat.reduceBEq,q3_,q4_,q5_,q6_]
  ·
   rintro D t w hD hp hcl ⟨O,ht,hs⟩ rest hk
   obtain ⟨p1_,p2_,_⟩:=hp
   have q4_:=nz hcl 4 1 hD
   have q5_:=nz hcl 5 0 q4_
   have q6_:=nz hcl 6 0 q5_
   simp only [hD,p1_,p2_,q4_,q5_,q6_,cq,oT] at ht hs
   subst ht
   refine Qaz (args:=[agg (Qaa a4).toArray,int .u16 a5]) rfl rfl (QaA rfl (callFunc_enter Tryz.func46 rfl rfl) rfl) (Qbm.calls (a1:=a4) (a2:=a5) Hr13) ?_
   rintro _ w ⟨rfl,hs2⟩
   have hs:St _ [_,_] _:=hs.call hs2
   show G _ _ _ _ [_,_,_,_,_,_,_,_,_,_,_,_,_,_,_,_,_,_,_,_,_,_,_,_,_,_,_,_,_,_,_,_,_] _
   refine hk _ _ ⟨O,?_,hs.cast ?_⟩<;>simp only [oT,lq,cq,Nat.reduceBEq,p1_,p2_,q4_,q5_,q6_]
  ·
   rintro D t w hD hp hcl ⟨O,ht,hs⟩ rest hk
   obtain ⟨p0_,p3_,_,_⟩:=hp
   obtain ⟨p1_,p2_,_⟩:=(hcl.get 3 (by decide)) p3_
   have q5_:=nz hcl 5 0 hD
   have q6_:=nz hcl 6 0 q5_
   simp only [hD,p0_,p1_,p2_,p3_,q5_,q6_,cq,oT] at ht hs
   subst ht
   refine Qaz (args:=[agg (([int .i8 a1.Qad,int .i8 a1.Qag,v2]:List Value)).toArray,agg (Qaa r13).toArray]) rfl rfl (QaA rfl (callFunc_enter Tryz.func60 rfl rfl) rfl) (Qbx.calls (a1:=(⟨a1.Qad,a1.Qag,a1.Qal⟩:Qaf)) (a4:=r13) (hs.rd hr3) Hr14) ?_
   rintro _ w ⟨rfl,hs2⟩
   have hs:St _ [_,_] _:=hs.call hs2
   show G _ _ _ _ [_,_,_,_,_,_,_,_,_,_,_,_,_,_,_,_,_,_,_,_,_,_,_,_,_,_,_,_,_,_,_,_,_] _
   refine hk _ _ ⟨O,?_,hs.cast ?_⟩<;>simp only [oT,lq,cq,Nat.reduceBEq,p0_,p1_,p2_,p3_,q5_,q6_]
  ·
   rintro D t w hD hp hcl ⟨O,ht,hs⟩ rest hk
   obtain ⟨p4_,_,_⟩:=hp
   obtain ⟨p0_,p3_,_,_⟩:=(hcl.get 4 (by decide)) p4_
   obtain ⟨p1_,p2_,_⟩:=(hcl.get 3 (by decide)) p3_
   have q6_:=nz hcl 6 0 hD
   simp only [hD,p0_,p1_,p2_,p3_,p4_,q6_,cq,oT] at ht hs
   subst ht
   refine Qaz (args:=[bool r14,int .i64 4]) rfl rfl (QaA rfl (callFunc_enter Tryz.func81 rfl rfl) rfl) (Qb7.calls (a1:=r14) (a2:=4) Hr15) ?_
   rintro _ w ⟨rfl,hs2⟩
   have hs:St _ [_,_] _:=hs.call hs2
   show G _ _ _ _ [_,_,_,_,_,_,_,_,_,_,_,_,_,_,_,_,_,_,_,_,_,_,_,_,_,_,_,_,_,_,_,_,_] _
   refine hk _ _ ⟨O,?_,hs.cast ?_⟩<;>simp only [oT,lq,cq,Nat.reduceBEq,p0_,p1_,p2_,p3_,p4_,q6_]
  ·
   rintro D t w hD hp hcl ⟨O,ht,hs⟩ rest hk
   obtain ⟨p5_,_,p0_,p1_,p2_,p3_,p4_,_,_⟩:=hp
   simp only [hD,p0_,p1_,p2_,p3_,p4_,p5_,cq,oT] at ht hs
   subst ht
   refine Qab (v:=int .i64 r15) rfl rfl rfl ?_
   show G _ _ _ _ [_,_,_,_,_,_,_,_,_,_,_,_,_,_,_,_,_,_,_,_,_,_,_,_,_,_,_,_,_,_,_,_,_] _
   refine hk _ _ ⟨O,?_,hs.cast ?_⟩<;>simp only [oT,lq,cq,Nat.reduceBEq,p0_,p1_,p2_,p3_,p4_,p5_]
  intro D t w hall hI
  obtain ⟨O,ht,hs⟩:=hI
  have p0_:=hall 0 (by decide)
  have p1_:=hall 1 (by decide)
  have p2_:=hall 2 (by decide)
  have p3_:=hall 3 (by decide)
  have p4_:=hall 4 (by decide)
  have p5_:=hall 5 (by decide)
  have p6_:=hall 6 (by decide)
  simp only [p0_,p1_,p2_,p3_,p4_,p5_,p6_,cq,oT] at ht hs
  subst ht
  obtain rfl:=QsJ H
  refine QaB Tryz.func55 (v:=int .i64 r15) (res1 rfl rfl) ?_
  have hs:St _ [] _:=St.take (Γ':=[_,_]) hs
  exact ⟨_,rfl,rfl,hs⟩
 |false=>
  rw [if_neg Bool.false_ne_true] at H
  refine Qab (v:=bool true) rfl rfl rfl ?_
  show G _ _ _ _ [_,_,_,_,_,_,_,_,_,_,_,_,_,_,_,_,_,_,_,_,_,_,_,_,_,_,_,_,_,_,_,_,_] _
  refine Qab (v:=bool true) rfl rfl rfl (Qac (Qaq rfl (Qaj (Qan [0] rfl ?_))))
  refine Qab (v:=int .i64 2) rfl rfl rfl (Qac ?_)
  obtain rfl:=QsJ H
  refine QaB Tryz.func55 (v:=int .i64 2) (res1 rfl rfl) ?_
  have hs:St _ [] _:=St.take (Γ':=[_,_]) hs
  exact ⟨_,rfl,rfl,hs⟩
def QaN.post (w0:World) (r:(List Int)) (v:Value) (w:World):Prop:=St w0 [Row 46 (K.int .u16) v r] w
theorem QaN.calls {N:Nat} {a1:Qaf} {a4:Qak} {v2:Value} {w0:World} {r:(List Int)} (hr3:RdRow (K.int .u16) w0 v2 a1.Qal) (H:QaN.f N a1 a4=some r):
 Calls Tryz.prog 45 #[agg (([int .i8 a1.Qad,int .i8 a1.Qag,v2]:List Value)).toArray,agg (Qaa a4).toArray] w0 fun e w=>∃ v,e= .returned v∧QaN.post w0 r v w:=by
 unfold QaN.f at H
 have hs:St w0 [] w0:=St.refl w0
 refine calls_of_g (n:=23) Tryz.func45 rfl rfl ?_
 show G _ _ _ _ [_,_,_,_,_,_,_,_,_,_,_,_,_,_,_,_,_,_,_,_,_,_,_,_,_] _
 refine Qaj (Qan [0,1,2] rfl ?_)
 refine Qbw hs rfl rfl (cs:=(([int .i8 a1.Qad,int .i8 a1.Qag,v2]:List Value))) rfl rfl ?_
 intro b5 w hs
 refine Qbw hs rfl rfl (cs:=(Qaa a4)) rfl rfl ?_
 intro b7 w hs
 show G _ _ _ _ [_,_,_,_,_,_,_,_,_,_,_,_,_,_,_,_,_,_,_,_,_,_,_,_,_] _
 refine Qab (v:=slice none 0 0) rfl rfl rfl (Qac (Qaj (Qan [0,1] rfl ?_)))
 refine QcC (κ:=(K.int .u16)) hs rfl rfl rfl rfl (fun _=>rfl) ?_
 intro v9 w hs
 refine Qab (v:=v9) rfl rfl rfl ?_
 show G _ _ _ _ [_,_,_,_,_,_,_,_,_,_,_,_,_,_,_,_,_,_,_,_,_,_,_,_,_] _
 refine Qac (Qaj (Qaj (Qan [0,1,2,3] rfl ?_)))
 refine QaF rfl rfl (es:=(([int .i8 a1.Qad,int .i8 a1.Qag,v2]:List Value))) rfl rfl (fun _=>rfl) (n:=3) (fun _=>rfl) rfl (cells_all (hs.cells 2 rfl)) ?_
 obtain ⟨r11,Hr11,H⟩:=bind_get H
 refine Qaz (args:=[agg (([int .i8 a1.Qad,int .i8 a1.Qag,v2]:List Value)).toArray]) rfl rfl (QaA rfl (callFunc_enter Tryz.func44 rfl rfl) rfl) (QaZ.calls (a1:=(⟨a1.Qad,a1.Qag,a1.Qal⟩:Qaf)) (hs.rd hr3) Hr11) ?_
 rintro _ w ⟨rfl,hs2⟩
 have hs:St _ [_,_,_] _:=hs.call hs2
 refine Qab (v:=int .u16 (u16w (r11+1))) rfl rfl rfl ?_
 show G _ _ _ _ [_,_,_,_,_,_,_,_,_,_,_,_,_,_,_,_,_,_,_,_,_,_,_,_,_] _
 refine Qab (v:=int .u16 0) rfl rfl rfl (Qac ?_)
 obtain ⟨o1_,Ho,Hr1_⟩:=bind_get H
 refine QaR (J:=fun t w=>∃ v24:Value,∃ x25:(List Int),QaN.a0 N x25=some r∧Fr t (fun O=>([O 0,O 1,O 2,O 3,O 4,v24,O 6,O 7,O 8,O 9,O 10,O 11,O 12,O 13,O 14,O 15,O 16,O 17,O 18,O 19,O 20,O 21,O 22,O 23,O 24]:List Value))∧St w0 [Row 46 (K.int .u16) v24 x25] w) ?_ ?_
 ·
  rintro t w ⟨v24,x25,H,hf,hs⟩
  obtain ⟨O,rfl⟩:=hf.open
  show G _ _ _ _ [_,_,_,_,_,_,_,_,_,_,_,_,_,_,_,_,_,_,_,_,_,_,_,_,_] _
  unfold QaN.a0 at H
  refine Qaj (Qan [0,1] rfl ?_)
  refine Qab (v:=v24) rfl rfl rfl ?_
  show G _ _ _ _ [_,_,_,_,_,_,_,_,_,_,_,_,_,_,_,_,_,_,_,_,_,_,_,_,_] _
  refine Qab (v:=v24) rfl rfl rfl (Qac ?_)
  obtain rfl:=QsJ H
  refine QaB Tryz.func45 (v:=v24) (res1 rfl rfl) ?_
  have hs:=hs.pull 0 rfl
  have hs:St _ [_] _:=St.take (Γ':=[]) hs
  exact ⟨_,rfl,hs⟩
 intro ha1_
 have hs:=hs.pull 0 rfl
 have hs:=hs.pull 1 rfl
 have hs:=hs.pull 2 rfl
 have hs:St _ [_,_,_] _:=St.take (Γ':=[]) hs
 refine Qba (I:=fun n_ t w=>∃ v13:Value,∃ x14:(List Int),∃ x15:Int,rounds (fun s=>QaN.b0 N r11 a1 a4 s.1 s.2) n_ (x14,x15)=some o1_∧Fr t (fun O=>([O 0,O 1,pointer (some ⟨b5,0,none⟩),pointer (some ⟨b7,0,none⟩),O 4,v13,O 6,O 7,O 8,O 9,int .u16 (u16w (r11+1)),int .u16 x15,O 12,O 13,O 14,O 15,O 16,O 17,O 18,O 19,O 20,O 21,O 22,O 23,O 24]:List Value))∧St w0 [Cells b5 (([int .i8 a1.Qad,int .i8 a1.Qag,v2]:List Value)) 27,Cells b7 (Qaa a4) 48,Row 46 (K.int .u16) v13 x14] w) N ⟨v9,([]:List Int),0,Ho,rfl,hs⟩ ?_ ?_
 ·
  rintro _ _ ⟨v13,x14,x15,h,_⟩
  exact rounds_zero h
 intro n_ ih1_
 rintro t w ⟨v13,x14,x15,Ho,hf,hs⟩
 obtain ⟨O,rfl⟩:=hf.open
 show G _ _ _ _ [_,_,_,_,_,_,_,_,_,_,_,_,_,_,_,_,_,_,_,_,_,_,_,_,_] _
 obtain ⟨x1_,H,Hx1_⟩:=rounds_succ Ho
 have H:QaN.b0 N r11 a1 a4 x14 x15=some x1_:=H
 unfold QaN.b0 at H
 refine Qaj (Qan [0] rfl ?_)
 refine QaI (B:=decide (x15< (u16w (r11+1)))) rfl rfl rfl ?_ ?_
 ·
  intro hb
  rw [if_pos (b_dec_t hb)] at H
  show G _ _ _ _ [_,_,_,_,_,_,_,_,_,_,_,_,_,_,_,_,_,_,_,_,_,_,_,_,_] _
  refine Qac (Qaj (Qaq rfl (QaK (Qaj ?_))))
  refine QaR (J:=(fun t w=>∃ v21:Value,∃ x22:(List Int),QaN.j2 N x15 x22=some x1_∧Fr t (fun O=>([O 0,O 1,pointer (some ⟨b5,0,none⟩),pointer (some ⟨b7,0,none⟩),O 4,v21,O 6,O 7,O 8,O 9,int .u16 (u16w (r11+1)),int .u16 x15,O 12,O 13,O 14,O 15,O 16,O 17,O 18,O 19,O 20,O 21,O 22,O 23,O 24]:List Value))∧St w0 [Cells b5 (([int .i8 a1.Qad,int .i8 a1.Qag,v2]:List Value)) 27,Cells b7 (Qaa a4) 48,Row 46 (K.int .u16) v21 x22] w)) ?_ ?_
  ·
   rintro t w ⟨v21,x22,H,hf,hs⟩
   obtain ⟨O,rfl⟩:=hf.open
   show G _ _ _ _ [_,_,_,_,_,_,_,_,_,_,_,_,_,_,_,_,_,_,_,_,_,_,_,_,_] _
   unfold QaN.j2 at H
   refine Qan [0,1] rfl ?_
   refine Qab (v:=int .u16 (u16w (x15+1))) rfl rfl rfl ?_
   refine Qab (v:=int .u16 (u16w (x15+1))) rfl rfl rfl (Qac ?_)
   obtain rfl:=QsJ H
   have hs:=hs.pull 2 rfl
   have hs:=hs.pull 2 rfl
   have hs:=hs.pull 2 rfl
   have hs:St _ [_,_,_] _:=St.take (Γ':=[]) hs
   exact ih1_ _ _ ⟨v21,x22,u16w (x15+1),Hx1_,rfl,hs⟩
  intro ha
  refine Qaj (Qan [0,1] rfl ?_)
  refine Qab (v:=int .u16 x15) rfl rfl rfl ?_
  refine Qab (v:=int .u16 x15) rfl rfl rfl (Qac (Qaj (Qan [0,1,2,3,4] rfl ?_)))
  refine QaF rfl rfl (es:=(([int .i8 a1.Qad,int .i8 a1.Qag,v2]:List Value))) rfl rfl (fun _=>rfl) (n:=3) (fun _=>rfl) rfl (cells_all (hs.cells 0 rfl)) ?_
  show G _ _ _ _ [_,_,_,_,_,_,_,_,_,_,_,_,_,_,_,_,_,_,_,_,_,_,_,_,_] _
  refine QaF rfl rfl (es:=(Qaa a4)) rfl rfl (fun _=>rfl) (n:=2) (fun _=>rfl) (Qam.len _) (cells_all (hs.cells 1 rfl)) ?_
  refine Qab (v:=int .u16 x15) rfl rfl rfl ?_
  obtain ⟨r16,Hr16,H⟩:=bind_get H
  refine Qaz (args:=[agg (([int .i8 a1.Qad,int .i8 a1.Qag,v2]:List Value)).toArray,agg (Qaa a4).toArray,int .u16 x15]) rfl rfl (QaA rfl (callFunc_enter Tryz.func55 rfl rfl) rfl) (Qbq.calls (a1:=(⟨a1.Qad,a1.Qag,a1.Qal⟩:Qaf)) (a4:=a4) (a5:=x15) (hs.rd hr3) Hr16) ?_
  rintro _ w ⟨rfl,hs2⟩
  have hs:St _ [_,_,_] _:=hs.call hs2
  show G _ _ _ _ [_,_,_,_,_,_,_,_,_,_,_,_,_,_,_,_,_,_,_,_,_,_,_,_,_] _
  refine QaI (B:=r16==0) rfl rfl rfl ?_ ?_
  ·
   intro hb
   rw [if_pos (b_beq_t hb)] at H
   refine Qac (Qaq rfl (Qan [0,1,2,3,4] rfl ?_))
   refine Qab (v:=v13) rfl rfl rfl ?_
   show G _ _ _ _ [_,_,_,_,_,_,_,_,_,_,_,_,_,_,_,_,_,_,_,_,_,_,_,_,_] _
   refine Qab (v:=int .u16 x15) rfl rfl rfl ?_
   show G _ _ _ _ [_,_,_,_,_,_,_,_,_,_,_,_,_,_,_,_,_,_,_,_,_,_,_,_,_] _
   refine Qcq (fkI .u16) (y:=x15) hs rfl rfl rfl rfl (fun _=>rfl) (zv:=(int .u16 0)) (fun _=>rfl) rfl (by decide) (by decide) rfl ?_
   intro v17 w hs
   have hs:St _ [_,_,_,_] _:=hs.pull 3 rfl
   obtain ⟨g,H⟩:=ite_get H
   refine Qcr (fkI .u16) (zv:=(int .u16 0)) (B:=2) hs (hs.row 1 rfl) rfl rfl rfl rfl rfl rfl rfl rfl rfl (by decide) rfl rfl (by decide) (by omega) ?_
   intro v19 w hs
   show G _ _ _ _ [_,_,_,_,_,_,_,_,_,_,_,_,_,_,_,_,_,_,_,_,_,_,_,_,_] _
   refine Qab (v:=v19) rfl rfl rfl (Qac ?_)
   refine Qa0 ?_
   have hs:=hs.pull 0 rfl
   have hs:=hs.pull 3 rfl
   have hs:=hs.pull 3 rfl
   have hs:St _ [_,_,_] _:=St.take (Γ':=[_]) hs
   exact ha _ _ ⟨v19,x14++([x15]),H,rfl,hs⟩
  intro hb
  rw [if_neg (b_beq_f hb)] at H
  refine Qac (Qas rfl (QaK ?_))
  refine Qa0 ?_
  have hs:=hs.pull 2 rfl
  have hs:=hs.pull 2 rfl
  have hs:=hs.pull 2 rfl
  have hs:St _ [_,_,_] _:=St.take (Γ':=[]) hs
  exact ha _ _ ⟨v13,x14,H,rfl,hs⟩
 intro hb
 rw [if_neg (b_dec_f hb)] at H
 refine Qac (Qaj (Qas rfl ?_))
 obtain rfl:=QsJ H
 subst Hx1_
 have hs:=hs.pull 2 rfl
 have hs:St _ [_] _:=St.take (Γ':=[_,_]) hs
 refine QbE rfl ?_
 exact ha1_ _ _ ⟨v13,x14,Hr1_,rfl,hs⟩
def Qau.post (w0:World) (r:(List QaC)) (v:Value) (w:World):Prop:=St w0 [Row 82 Qa5 v r] w
theorem Qau.calls {N:Nat} {a1:Qaf} {v2:Value} {w0:World} {r:(List QaC)} (hr3:RdRow (K.int .u16) w0 v2 a1.Qal) (H:Qau.f N a1=some r):
 Calls Tryz.prog 39 #[agg (([int .i8 a1.Qad,int .i8 a1.Qag,v2]:List Value)).toArray] w0 fun e w=>∃ v,e= .returned v∧Qau.post w0 r v w:=by
 unfold Qau.f at H
 have hs:St w0 [] w0:=St.refl w0
 refine calls_of_g (n:=64) Tryz.func39 rfl rfl ?_
 show G _ _ _ _ (_::_::_::_::_::_::_::_::_::_::_::_::_::_::_::_::_::_::_::_::_::_::_::_::_::_::_::_::_::_::_::_::_::_::_::_::_::_::_::_::_::_::_::_::_::_::_::_::_::_::_::_::_::_::_::_::_::_::_::_::_::_::_::_::_::[]) _
 refine Qaj (Qan [0,1] rfl ?_)
 refine Qbw hs rfl rfl (cs:=(([int .i8 a1.Qad,int .i8 a1.Qag,v2]:List Value))) rfl rfl ?_
 intro b4 w hs
 refine g_d rfl ?_
 try dsimp only [Qah,Qai]
 refine Qab (v:=slice none 0 0) rfl rfl rfl (g_d rfl (Qac (Qaj (Qan [0,1,2,3,4] rfl ?_))))
 refine QaF rfl rfl (es:=(([int .i8 a1.Qad,int .i8 a1.Qag,v2]:List Value))) rfl rfl (fun _=>rfl) (n:=3) (fun _=>rfl) rfl (cells_all (hs.cells 0 rfl)) (g_d rfl ?_)
 try dsimp only [Qah,Qai]
 obtain ⟨r6,Hr6,H⟩:=bind_get H
 refine Qaz (args:=[agg (([int .i8 a1.Qad,int .i8 a1.Qag,v2]:List Value)).toArray]) rfl rfl (QaA rfl (callFunc_enter Tryz.func44 rfl rfl) rfl) (QaZ.calls (a1:=(⟨a1.Qad,a1.Qag,a1.Qal⟩:Qaf)) (hs.rd hr3) Hr6) ?_
 rintro _ w ⟨rfl,hs2⟩
 have hs:St _ [_] _:=hs.call hs2
 refine g_d rfl ?_
 try dsimp only [Qah,Qai]
 refine Qab (v:=agg (Qaa (⟨r6,false⟩:Qak)).toArray) rfl rfl (Qbt (cs:=(Qaa (⟨r6,false⟩:Qak))) (segs:=[[int .u16 0],[bool false]]) rfl rfl (fun _=>rfl) ⟨rfl,(fun _=>rfl),rfl,(fun _=>rfl),trivial⟩ (by simp only [List.map_cons,List.map_nil,List.forall_mem_cons,List.not_mem_nil,false_implies,implies_true,and_true];exact ⟨_,rfl,rfl⟩) (by first|rfl|(simp [ev,Qaa];done)|(simp [ev,Qaa];rfl))) ?_
 refine g_d rfl ?_
 try dsimp only [Qah,Qai]
 refine QbI hs rfl rfl (z:=(agg #[int .u16 0,bool false])) (cs:=(Qaa Qa9)) rfl (fun _=>rfl) rfl ?_
 intro b7 w hs
 refine g_d rfl ?_
 refine QaY (n:=2) hs (Qam.len _) rfl rfl (vs:=(Qaa (⟨r6,false⟩:Qak))) rfl rfl rfl (fun _=>rfl) (Qam.len _) (Qam.one _) ?_
 intro w hs
 refine g_n rfl (Qac (Qaj ?_))
 refine QaV ?_
 intro T hT
 refine QbZ (n:=9) rfl [0,1,2,3,4,5,6,7,8] [0,1,2,3,5,6,7,4,8] rfl rfl (Inv:=fun D t w=>∃ v9:Value,∃ b11:Nat,∃ O:Nat→Value,t=(agg (([int .i8 a1.Qad,int .i8 a1.Qag,v2]:List Value)).toArray::pointer (some ⟨b4,0,none⟩)::slice none 0 0::pointer (some ⟨b7,0,none⟩)::cnd (D 7) v9 (O 4)::cnd (D 8) (Value.map (some b11)) (O 5)::O 6::O 7::O 8::O 9::agg (([int .i8 a1.Qad,int .i8 a1.Qag,v2]:List Value)).toArray::int .u16 r6::agg (Qaa (⟨r6,false⟩:Qak)).toArray::cnd (D 0) (agg (Qaa (⟨r6,false⟩:Qak)).toArray) (O 13)::cnd (D 1) (agg (QaE (⟨(⟨r6,false⟩:Qak),(-1),0,0⟩:QaC)).toArray) (O 14)::cnd (D 2) v9 (O 15)::cnd (D 3) (Value.map (some b11)) (O 16)::cnd (D 4) (agg (Qaa (⟨r6,false⟩:Qak)).toArray) (O 17)::cnd (D 6) (Value.map (some b11)) (O 18)::O 19::oT O 2 (oT O 3 (oT O 4 (oT O 5 (O 60::O 61::O 62::O 63::O 64::[])))))∧St w0 [Asc (D 2) (Row 82 Qa5 v9 ([(⟨(⟨r6,false⟩:Qak),(-1),0,0⟩:QaC)])),Asc (D 3) (MapAs b11 Qbu bool (cnd (D 5) (mSet ([]:(List (Qak×Bool))) (⟨r6,false⟩:Qak) true) ([]:(List (Qak×Bool))))),Cells b7 (Qaa (⟨r6,false⟩:Qak)) 48,Cells b4 (([int .i8 a1.Qad,int .i8 a1.Qag,v2]:List Value)) 27] w) ?_ ⟨⟨⟨⟨⟨⟨⟨⟨⟨trivial,?_⟩,?_⟩,?_⟩,?_⟩,?_⟩,?_⟩,?_⟩,?_⟩,?_⟩ ?_
 ·
  intro w hh hbw
  have hs:=hs.samew hh hbw
  have hs:=hs.emp
  have hs:=hs.emp
  exact ⟨undef,0,fun i=>T.getD i undef,(by subst hT;rfl),hs⟩
 ·
  rintro D t w hD hp hcl ⟨v9,b11,O,ht,hs⟩ rest hk
  have q1_:=nz hcl 1 0 hD
  have q2_:=nz hcl 2 0 q1_
  have q7_:=nz hcl 7 0 q2_
  have q8_:=nz hcl 8 1 q7_
  simp only [hD,q1_,q2_,q7_,q8_,cq,oT] at ht hs
  subst ht
  refine QaF rfl rfl (es:=(Qaa (⟨r6,false⟩:Qak))) rfl rfl (fun _=>rfl) (n:=2) (fun _=>rfl) (Qam.len _) (cells_all (hs.cells 2 rfl)) (g_d rfl ?_)
  try dsimp only [Qah,Qai]
  refine hk _ _ ⟨v9,b11,O,?_,hs.cast ?_⟩<;>simp only [oT,lq,cq,Nat.reduceBEq,q1_,q2_,q7_,q8_]
 ·
  rintro D t w hD hp hcl ⟨v9,b11,O,ht,hs⟩ rest hk
  obtain ⟨p0_,_⟩:=hp
  have q2_:=nz hcl 2 0 hD
  have q7_:=nz hcl 7 0 q2_
  have q8_:=nz hcl 8 1 q7_
  simp only [hD,p0_,q2_,q7_,q8_,cq,oT] at ht hs
  subst ht
  refine Qab (v:=agg (QaE (⟨(⟨r6,false⟩:Qak),(-1),0,0⟩:QaC)).toArray) rfl rfl (Qbt (cs:=(QaE (⟨(⟨r6,false⟩:Qak),(-1),0,0⟩:QaC))) (segs:=[[int .u16 0,bool false],[int .i64 0],[int .u16 0],[int .i64 0]]) rfl rfl (fun _=>rfl) ⟨rfl,(fun _=>rfl),rfl,(fun _=>rfl),rfl,(fun _=>rfl),rfl,(fun _=>rfl),trivial⟩ (by simp only [List.map_cons,List.map_nil,List.forall_mem_cons,List.not_mem_nil,false_implies,implies_true,and_true];exact ⟨⟨_,rfl,Qam.len _⟩,⟨_,rfl,rfl⟩⟩) (by first|rfl|(simp [ev,QaE];done)|(simp [ev,QaE];rfl))) ?_
  refine g_d rfl ?_
  try dsimp only [Qah,Qai]
  refine hk _ _ ⟨v9,b11,O,?_,hs.cast ?_⟩<;>simp only [oT,lq,cq,Nat.reduceBEq,p0_,q2_,q7_,q8_]
 ·
  rintro D t w hD hp hcl ⟨v9,b11,O,ht,hs⟩ rest hk
  obtain ⟨p1_,_⟩:=hp
  obtain ⟨p0_,_⟩:=(hcl.get 1 (by decide)) p1_
  have q7_:=nz hcl 7 0 hD
  have q8_:=nz hcl 8 1 q7_
  simp only [hD,p0_,p1_,q7_,q8_,cq,oT] at ht hs
  subst ht
  refine Qcq Qa6 (y:=(⟨(⟨r6,false⟩:Qak),(-1),0,0⟩:QaC)) hs rfl rfl rfl rfl (fun _=>rfl) (zv:=(agg #[int .u16 0,bool false,int .i64 0,int .u16 0,int .i64 0])) (fun _=>rfl) rfl (by decide) (by decide) rfl ?_
  intro v9 w hs
  refine g_d rfl ?_
  try dsimp only [Qah,Qai]
  have hs:=hs.fill 0 rfl
  refine hk _ _ ⟨v9,b11,O,?_,hs.cast ?_⟩<;>simp only [oT,lq,cq,Nat.reduceBEq,p0_,p1_,q7_,q8_]
 ·
  rintro D t w hD hp hcl ⟨v9,b11,O,ht,hs⟩ rest hk
  have q5_:=nz hcl 5 0 hD
  have q6_:=nz hcl 6 0 hD
  have q8_:=nz hcl 8 0 q6_
  simp only [hD,q5_,q6_,q8_,cq,oT] at ht hs
  subst ht
  refine QcS (ek:=Qbu) (en:=bool) hs rfl rfl rfl ?_
  intro b11 w hs
  refine g_d rfl ?_
  try dsimp only [Qah,Qai]
  have hs:=hs.fill 1 rfl
  refine hk _ _ ⟨v9,b11,O,?_,hs.cast ?_⟩<;>simp only [oT,lq,cq,Nat.reduceBEq,q5_,q6_,q8_]
 ·
  rintro D t w hD hp hcl ⟨v9,b11,O,ht,hs⟩ rest hk
  have q5_:=nz hcl 5 1 hD
  have q6_:=nz hcl 6 1 hD
  have q8_:=nz hcl 8 0 q6_
  simp only [hD,q5_,q6_,q8_,cq,oT] at ht hs
  subst ht
  refine QaF rfl rfl (es:=(Qaa (⟨r6,false⟩:Qak))) rfl rfl (fun _=>rfl) (n:=2) (fun _=>rfl) (Qam.len _) (cells_all (hs.cells 2 rfl)) (g_d rfl ?_)
  try dsimp only [Qah,Qai]
  refine hk _ _ ⟨v9,b11,O,?_,hs.cast ?_⟩<;>simp only [oT,lq,cq,Nat.reduceBEq,q5_,q6_,q8_]
 ·
  rintro D t w hD hp hcl ⟨v9,b11,O,ht,hs⟩ rest hk
  obtain ⟨p3_,p4_,_⟩:=hp
  have q6_:=nz hcl 6 2 hD
  have q8_:=nz hcl 8 0 q6_
  simp only [hD,p3_,p4_,q6_,q8_,cq,oT] at ht hs
  subst ht
  have hs:St _ [_,_,_,_] _:=hs.pull 1 rfl
  refine QcM QbR (a:=(⟨r6,false⟩:Qak)) (v:=true) hs rfl rfl (.inr rfl) Tryz.underlying130 rfl rfl rfl ?_
  intro w hs
  refine g_n rfl ?_
  try dsimp only [Qah,Qai]
  have hs:=hs.push 1 (by simp)
  refine hk _ _ ⟨v9,b11,O,?_,hs.cast ?_⟩<;>simp only [oT,lq,cq,Nat.reduceBEq,p3_,p4_,q6_,q8_]
 ·
  rintro D t w hD hp hcl ⟨v9,b11,O,ht,hs⟩ rest hk
  obtain ⟨p3_,p4_,p5_,_⟩:=hp
  have q8_:=nz hcl 8 0 hD
  simp only [hD,p3_,p4_,p5_,q8_,cq,oT] at ht hs
  subst ht
  refine Qab (v:=Value.map (some b11)) rfl rfl rfl (g_d rfl ?_)
  try dsimp only [Qah,Qai]
  refine hk _ _ ⟨v9,b11,O,?_,hs.cast ?_⟩<;>simp only [oT,lq,cq,Nat.reduceBEq,p3_,p4_,p5_,q8_]
 ·
  rintro D t w hD hp hcl ⟨v9,b11,O,ht,hs⟩ rest hk
  obtain ⟨p2_,p0_,p1_,_,_⟩:=hp
  have q8_:=nz hcl 8 1 hD
  simp only [hD,p0_,p1_,p2_,q8_,cq,oT] at ht hs
  subst ht
  refine Qab (v:=v9) rfl rfl rfl (g_d rfl ?_)
  try dsimp only [Qah,Qai]
  refine hk _ _ ⟨v9,b11,O,?_,hs.cast ?_⟩<;>simp only [oT,lq,cq,Nat.reduceBEq,p0_,p1_,p2_,q8_]
 ·
  rintro D t w hD hp hcl ⟨v9,b11,O,ht,hs⟩ rest hk
  obtain ⟨p6_,p7_,p0_,p1_,p2_,p3_,p4_,p5_,_,_,_⟩:=hp
  simp only [hD,p0_,p1_,p2_,p3_,p4_,p5_,p6_,p7_,cq,oT] at ht hs
  subst ht
  refine Qab (v:=Value.map (some b11)) rfl rfl rfl (g_d rfl ?_)
  try dsimp only [Qah,Qai]
  refine hk _ _ ⟨v9,b11,O,?_,hs.cast ?_⟩<;>simp only [oT,lq,cq,Nat.reduceBEq,p0_,p1_,p2_,p3_,p4_,p5_,p6_,p7_]
 intro D t w hall hI
 obtain ⟨v9,b11,O,ht,hs⟩:=hI
 have p0_:=hall 0 (by decide)
 have p1_:=hall 1 (by decide)
 have p2_:=hall 2 (by decide)
 have p3_:=hall 3 (by decide)
 have p4_:=hall 4 (by decide)
 have p5_:=hall 5 (by decide)
 have p6_:=hall 6 (by decide)
 have p7_:=hall 7 (by decide)
 have p8_:=hall 8 (by decide)
 simp only [p0_,p1_,p2_,p3_,p4_,p5_,p6_,p7_,p8_,cq,oT] at ht hs
 subst ht
 refine Qaj (Qaj (Qan [0] rfl ?_))
 refine Qab (v:=int .i64 0) rfl rfl rfl (g_d rfl ?_)
 try dsimp only [Qah,Qai]
 refine Qac ?_
 obtain ⟨o1_,Ho,Hr1_⟩:=bind_get H
 refine QaR (J:=fun t w=>∃ v122:Value,∃ x123:(List QaC),Qau.a0 N x123=some r∧Fr t (fun O=>(O 0::O 1::O 2::O 3::v122::O 5::O 6::O 7::O 8::O 9::oT O 1 (oT O 2 (oT O 3 (oT O 4 (oT O 5 (O 60::O 61::O 62::O 63::O 64::[]))))):List Value))∧St w0 [Row 82 Qa5 v122 x123] w) ?_ ?_
 ·
  rintro t w ⟨v122,x123,H,hf,hs⟩
  obtain ⟨O,rfl⟩:=hf.open
  try dsimp only [oT]
  unfold Qau.a0 at H
  refine Qaj (Qan [0,1] rfl ?_)
  refine Qab (v:=v122) rfl rfl rfl (g_d rfl ?_)
  refine Qab (v:=v122) rfl rfl rfl (g_d rfl (Qac ?_))
  obtain rfl:=QsJ H
  refine QaB Tryz.func39 (v:=v122) (res1 rfl rfl) ?_
  have hs:=hs.pull 0 rfl
  have hs:St _ [_] _:=St.take (Γ':=[]) hs
  exact ⟨_,rfl,hs⟩
 intro ha1_
 have hs:=hs.pull 1 rfl
 have hs:=hs.pull 1 rfl
 have hs:=hs.pull 3 rfl
 have hs:St _ [_,_,_] _:=St.take (Γ':=[_]) hs
 refine Qba (I:=fun n_ t w=>∃ v69:Value,∃ x70:(List QaC),∃ x71:(List (Qak×Bool)),∃ x72:Int,rounds (fun s=>Qau.b0 N a1 s.1 s.2.1 s.2.2) n_ (x70,x71,x72)=some o1_∧Fr t (fun O=>(O 0::pointer (some ⟨b4,0,none⟩)::O 2::O 3::v69::Value.map (some b11)::int .i64 x72::O 7::O 8::O 9::oT O 1 (oT O 2 (oT O 3 (oT O 4 (oT O 5 (O 60::O 61::O 62::O 63::O 64::[]))))):List Value))∧St w0 [Cells b4 (([int .i8 a1.Qad,int .i8 a1.Qag,v2]:List Value)) 27,Row 82 Qa5 v69 x70,MapAs b11 Qbu bool x71] w) N ⟨v9,[(⟨(⟨r6,false⟩:Qak),(-1),0,0⟩:QaC)],mSet ([]:(List (Qak×Bool))) (⟨r6,false⟩:Qak) true,0,Ho,rfl,hs⟩ ?_ ?_
 ·
  rintro _ _ ⟨v69,x70,x71,x72,h,_⟩
  exact rounds_zero h
 intro n_ ih1_
 rintro t w ⟨v69,x70,x71,x72,Ho,hf,hs⟩
 obtain ⟨O,rfl⟩:=hf.open
 try dsimp only [oT]
 obtain ⟨x23_,H,Hx1_⟩:=rounds_succ Ho
 have H:Qau.b0 N a1 x70 x71 x72=some x23_:=H
 unfold Qau.b0 at H
 refine Qaj (Qaj (Qan [0,1,2,3] rfl ?_))
 refine Qab (v:=int .i64 x72) rfl rfl rfl (g_d rfl ?_)
 refine Qab (v:=v69) rfl rfl rfl (g_d rfl ?_)
 refine QbC (hs.row 1 rfl) rfl rfl rfl rfl rfl (g_d rfl ?_)
 refine QaI (B:=decide (x72< (x70.length:Int))) rfl rfl rfl ?_ ?_
 ·
  intro hb
  rw [if_pos (b_dec_t hb)] at H
  refine g_d rfl (Qac (Qaq rfl (QaK (Qaj ?_))))
  refine QbG (Qaj ?_)
  obtain ⟨gd12,H⟩:=ite_get H
  obtain ⟨ad13_,ad13_N,ad13_C,had13_⟩:=sl_at (hs.row 1 rfl) gd12.1 gd12.2
  obtain ⟨r73,Hr73,H⟩:=bind_get H
  refine QaV ?_
  intro T hT
  refine QbZ (n:=9) rfl [0,1,2,3,4,5,6,7,8] [0,1,2,3,4,5,6,7,8] rfl rfl (Inv:=fun D t w=>∃ v74:Value,∃ O:Nat→Value,t=(O 0::pointer (some ⟨b4,0,none⟩)::O 2::O 3::v69::Value.map (some b11)::int .i64 x72::O 7::O 8::O 9::O 10::O 11::O 12::O 13::O 14::O 15::O 16::O 17::O 18::int .i64 x72::v69::int .i64 (x70.length:Int)::bool true::O 23::O 24::cnd (D 0) (agg (([int .i8 a1.Qad,int .i8 a1.Qag,v2]:List Value)).toArray) (O 25)::cnd (D 1) v69 (O 26)::cnd (D 2) (int .i64 x72) (O 27)::cnd (D 3) (pointer (some (ad13_.add (x72.toNat*5)))) (O 28)::cnd (D 4) (pointer (some ((ad13_.add (x72.toNat*5)).add 0))) (O 29)::cnd (D 5) (agg (Qaa ((rdL x70 x72 Qap).Qax)).toArray) (O 30)::cnd (D 6) v74 (O 31)::cnd (D 7) (int .i64 (r73.length:Int)) (O 32)::cnd (D 8) (int .i64 0) (O 33)::O 34::O 35::O 36::O 37::O 38::O 39::oT O 4 (oT O 5 (O 60::O 61::O 62::O 63::O 64::[])))∧St w0 [Asc (D 6) (Row 46 (K.int .u16) v74 r73),Cells b4 (([int .i8 a1.Qad,int .i8 a1.Qag,v2]:List Value)) 27,Row 82 Qa5 v69 x70,MapAs b11 Qbu bool x71] w) ?_ ⟨⟨⟨⟨⟨⟨⟨⟨⟨trivial,?_⟩,?_⟩,?_⟩,?_⟩,?_⟩,?_⟩,?_⟩,?_⟩,?_⟩ ?_
  ·
   intro w hh hbw
   have hs:=hs.samew hh hbw
   have hs:=hs.emp
   exact ⟨undef,fun i=>T.getD i undef,(by subst hT;rfl),hs⟩
  ·
   rintro D t w hD hp hcl ⟨v74,O,ht,hs⟩ rest hk
   have q6_:=nz hcl 6 0 hD
   have q7_:=nz hcl 7 0 q6_
   simp only [hD,q6_,q7_,cq,oT] at ht hs
   subst ht
   refine QaF rfl rfl (es:=(([int .i8 a1.Qad,int .i8 a1.Qag,v2]:List Value))) rfl rfl (fun _=>rfl) (n:=3) (fun _=>rfl) rfl (cells_all (hs.cells 1 rfl)) (g_d rfl ?_)
   try dsimp only [Qah,Qai]
   refine hk _ _ ⟨v74,O,?_,hs.cast ?_⟩<;>simp only [oT,lq,cq,Nat.reduceBEq,q6_,q7_]
  ·
   rintro D t w hD hp hcl ⟨v74,O,ht,hs⟩ rest hk
   have q3_:=nz hcl 3 0 hD
   have q4_:=nz hcl 4 0 q3_
   have q5_:=nz hcl 5 0 q4_
   have q6_:=nz hcl 6 1 q5_
   have q7_:=nz hcl 7 0 q6_
   simp only [hD,q3_,q4_,q5_,q6_,q7_,cq,oT] at ht hs
   subst ht
   refine Qab (v:=v69) rfl rfl rfl (g_d rfl ?_)
   try dsimp only [Qah,Qai]
   refine hk _ _ ⟨v74,O,?_,hs.cast ?_⟩<;>simp only [oT,lq,cq,Nat.reduceBEq,q3_,q4_,q5_,q6_,q7_]
  ·
   rintro D t w hD hp hcl ⟨v74,O,ht,hs⟩ rest hk
   have q3_:=nz hcl 3 1 hD
   have q4_:=nz hcl 4 0 q3_
   have q5_:=nz hcl 5 0 q4_
   have q6_:=nz hcl 6 1 q5_
   have q7_:=nz hcl 7 0 q6_
   simp only [hD,q3_,q4_,q5_,q6_,q7_,cq,oT] at ht hs
   subst ht
   refine Qab (v:=int .i64 x72) rfl rfl rfl (g_d rfl ?_)
   try dsimp only [Qah,Qai]
   refine hk _ _ ⟨v74,O,?_,hs.cast ?_⟩<;>simp only [oT,lq,cq,Nat.reduceBEq,q3_,q4_,q5_,q6_,q7_]
  ·
   rintro D t w hD hp hcl ⟨v74,O,ht,hs⟩ rest hk
   obtain ⟨p1_,p2_,_⟩:=hp
   have q4_:=nz hcl 4 0 hD
   have q5_:=nz hcl 5 0 q4_
   have q6_:=nz hcl 6 1 q5_
   have q7_:=nz hcl 7 0 q6_
   simp only [hD,p1_,p2_,q4_,q5_,q6_,q7_,cq,oT] at ht hs
   subst ht
   refine QbJ (κ:=Qa5) (m:=5) rfl (hs.row 2 rfl) rfl (fun _=>rfl) gd12.1 gd12.2 had13_ rfl rfl rfl rfl rfl (g_d rfl ?_)
   try dsimp only [Qah,Qai]
   refine hk _ _ ⟨v74,O,?_,hs.cast ?_⟩<;>simp only [oT,lq,cq,Nat.reduceBEq,p1_,p2_,q4_,q5_,q6_,q7_]
  ·
   rintro D t w hD hp hcl ⟨v74,O,ht,hs⟩ rest hk
   obtain ⟨p3_,_⟩:=hp
   obtain ⟨p1_,p2_,_⟩:=(hcl.get 3 (by decide)) p3_
   have q5_:=nz hcl 5 0 hD
   have q6_:=nz hcl 6 1 q5_
   have q7_:=nz hcl 7 0 q6_
   simp only [hD,p1_,p2_,p3_,q5_,q6_,q7_,cq,oT] at ht hs
   subst ht
   refine Qab (v:=pointer (some ((ad13_.add (x72.toNat*5)).add 0))) rfl rfl (Qcv rfl rfl rfl rfl rfl (m:=2) (fun _=>rfl) (by decide)) (g_d rfl ?_)
   try dsimp only [Qah,Qai]
   refine hk _ _ ⟨v74,O,?_,hs.cast ?_⟩<;>simp only [oT,lq,cq,Nat.reduceBEq,p1_,p2_,p3_,q5_,q6_,q7_]
  ·
   rintro D t w hD hp hcl ⟨v74,O,ht,hs⟩ rest hk
   obtain ⟨p4_,_⟩:=hp
   obtain ⟨p3_,_⟩:=(hcl.get 4 (by decide)) p4_
   obtain ⟨p1_,p2_,_⟩:=(hcl.get 3 (by decide)) p3_
   have q6_:=nz hcl 6 1 hD
   have q7_:=nz hcl 7 0 q6_
   simp only [hD,p1_,p2_,p3_,p4_,q6_,q7_,cq,oT] at ht hs
   subst ht
   refine QaF rfl rfl (es:=(Qaa ((rdL x70 x72 Qap).Qax))) rfl rfl (fun _=>rfl) (n:=2) (fun _=>rfl) (Qam.len _) (CellsAt.sub (cellsAt_of Qa6 Qap (hs.row 2 rfl) had13_ gd12.1 gd12.2) 0 2 (by first|rfl|(simp [QaE,Qcc,List.drop_append,List.take_append,encAI_len,encAB_len,encA_len,List.take_of_length_le,List.drop_eq_nil_of_le]))) ?_
   refine g_d rfl ?_
   try dsimp only [Qah,Qai]
   refine hk _ _ ⟨v74,O,?_,hs.cast ?_⟩<;>simp only [oT,lq,cq,Nat.reduceBEq,p1_,p2_,p3_,p4_,q6_,q7_]
  ·
   rintro D t w hD hp hcl ⟨v74,O,ht,hs⟩ rest hk
   obtain ⟨p0_,p5_,_⟩:=hp
   obtain ⟨p4_,_⟩:=(hcl.get 5 (by decide)) p5_
   obtain ⟨p3_,_⟩:=(hcl.get 4 (by decide)) p4_
   obtain ⟨p1_,p2_,_⟩:=(hcl.get 3 (by decide)) p3_
   have q7_:=nz hcl 7 0 hD
   simp only [hD,p0_,p1_,p2_,p3_,p4_,p5_,q7_,cq,oT] at ht hs
   subst ht
   refine Qaz (args:=[agg (([int .i8 a1.Qad,int .i8 a1.Qag,v2]:List Value)).toArray,agg (Qaa ((rdL x70 x72 Qap).Qax)).toArray]) rfl rfl (QaA rfl (callFunc_enter Tryz.func45 rfl rfl) rfl) (QaN.calls (a1:=(⟨a1.Qad,a1.Qag,a1.Qal⟩:Qaf)) (a4:=(rdL x70 x72 Qap).Qax) (hs.rd hr3) Hr73) ?_
   intro v74 w hs2
   have hs:St _ [_,_,_,_,_] _:=hs.call hs2
   refine g_d rfl ?_
   try dsimp only [Qah,Qai]
   have hs:=hs.fill 0 rfl
   refine hk _ _ ⟨v74,O,?_,hs.cast ?_⟩<;>simp only [oT,lq,cq,Nat.reduceBEq,p0_,p1_,p2_,p3_,p4_,p5_,q7_]
  ·
   rintro D t w hD hp hcl ⟨v74,O,ht,hs⟩ rest hk
   obtain ⟨p6_,_⟩:=hp
   obtain ⟨p0_,p5_,_⟩:=(hcl.get 6 (by decide)) p6_
   obtain ⟨p4_,_⟩:=(hcl.get 5 (by decide)) p5_
   obtain ⟨p3_,_⟩:=(hcl.get 4 (by decide)) p4_
   obtain ⟨p1_,p2_,_⟩:=(hcl.get 3 (by decide)) p3_
   simp only [hD,p0_,p1_,p2_,p3_,p4_,p5_,p6_,cq,oT] at ht hs
   subst ht
   refine QbC (hs.row 0 rfl) rfl rfl rfl rfl rfl (g_d rfl ?_)
   try dsimp only [Qah,Qai]
   refine hk _ _ ⟨v74,O,?_,hs.cast ?_⟩<;>simp only [oT,lq,cq,Nat.reduceBEq,p0_,p1_,p2_,p3_,p4_,p5_,p6_]
  ·
   rintro D t w hD hp hcl ⟨v74,O,ht,hs⟩ rest hk
   simp only [hD,cq,oT] at ht hs
   subst ht
   refine Qab (v:=int .i64 0) rfl rfl rfl (g_d rfl ?_)
   try dsimp only [Qah,Qai]
   refine hk _ _ ⟨v74,O,?_,hs.cast ?_⟩<;>simp only [oT,lq,cq,Nat.reduceBEq]
  intro D t w hall hI
  obtain ⟨v74,O,ht,hs⟩:=hI
  have p0_:=hall 0 (by decide)
  have p1_:=hall 1 (by decide)
  have p2_:=hall 2 (by decide)
  have p3_:=hall 3 (by decide)
  have p4_:=hall 4 (by decide)
  have p5_:=hall 5 (by decide)
  have p6_:=hall 6 (by decide)
  have p7_:=hall 7 (by decide)
  have p8_:=hall 8 (by decide)
  simp only [p0_,p1_,p2_,p3_,p4_,p5_,p6_,p7_,p8_,cq,oT] at ht hs
  subst ht
  obtain ⟨o2_,Ho,Hr2_⟩:=bind_get H
  refine QaR (J:=fun t w=>∃ v118:Value,∃ x119:(List QaC),∃ x121:(List (Qak×Bool)),Qau.a2 N x72 x119 x121=some x23_∧Fr t (fun O=>(O 0::pointer (some ⟨b4,0,none⟩)::O 2::O 3::v118::Value.map (some b11)::int .i64 x72::O 7::O 8::O 9::oT O 1 (oT O 2 (oT O 3 (oT O 4 (oT O 5 (O 60::O 61::O 62::O 63::O 64::[]))))):List Value))∧St w0 [Cells b4 (([int .i8 a1.Qad,int .i8 a1.Qag,v2]:List Value)) 27,Row 82 Qa5 v118 x119,MapAs b11 Qbu bool x121] w) ?_ ?_
  ·
   rintro t w ⟨v118,x119,x121,H,hf,hs⟩
   obtain ⟨O,rfl⟩:=hf.open
   try dsimp only [oT]
   unfold Qau.a2 at H
   refine Qa0 (Qan [0,1,2] rfl ?_)
   refine Qab (v:=int .i64 x72) rfl rfl rfl (g_d rfl ?_)
   refine Qab (v:=int .i64 (i64w (x72+1))) rfl rfl rfl (g_d rfl ?_)
   refine Qab (v:=int .i64 (i64w (x72+1))) rfl rfl rfl (g_d rfl ?_)
   try dsimp only [Qah,Qai]
   refine Qac ?_
   obtain rfl:=QsJ H
   have hs:=hs.pull 2 rfl
   have hs:=hs.pull 2 rfl
   have hs:=hs.pull 2 rfl
   have hs:St _ [_,_,_] _:=St.take (Γ':=[]) hs
   exact ih1_ _ _ ⟨v118,x119,x121,i64w (x72+1),Hx1_,rfl,hs⟩
  intro ha2_
  have hs:=hs.pull 0 rfl
  have hs:=hs.pull 3 rfl
  have hs:=hs.pull 3 rfl
  have hs:=hs.pull 3 rfl
  have hs:St _ [_,_,_,_] _:=St.take (Γ':=[]) hs
  refine Qba (I:=fun n_ t w=>∃ v98:Value,∃ x99:(List QaC),∃ x100:(List (Qak×Bool)),∃ x101:Int,rounds (fun s=>Qau.b2 N r73 x72 s.1 s.2.1 s.2.2) n_ (x99,x100,x101)=some o2_∧Fr t (fun O=>(O 0::pointer (some ⟨b4,0,none⟩)::O 2::O 3::v98::Value.map (some b11)::int .i64 x72::O 7::O 8::O 9::oT O 1 (oT O 2 (O 30::v74::int .i64 (r73.length:Int)::int .i64 x101::O 34::O 35::O 36::O 37::O 38::O 39::oT O 4 (oT O 5 (O 60::O 61::O 62::O 63::O 64::[])))):List Value))∧St w0 [Cells b4 (([int .i8 a1.Qad,int .i8 a1.Qag,v2]:List Value)) 27,Row 82 Qa5 v98 x99,MapAs b11 Qbu bool x100,Row 46 (K.int .u16) v74 r73] w) N ⟨v69,x70,x71,0,Ho,rfl,hs⟩ ?_ ?_
  ·
   rintro _ _ ⟨v98,x99,x100,x101,h,_⟩
   exact rounds_zero h
  intro n_ ih2_
  rintro t w ⟨v98,x99,x100,x101,Ho,hf,hs⟩
  obtain ⟨O,rfl⟩:=hf.open
  try dsimp only [oT]
  obtain ⟨x22_,H,Hx2_⟩:=rounds_succ Ho
  have H:Qau.b2 N r73 x72 x99 x100 x101=some x22_:=H
  unfold Qau.b2 at H
  refine Qaj (Qan [0] rfl ?_)
  refine QaI (B:=decide (x101< (r73.length:Int))) rfl rfl rfl ?_ ?_
  ·
   intro hb
   rw [if_pos (b_dec_t hb)] at H
   refine g_d rfl (Qac (Qaj (Qaq rfl (QaK (Qaj ?_)))))
   refine QaR (J:=(fun t w=>∃ v113:Value,∃ x114:(List QaC),∃ x116:(List (Qak×Bool)),Qau.j4 N x101 x114 x116=some x22_∧Fr t (fun O=>(O 0::pointer (some ⟨b4,0,none⟩)::O 2::O 3::v113::Value.map (some b11)::int .i64 x72::O 7::O 8::O 9::oT O 1 (oT O 2 (O 30::v74::int .i64 (r73.length:Int)::int .i64 x101::O 34::O 35::O 36::O 37::O 38::O 39::oT O 4 (oT O 5 (O 60::O 61::O 62::O 63::O 64::[])))):List Value))∧St w0 [Cells b4 (([int .i8 a1.Qad,int .i8 a1.Qag,v2]:List Value)) 27,Row 82 Qa5 v113 x114,MapAs b11 Qbu bool x116,Row 46 (K.int .u16) v74 r73] w)) ?_ ?_
   ·
    rintro t w ⟨v113,x114,x116,H,hf,hs⟩
    obtain ⟨O,rfl⟩:=hf.open
    try dsimp only [oT]
    unfold Qau.j4 at H
    refine Qan [0,1] rfl ?_
    refine Qab (v:=int .i64 (i64w (x101+1))) rfl rfl rfl (g_d rfl ?_)
    refine Qab (v:=int .i64 (i64w (x101+1))) rfl rfl rfl (g_d rfl (Qac ?_))
    obtain rfl:=QsJ H
    have hs:=hs.pull 3 rfl
    have hs:=hs.pull 3 rfl
    have hs:=hs.pull 3 rfl
    have hs:=hs.pull 3 rfl
    have hs:St _ [_,_,_,_] _:=St.take (Γ':=[]) hs
    exact ih2_ _ _ ⟨v113,x114,x116,i64w (x101+1),Hx2_,rfl,hs⟩
   intro ha
   refine Qaj (Qan [0,1,2] rfl ?_)
   obtain ⟨g18,H⟩:=ite_get H
   refine QbQ (fkI .u16) 0 (hs.row 3 rfl) rfl (fun _=>rfl) g18.1 g18.2 rfl rfl rfl rfl rfl ?_
   intro p102 hp102 lp102 op102
   refine g_d rfl ?_
   try dsimp only [Qah,Qai]
   refine Qaw rfl rfl (v:=int .u16 (rdL r73 x101 0)) rfl rfl (fun _=>rfl) hp102 (g_d rfl ?_)
   refine Qab (v:=int .u16 (rdL r73 x101 0)) rfl rfl rfl (g_d rfl ?_)
   try dsimp only [Qah,Qai]
   refine Qac (Qaj (Qan [0,1,2,3,4,5,6,7,8] rfl ?_))
   refine Qab (v:=v98) rfl rfl rfl (g_d rfl ?_)
   refine Qab (v:=int .i64 x72) rfl rfl rfl (g_d rfl ?_)
   obtain ⟨g19,H⟩:=ite_get H
   refine QbQ Qa6 Qap (hs.row 1 rfl) rfl (fun _=>rfl) g19.1 g19.2 rfl rfl rfl rfl rfl ?_
   intro p103 hp103 lp103 op103
   refine g_d rfl ?_
   refine Qab (v:=pointer (some (p103.add 0))) rfl rfl (Qcv rfl rfl rfl rfl rfl (m:=2) (fun _=>rfl) (by decide)) (g_d rfl ?_)
   refine QaF rfl rfl (es:=(Qaa ((rdL x99 x72 Qap).Qax))) rfl rfl (fun _=>rfl) (n:=2) (fun _=>rfl) (Qam.len _) (CellsAt.sub hp103 0 2 (by first|rfl|(simp [QaE,Qcc,List.drop_append,List.take_append,encAI_len,encAB_len,encA_len,List.take_of_length_le,List.drop_eq_nil_of_le]))) (g_d rfl ?_)
   try dsimp only [Qah,Qai]
   refine Qab (v:=int .u16 (rdL r73 x101 0)) rfl rfl rfl (g_d rfl ?_)
   obtain ⟨r104,Hr104,H⟩:=bind_get H
   refine Qaz (args:=[agg (Qaa ((rdL x99 x72 Qap).Qax)).toArray,int .u16 (rdL r73 x101 0)]) rfl rfl (QaA rfl (callFunc_enter Tryz.func46 rfl rfl) rfl) (Qbm.calls (a1:=(rdL x99 x72 Qap).Qax) (a2:=rdL r73 x101 0) Hr104) ?_
   rintro _ w ⟨rfl,hs2⟩
   have hs:St _ [_,_,_,_] _:=hs.call hs2
   refine g_d rfl ?_
   refine QbI hs rfl rfl (z:=(agg #[int .u16 0,bool false])) (cs:=(Qaa Qa9)) rfl (fun _=>rfl) rfl ?_
   intro b105 w hs
   refine g_d rfl ?_
   try dsimp only [Qah,Qai]
   refine QaY (n:=2) hs (Qam.len _) rfl rfl (vs:=(Qaa r104)) rfl rfl rfl (fun _=>rfl) (Qam.len _) (Qam.one _) ?_
   intro w hs
   refine g_n rfl (Qac (Qaj (Qan [0,1,2,3] rfl ?_)))
   refine Qab (v:=Value.map (some b11)) rfl rfl rfl (g_d rfl ?_)
   refine QaF rfl rfl (es:=(Qaa r104)) rfl rfl (fun _=>rfl) (n:=2) (fun _=>rfl) (Qam.len _) (cells_all (hs.cells 0 rfl)) (g_d rfl ?_)
   refine QaI (B:=mGet x100 r104 false) rfl rfl (QcF QbR (a:=r104) (z:=false) (hs.mp 3 rfl) rfl Tryz.underlying130 rfl rfl (fun _=>rfl)) ?_ ?_
   ·
    intro hb
    rw [if_pos (b_var_t hb)] at H
    refine g_d rfl ?_
    refine Qab (v:=bool false) rfl rfl rfl (g_d rfl ?_)
    try dsimp only [Qah,Qai]
    refine Qac (Qas rfl (QaK ?_))
    refine Qa0 ?_
    have hs:=hs.pull 4 rfl
    have hs:=hs.pull 4 rfl
    have hs:=hs.pull 4 rfl
    have hs:=hs.pull 4 rfl
    have hs:St _ [_,_,_,_] _:=St.take (Γ':=[_]) hs
    exact ha _ _ ⟨v98,x99,x100,H,rfl,hs⟩
   intro hb
   rw [if_neg (b_var_f hb)] at H
   refine g_d rfl ?_
   try dsimp only [Qah,Qai]
   refine Qab (v:=bool true) rfl rfl rfl (g_d rfl (Qac (Qaq rfl (Qaj (Qan [0,1,2] rfl ?_)))))
   refine Qab (v:=Value.map (some b11)) rfl rfl rfl (g_d rfl ?_)
   refine QaF rfl rfl (es:=(Qaa r104)) rfl rfl (fun _=>rfl) (n:=2) (fun _=>rfl) (Qam.len _) (cells_all (hs.cells 0 rfl)) (g_d rfl ?_)
   try dsimp only [Qah,Qai]
   have hs:St _ [_,_,_,_,_] _:=hs.pull 3 rfl
   refine QcM QbR (a:=r104) (v:=true) hs rfl rfl (.inl rfl) Tryz.underlying130 rfl rfl rfl ?_
   intro w hs
   refine g_n rfl (Qac ?_)
   obtain ⟨gd20,H⟩:=ite_get H
   obtain ⟨ad21_,ad21_N,ad21_C,had21_⟩:=sl_at (hs.row 3 rfl) gd20.1 gd20.2
   obtain ⟨gq12_,H⟩:=ite_get H
   refine QaV ?_
   intro T hT
   refine QbZ (n:=14) rfl [0,1,2,3,4,5,6,7,8,9,10,11,12,13] [0,1,2,3,4,5,6,7,8,9,10,11,12,13] rfl rfl (Inv:=fun D t w=>∃ v107:Value,∃ v109:Value,∃ O:Nat→Value,t=(O 0::pointer (some ⟨b4,0,none⟩)::O 2::O 3::cnd (D 13) v109 v98::Value.map (some b11)::int .i64 x72::O 7::int .u16 (rdL r73 x101 0)::pointer (some ⟨b105,0,none⟩)::oT O 1 (oT O 2 (O 30::v74::int .i64 (r73.length:Int)::int .i64 x101::bool true::pointer (some p102)::int .u16 (rdL r73 x101 0)::v98::int .i64 x72::pointer (some p103)::pointer (some (p103.add 0))::agg (Qaa ((rdL x99 x72 Qap).Qax)).toArray::int .u16 (rdL r73 x101 0)::agg (Qaa r104).toArray::Value.map (some b11)::agg (Qaa r104).toArray::bool false::bool true::Value.map (some b11)::agg (Qaa r104).toArray::cnd (D 0) v98 (O 50)::cnd (D 1) (agg (Qaa r104).toArray) (O 51)::cnd (D 2) (int .i64 x72) (O 52)::cnd (D 3) (int .u16 (rdL r73 x101 0)) (O 53)::cnd (D 4) v98 (O 54)::cnd (D 5) (int .i64 x72) (O 55)::cnd (D 6) (pointer (some (ad21_.add (x72.toNat*5)))) (O 56)::cnd (D 7) (pointer (some ((ad21_.add (x72.toNat*5)).add 4))) (O 57)::cnd (D 8) (int .i64 ((rdL x99 x72 Qap).QaQ)) (O 58)::cnd (D 9) (int .i64 (i64w (((rdL x99 x72 Qap).QaQ)+1))) (O 59)::cnd (D 10) (agg (QaE (⟨r104,x72,rdL r73 x101 0,i64w (((rdL x99 x72 Qap).QaQ)+1)⟩:QaC)).toArray) (O 60)::cnd (D 11) v107 (O 61)::cnd (D 12) v109 (O 62)::O 63::O 64::[])))∧St w0 [Asc (D 11) (Row 82 Qa5 v107 ([(⟨r104,x72,rdL r73 x101 0,i64w (((rdL x99 x72 Qap).QaQ)+1)⟩:QaC)])),MapAs b11 Qbu bool (mSet x100 r104 true),Cells b105 (Qaa r104) 48,Cells b4 (([int .i8 a1.Qad,int .i8 a1.Qag,v2]:List Value)) 27,Row 82 Qa5 (cnd (D 12) v109 v98) (cnd (D 12) (x99++([(⟨r104,x72,rdL r73 x101 0,i64w (((rdL x99 x72 Qap).QaQ)+1)⟩:QaC)])) x99),Row 46 (K.int .u16) v74 r73] w) ?_ ⟨⟨⟨⟨⟨⟨⟨⟨⟨⟨⟨⟨⟨⟨trivial,?_⟩,?_⟩,?_⟩,?_⟩,?_⟩,?_⟩,?_⟩,?_⟩,?_⟩,?_⟩,?_⟩,?_⟩,?_⟩,?_⟩ ?_
   ·
    intro w hh hbw
    have hs:=hs.samew hh hbw
    have hs:=hs.emp
    exact ⟨undef,undef,fun i=>T.getD i undef,(by subst hT;rfl),hs⟩
   ·
    rintro D t w hD hp hcl ⟨v107,v109,O,ht,hs⟩ rest hk
    have q12_:=nz hcl 12 0 hD
    have q13_:=nz hcl 13 0 q12_
    simp only [hD,q12_,q13_,cq,oT] at ht hs
    subst ht
    refine Qab (v:=v98) rfl rfl rfl (g_d rfl ?_)
    try dsimp only [Qah,Qai]
    refine hk _ _ ⟨v107,v109,O,?_,hs.cast ?_⟩<;>simp only [oT,lq,cq,Nat.reduceBEq,q12_,q13_]
   ·
    rintro D t w hD hp hcl ⟨v107,v109,O,ht,hs⟩ rest hk
    have q10_:=nz hcl 10 0 hD
    have q11_:=nz hcl 11 0 q10_
    have q12_:=nz hcl 12 1 q11_
    have q13_:=nz hcl 13 0 q12_
    simp only [hD,q10_,q11_,q12_,q13_,cq,oT] at ht hs
    subst ht
    refine QaF rfl rfl (es:=(Qaa r104)) rfl rfl (fun _=>rfl) (n:=2) (fun _=>rfl) (Qam.len _) (cells_all (hs.cells 2 rfl)) (g_d rfl ?_)
    try dsimp only [Qah,Qai]
    refine hk _ _ ⟨v107,v109,O,?_,hs.cast ?_⟩<;>simp only [oT,lq,cq,Nat.reduceBEq,q10_,q11_,q12_,q13_]
   ·
    rintro D t w hD hp hcl ⟨v107,v109,O,ht,hs⟩ rest hk
    have q10_:=nz hcl 10 1 hD
    have q11_:=nz hcl 11 0 q10_
    have q12_:=nz hcl 12 1 q11_
    have q13_:=nz hcl 13 0 q12_
    simp only [hD,q10_,q11_,q12_,q13_,cq,oT] at ht hs
    subst ht
    refine Qab (v:=int .i64 x72) rfl rfl rfl (g_d rfl ?_)
    try dsimp only [Qah,Qai]
    refine hk _ _ ⟨v107,v109,O,?_,hs.cast ?_⟩<;>simp only [oT,lq,cq,Nat.reduceBEq,q10_,q11_,q12_,q13_]
   ·
    rintro D t w hD hp hcl ⟨v107,v109,O,ht,hs⟩ rest hk
    have q10_:=nz hcl 10 2 hD
    have q11_:=nz hcl 11 0 q10_
    have q12_:=nz hcl 12 1 q11_
    have q13_:=nz hcl 13 0 q12_
    simp only [hD,q10_,q11_,q12_,q13_,cq,oT] at ht hs
    subst ht
    refine Qab (v:=int .u16 (rdL r73 x101 0)) rfl rfl rfl (g_d rfl ?_)
    try dsimp only [Qah,Qai]
    refine hk _ _ ⟨v107,v109,O,?_,hs.cast ?_⟩<;>simp only [oT,lq,cq,Nat.reduceBEq,q10_,q11_,q12_,q13_]
   ·
    rintro D t w hD hp hcl ⟨v107,v109,O,ht,hs⟩ rest hk
    have q6_:=nz hcl 6 0 hD
    have q7_:=nz hcl 7 0 q6_
    have q8_:=nz hcl 8 0 q7_
    have q9_:=nz hcl 9 0 q8_
    have q10_:=nz hcl 10 3 q9_
    have q11_:=nz hcl 11 0 q10_
    have q12_:=nz hcl 12 1 q11_
    have q13_:=nz hcl 13 0 q12_
    simp only [hD,q6_,q7_,q8_,q9_,q10_,q11_,q12_,q13_,cq,oT] at ht hs
    subst ht
    refine Qab (v:=v98) rfl rfl rfl (g_d rfl ?_)
    try dsimp only [Qah,Qai]
    refine hk _ _ ⟨v107,v109,O,?_,hs.cast ?_⟩<;>simp only [oT,lq,cq,Nat.reduceBEq,q6_,q7_,q8_,q9_,q10_,q11_,q12_,q13_]
   ·
    rintro D t w hD hp hcl ⟨v107,v109,O,ht,hs⟩ rest hk
    have q6_:=nz hcl 6 1 hD
    have q7_:=nz hcl 7 0 q6_
    have q8_:=nz hcl 8 0 q7_
    have q9_:=nz hcl 9 0 q8_
    have q10_:=nz hcl 10 3 q9_
    have q11_:=nz hcl 11 0 q10_
    have q12_:=nz hcl 12 1 q11_
    have q13_:=nz hcl 13 0 q12_
    simp only [hD,q6_,q7_,q8_,q9_,q10_,q11_,q12_,q13_,cq,oT] at ht hs
    subst ht
    refine Qab (v:=int .i64 x72) rfl rfl rfl (g_d rfl ?_)
    try dsimp only [Qah,Qai]
    refine hk _ _ ⟨v107,v109,O,?_,hs.cast ?_⟩<;>simp only [oT,lq,cq,Nat.reduceBEq,q6_,q7_,q8_,q9_,q10_,q11_,q12_,q13_]
   ·
    rintro D t w hD hp hcl ⟨v107,v109,O,ht,hs⟩ rest hk
    obtain ⟨p4_,p5_,_⟩:=hp
    have q7_:=nz hcl 7 0 hD
    have q8_:=nz hcl 8 0 q7_
    have q9_:=nz hcl 9 0 q8_
    have q10_:=nz hcl 10 3 q9_
    have q11_:=nz hcl 11 0 q10_
    have q12_:=nz hcl 12 1 q11_
    have q13_:=nz hcl 13 0 q12_
    simp only [hD,p4_,p5_,q7_,q8_,q9_,q10_,q11_,q12_,q13_,cq,oT] at ht hs
    subst ht
    refine QbJ (κ:=Qa5) (m:=5) rfl (hs.row 4 rfl) rfl (fun _=>rfl) gd20.1 gd20.2 had21_ rfl rfl rfl rfl rfl (g_d rfl ?_)
    try dsimp only [Qah,Qai]
    refine hk _ _ ⟨v107,v109,O,?_,hs.cast ?_⟩<;>simp only [oT,lq,cq,Nat.reduceBEq,p4_,p5_,q7_,q8_,q9_,q10_,q11_,q12_,q13_]
   ·
    rintro D t w hD hp hcl ⟨v107,v109,O,ht,hs⟩ rest hk
    obtain ⟨p6_,_⟩:=hp
    obtain ⟨p4_,p5_,_⟩:=(hcl.get 6 (by decide)) p6_
    have q8_:=nz hcl 8 0 hD
    have q9_:=nz hcl 9 0 q8_
    have q10_:=nz hcl 10 3 q9_
    have q11_:=nz hcl 11 0 q10_
    have q12_:=nz hcl 12 1 q11_
    have q13_:=nz hcl 13 0 q12_
    simp only [hD,p4_,p5_,p6_,q8_,q9_,q10_,q11_,q12_,q13_,cq,oT] at ht hs
    subst ht
    refine Qab (v:=pointer (some ((ad21_.add (x72.toNat*5)).add 4))) rfl rfl (Qcv rfl rfl rfl rfl rfl (m:=1) (fun _=>rfl) (by decide)) (g_d rfl ?_)
    try dsimp only [Qah,Qai]
    refine hk _ _ ⟨v107,v109,O,?_,hs.cast ?_⟩<;>simp only [oT,lq,cq,Nat.reduceBEq,p4_,p5_,p6_,q8_,q9_,q10_,q11_,q12_,q13_]
   ·
    rintro D t w hD hp hcl ⟨v107,v109,O,ht,hs⟩ rest hk
    obtain ⟨p7_,_⟩:=hp
    obtain ⟨p6_,_⟩:=(hcl.get 7 (by decide)) p7_
    obtain ⟨p4_,p5_,_⟩:=(hcl.get 6 (by decide)) p6_
    have q9_:=nz hcl 9 0 hD
    have q10_:=nz hcl 10 3 q9_
    have q11_:=nz hcl 11 0 q10_
    have q12_:=nz hcl 12 1 q11_
    have q13_:=nz hcl 13 0 q12_
    simp only [hD,p4_,p5_,p6_,p7_,q9_,q10_,q11_,q12_,q13_,cq,oT] at ht hs
    subst ht
    refine Qaw rfl rfl (v:=int .i64 ((rdL x99 x72 Qap).QaQ)) rfl rfl (fun _=>rfl) (CellsAt.sub (cellsAt_of Qa6 Qap (hs.row 4 rfl) had21_ gd20.1 gd20.2) 4 1 (by first|rfl|(simp [QaE,Qcc,List.drop_append,List.take_append,encAI_len,encAB_len,encA_len,List.take_of_length_le,List.drop_eq_nil_of_le]))) (g_d rfl ?_)
    try dsimp only [Qah,Qai]
    refine hk _ _ ⟨v107,v109,O,?_,hs.cast ?_⟩<;>simp only [oT,lq,cq,Nat.reduceBEq,p4_,p5_,p6_,p7_,q9_,q10_,q11_,q12_,q13_]
   ·
    rintro D t w hD hp hcl ⟨v107,v109,O,ht,hs⟩ rest hk
    obtain ⟨p8_,_⟩:=hp
    obtain ⟨p7_,_⟩:=(hcl.get 8 (by decide)) p8_
    obtain ⟨p6_,_⟩:=(hcl.get 7 (by decide)) p7_
    obtain ⟨p4_,p5_,_⟩:=(hcl.get 6 (by decide)) p6_
    have q10_:=nz hcl 10 3 hD
    have q11_:=nz hcl 11 0 q10_
    have q12_:=nz hcl 12 1 q11_
    have q13_:=nz hcl 13 0 q12_
    simp only [hD,p4_,p5_,p6_,p7_,p8_,q10_,q11_,q12_,q13_,cq,oT] at ht hs
    subst ht
    refine Qab (v:=int .i64 (i64w (((rdL x99 x72 Qap).QaQ)+1))) rfl rfl rfl (g_d rfl ?_)
    try dsimp only [Qah,Qai]
    refine hk _ _ ⟨v107,v109,O,?_,hs.cast ?_⟩<;>simp only [oT,lq,cq,Nat.reduceBEq,p4_,p5_,p6_,p7_,p8_,q10_,q11_,q12_,q13_]
   ·
    rintro D t w hD hp hcl ⟨v107,v109,O,ht,hs⟩ rest hk
    obtain ⟨p1_,p2_,p3_,p9_,_⟩:=hp
    obtain ⟨p8_,_⟩:=(hcl.get 9 (by decide)) p9_
    obtain ⟨p7_,_⟩:=(hcl.get 8 (by decide)) p8_
    obtain ⟨p6_,_⟩:=(hcl.get 7 (by decide)) p7_
    obtain ⟨p4_,p5_,_⟩:=(hcl.get 6 (by decide)) p6_
    have q11_:=nz hcl 11 0 hD
    have q12_:=nz hcl 12 1 q11_
    have q13_:=nz hcl 13 0 q12_
    simp only [hD,p1_,p2_,p3_,p4_,p5_,p6_,p7_,p8_,p9_,q11_,q12_,q13_,cq,oT] at ht hs
    subst ht
    refine Qab (v:=agg (QaE (⟨r104,x72,rdL r73 x101 0,i64w (((rdL x99 x72 Qap).QaQ)+1)⟩:QaC)).toArray) rfl rfl (Qbt (cs:=(QaE (⟨r104,x72,rdL r73 x101 0,i64w (((rdL x99 x72 Qap).QaQ)+1)⟩:QaC))) (segs:=[[int .u16 0,bool false],[int .i64 0],[int .u16 0],[int .i64 0]]) rfl rfl (fun _=>rfl) ⟨rfl,(fun _=>rfl),rfl,(fun _=>rfl),rfl,(fun _=>rfl),rfl,(fun _=>rfl),trivial⟩ (by simp only [List.map_cons,List.map_nil,List.forall_mem_cons,List.not_mem_nil,false_implies,implies_true,and_true];exact ⟨⟨_,rfl,Qam.len _⟩,⟨_,rfl,rfl⟩,⟨_,rfl,rfl⟩,⟨_,rfl,rfl⟩⟩) (by first|rfl|(simp [ev,QaE];done)|(simp [ev,QaE];rfl))) ?_
    refine g_d rfl ?_
    try dsimp only [Qah,Qai]
    refine hk _ _ ⟨v107,v109,O,?_,hs.cast ?_⟩<;>simp only [oT,lq,cq,Nat.reduceBEq,p1_,p2_,p3_,p4_,p5_,p6_,p7_,p8_,p9_,q11_,q12_,q13_]
   ·
    rintro D t w hD hp hcl ⟨v107,v109,O,ht,hs⟩ rest hk
    obtain ⟨p10_,_⟩:=hp
    obtain ⟨p1_,p2_,p3_,p9_,_⟩:=(hcl.get 10 (by decide)) p10_
    obtain ⟨p8_,_⟩:=(hcl.get 9 (by decide)) p9_
    obtain ⟨p7_,_⟩:=(hcl.get 8 (by decide)) p8_
    obtain ⟨p6_,_⟩:=(hcl.get 7 (by decide)) p7_
    obtain ⟨p4_,p5_,_⟩:=(hcl.get 6 (by decide)) p6_
    have q12_:=nz hcl 12 1 hD
    have q13_:=nz hcl 13 0 q12_
    simp only [hD,p1_,p2_,p3_,p4_,p5_,p6_,p7_,p8_,p9_,p10_,q12_,q13_,cq,oT] at ht hs
    subst ht
    refine Qcq Qa6 (y:=(⟨r104,x72,rdL r73 x101 0,i64w (((rdL x99 x72 Qap).QaQ)+1)⟩:QaC)) hs rfl rfl rfl rfl (fun _=>rfl) (zv:=(agg #[int .u16 0,bool false,int .i64 0,int .u16 0,int .i64 0])) (fun _=>rfl) rfl (by decide) (by decide) rfl ?_
    intro v107 w hs
    refine g_d rfl ?_
    try dsimp only [Qah,Qai]
    have hs:=hs.fill 0 rfl
    refine hk _ _ ⟨v107,v109,O,?_,hs.cast ?_⟩<;>simp only [oT,lq,cq,Nat.reduceBEq,p1_,p2_,p3_,p4_,p5_,p6_,p7_,p8_,p9_,p10_,q12_,q13_]
   ·
    rintro D t w hD hp hcl ⟨v107,v109,O,ht,hs⟩ rest hk
    obtain ⟨p0_,p11_,_⟩:=hp
    obtain ⟨p10_,_⟩:=(hcl.get 11 (by decide)) p11_
    obtain ⟨p1_,p2_,p3_,p9_,_⟩:=(hcl.get 10 (by decide)) p10_
    obtain ⟨p8_,_⟩:=(hcl.get 9 (by decide)) p9_
    obtain ⟨p7_,_⟩:=(hcl.get 8 (by decide)) p8_
    obtain ⟨p6_,_⟩:=(hcl.get 7 (by decide)) p7_
    obtain ⟨p4_,p5_,_⟩:=(hcl.get 6 (by decide)) p6_
    have q13_:=nz hcl 13 0 hD
    simp only [hD,p0_,p1_,p2_,p3_,p4_,p5_,p6_,p7_,p8_,p9_,p10_,p11_,q13_,cq,oT] at ht hs
    subst ht
    have hs:St _ [_,_,_,_,_,_] _:=hs.pull 4 rfl
    refine Qcr Qa6 (zv:=(agg #[int .u16 0,bool false,int .i64 0,int .u16 0,int .i64 0])) (B:=32) hs (hs.row 1 rfl) rfl rfl rfl rfl rfl rfl rfl rfl rfl (by decide) rfl rfl (by decide) (by have:=gq12_;omega) ?_
    intro v109 w hs
    refine g_d rfl ?_
    try dsimp only [Qah,Qai]
    have hs:=hs.push 4 (by simp)
    refine hk _ _ ⟨v107,v109,O,?_,hs.cast ?_⟩<;>simp only [oT,lq,cq,Nat.reduceBEq,p0_,p1_,p2_,p3_,p4_,p5_,p6_,p7_,p8_,p9_,p10_,p11_,q13_]
   ·
    rintro D t w hD hp hcl ⟨v107,v109,O,ht,hs⟩ rest hk
    obtain ⟨p12_,_,p0_,p1_,p2_,p3_,p4_,p5_,p6_,p7_,p8_,p9_,p10_,p11_,_,_⟩:=hp
    simp only [hD,p0_,p1_,p2_,p3_,p4_,p5_,p6_,p7_,p8_,p9_,p10_,p11_,p12_,cq,oT] at ht hs
    subst ht
    refine Qab (v:=v109) rfl rfl rfl (g_d rfl ?_)
    try dsimp only [Qah,Qai]
    refine hk _ _ ⟨v107,v109,O,?_,hs.cast ?_⟩<;>simp only [oT,lq,cq,Nat.reduceBEq,p0_,p1_,p2_,p3_,p4_,p5_,p6_,p7_,p8_,p9_,p10_,p11_,p12_]
   intro D t w hall hI
   obtain ⟨v107,v109,O,ht,hs⟩:=hI
   have p0_:=hall 0 (by decide)
   have p1_:=hall 1 (by decide)
   have p2_:=hall 2 (by decide)
   have p3_:=hall 3 (by decide)
   have p4_:=hall 4 (by decide)
   have p5_:=hall 5 (by decide)
   have p6_:=hall 6 (by decide)
   have p7_:=hall 7 (by decide)
   have p8_:=hall 8 (by decide)
   have p9_:=hall 9 (by decide)
   have p10_:=hall 10 (by decide)
   have p11_:=hall 11 (by decide)
   have p12_:=hall 12 (by decide)
   have p13_:=hall 13 (by decide)
   simp only [p0_,p1_,p2_,p3_,p4_,p5_,p6_,p7_,p8_,p9_,p10_,p11_,p12_,p13_,cq,oT] at ht hs
   subst ht
   refine Qa0 ?_
   have hs:=hs.pull 5 rfl
   have hs:=hs.pull 2 rfl
   have hs:=hs.pull 5 rfl
   have hs:=hs.pull 5 rfl
   have hs:St _ [_,_,_,_] _:=St.take (Γ':=[_,_]) hs
   exact ha _ _ ⟨v109,x99++([(⟨r104,x72,rdL r73 x101 0,i64w (((rdL x99 x72 Qap).QaQ)+1)⟩:QaC)]),mSet x100 r104 true,H,rfl,hs⟩
  intro hb
  rw [if_neg (b_dec_f hb)] at H
  refine g_d rfl ?_
  try dsimp only [Qah,Qai]
  refine Qac (Qaj (Qas rfl ?_))
  obtain rfl:=QsJ H
  subst Hx2_
  have hs:=hs.pull 2 rfl
  have hs:=hs.pull 2 rfl
  have hs:=hs.pull 2 rfl
  have hs:St _ [_,_,_] _:=St.take (Γ':=[_]) hs
  refine QbE rfl ?_
  exact ha2_ _ _ ⟨v98,x99,x100,Hr2_,rfl,hs⟩
 intro hb
 rw [if_neg (b_dec_f hb)] at H
 refine g_d rfl ?_
 try dsimp only [Qah,Qai]
 refine Qac (Qas rfl ?_)
 obtain rfl:=QsJ H
 subst Hx1_
 have hs:=hs.pull 1 rfl
 have hs:St _ [_] _:=St.take (Γ':=[_,_]) hs
 refine QbE rfl ?_
 exact ha1_ _ _ ⟨v69,x70,Hr1_,rfl,hs⟩
end Go.Proofs.YtblbfnngmeoipaaGreatDoorX
