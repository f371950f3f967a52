import Derived.Test.YtljkpeeabpdalaaDoorP7
namespace Go.Proofs.YtljkpeeabpdalaaDoorX
open Go Go.RowKit Go.Proofs
open Go.Value (int pointer bool agg slice string tuple)
set_option maxHeartbeats 8000000
set_option maxRecDepth 100000
set_option linter.unusedVariables false
set_option linter.unusedSimpArgs false
def QaP.post (w0:World) (r:Int) (v:Value) (w:World):Prop:=v=int .u64 r∧St w0 [] w
theorem QaP.calls {N:Nat} {a1:ByteArray} {w0:World} {r:Int} (H:QaP.f N a1=some r):
 Calls Tryd.prog 32 #[string a1] w0 fun e w=>∃ v,e= .returned v∧QaP.post w0 r v w:=by
 unfold QaP.f at H
 have hs:St w0 [] w0:=St.refl w0
 refine calls_of_g (n:=20) Tryd.func32 rfl rfl ?_
 show G _ _ _ _ [_,_,_,_,_,_,_,_,_,_,_,_,_,_,_,_,_,_,_,_,_] _
 refine Qac (Qaj [0] rfl ?_)
 refine Qaa (v:=int .u64 0) rfl rfl rfl ?_
 show G _ _ _ _ [_,_,_,_,_,_,_,_,_,_,_,_,_,_,_,_,_,_,_,_,_] _
 refine Qab (Qac (Qaj [0] rfl ?_))
 refine Qaa (v:=int .u64 0) rfl rfl rfl (Qab (Qac (Qac (Qaj [0,1,2] rfl ?_))))
 refine Qaa (v:=string a1) rfl rfl rfl ?_
 refine Qaa (v:=int .i64 (a1.size:Int)) rfl rfl (Qbf rfl rfl rfl) ?_
 show G _ _ _ _ [_,_,_,_,_,_,_,_,_,_,_,_,_,_,_,_,_,_,_,_,_] _
 refine Qaa (v:=int .i64 0) rfl rfl rfl (Qab ?_)
 obtain ⟨o1_,Ho,Hr1_⟩:=bind_get H
 refine QaR (J:=fun t w=>∃ x5:Int,QaP.a0 N x5=some r∧Fr t (fun O=>([O 0,O 1,O 2,int .u64 x5,O 4,O 5,O 6,O 7,O 8,O 9,O 10,O 11,O 12,O 13,O 14,O 15,O 16,O 17,O 18,O 19,O 20]:List Value))∧St w0 [] w) ?_ ?_
 ·
  rintro t w ⟨x5,H,hf,hs⟩
  obtain ⟨O,rfl⟩:=hf.open
  show G _ _ _ _ [_,_,_,_,_,_,_,_,_,_,_,_,_,_,_,_,_,_,_,_,_] _
  unfold QaP.a0 at H
  refine Qac (Qaj [0,1] rfl ?_)
  refine Qaa (v:=int .u64 x5) rfl rfl rfl ?_
  show G _ _ _ _ [_,_,_,_,_,_,_,_,_,_,_,_,_,_,_,_,_,_,_,_,_] _
  refine Qaa (v:=int .u64 x5) rfl rfl rfl (Qab ?_)
  obtain rfl:=QsJ H
  refine Qau Tryd.func32 (v:=int .u64 x5) (res1 rfl rfl) ?_
  have hs:St _ [] _:=St.take (Γ':=[]) hs
  exact ⟨_,rfl,rfl,hs⟩
 intro ha1_
 have hs:St _ [] _:=St.take (Γ':=[]) hs
 refine QaY (I:=fun n_ t w=>∃ x2:Int,∃ x3:Int,rounds (fun s=>QaP.b0 N a1 s.1 s.2) n_ (x2,x3)=some o1_∧Fr t (fun O=>([string a1,O 1,O 2,int .u64 x2,O 4,O 5,int .i64 (a1.size:Int),int .i64 x3,O 8,O 9,O 10,O 11,O 12,O 13,O 14,O 15,O 16,O 17,O 18,O 19,O 20]:List Value))∧St w0 [] w) N ⟨0,0,Ho,rfl,hs⟩ ?_ ?_
 ·
  rintro _ _ ⟨x2,x3,h,_⟩
  exact rounds_zero h
 intro n_ ih1_
 rintro t w ⟨x2,x3,Ho,hf,hs⟩
 obtain ⟨O,rfl⟩:=hf.open
 show G _ _ _ _ [_,_,_,_,_,_,_,_,_,_,_,_,_,_,_,_,_,_,_,_,_] _
 obtain ⟨x2_,H,Hx1_⟩:=rounds_succ Ho
 have H:QaP.b0 N a1 x2 x3=some x2_:=H
 unfold QaP.b0 at H
 refine Qac (Qaj [0] rfl ?_)
 refine Qas (B:=decide (x3< (a1.size:Int))) rfl rfl rfl ?_ ?_
 ·
  intro hb
  rw [if_pos (b_dec_t hb)] at H
  show G _ _ _ _ [_,_,_,_,_,_,_,_,_,_,_,_,_,_,_,_,_,_,_,_,_] _
  refine Qab (Qac (Qak rfl (Qaw (Qac ?_))))
  refine Qbd (Qac (Qaj [0,1] rfl ?_))
  refine Qaa (v:=int .i64 x3) rfl rfl rfl ?_
  refine Qaa (v:=int .i64 x3) rfl rfl rfl (Qab (Qaj [0,1,2,3,4,5,6,7,8,9] rfl ?_))
  refine Qaa (v:=int .u64 x2) rfl rfl rfl ?_
  show G _ _ _ _ [_,_,_,_,_,_,_,_,_,_,_,_,_,_,_,_,_,_,_,_,_] _
  refine Qaa (v:=int .u64 (shlI .u64 x2 4)) rfl rfl rfl ?_
  refine Qaa (v:=string a1) rfl rfl rfl ?_
  refine Qaa (v:=int .i64 x3) rfl rfl rfl ?_
  show G _ _ _ _ [_,_,_,_,_,_,_,_,_,_,_,_,_,_,_,_,_,_,_,_,_] _
  obtain ⟨g1,H⟩:=ite_get H
  refine Qaa (v:=int .u8 (btS a1 x3)) rfl rfl (Qbh rfl rfl rfl rfl g1.1 g1.2) ?_
  obtain ⟨r4,Hr4,H⟩:=bind_get H
  refine QaA (args:=[string (⟨#[48,49,50,51,52,53,54,55,56,57,97,98,99,100,101,102]⟩:ByteArray),int .u8 (btS a1 x3)]) rfl rfl (Qax rfl (callFunc_enter Tryd.func56 rfl rfl) rfl) (strings_IndexByte.calls (a1:=(⟨#[48,49,50,51,52,53,54,55,56,57,97,98,99,100,101,102]⟩:ByteArray)) (a2:=btS a1 x3) Hr4) ?_
  rintro _ w ⟨rfl,hs2⟩
  have hs:St _ [] _:=hs.call hs2
  refine Qaa (v:=int .i64 (mxI r4 0)) rfl rfl (Qb7 rfl rfl rfl) ?_
  show G _ _ _ _ [_,_,_,_,_,_,_,_,_,_,_,_,_,_,_,_,_,_,_,_,_] _
  refine Qaa (v:=int .u64 (u64w (mxI r4 0))) rfl rfl rfl ?_
  refine Qaa (v:=int .u64 (bOr .u64 (shlI .u64 x2 4) (u64w (mxI r4 0)))) rfl rfl rfl ?_
  refine Qaa (v:=int .u64 (bOr .u64 (shlI .u64 x2 4) (u64w (mxI r4 0)))) rfl rfl rfl ?_
  show G _ _ _ _ [_,_,_,_,_,_,_,_,_,_,_,_,_,_,_,_,_,_,_,_,_] _
  refine Qab ?_
  refine QaD (Qaj [0,1] rfl ?_)
  refine Qaa (v:=int .i64 (i64w (x3+1))) rfl rfl rfl ?_
  refine Qaa (v:=int .i64 (i64w (x3+1))) rfl rfl rfl (Qab ?_)
  obtain rfl:=QsJ H
  have hs:St _ [] _:=St.take (Γ':=[]) hs
  exact ih1_ _ _ ⟨bOr .u64 (shlI .u64 x2 4) (u64w (mxI r4 0)),i64w (x3+1),Hx1_,rfl,hs⟩
 intro hb
 rw [if_neg (b_dec_f hb)] at H
 refine Qab (Qac (Qad rfl ?_))
 obtain rfl:=QsJ H
 subst Hx1_
 have hs:St _ [] _:=St.take (Γ':=[]) hs
 refine Qbi rfl ?_
 exact ha1_ _ _ ⟨x2,Hr1_,rfl,hs⟩
def Qbk.post (w0:World) (r:Bool) (v:Value) (w:World):Prop:=v=bool r∧St w0 [] w
theorem Qbk.calls {N:Nat} {a1:Int} {a2:Int} {w0:World} {r:Bool} (H:Qbk.f N a1 a2=some r):
 Calls Tryd.prog 39 #[int .i64 a1,int .i64 a2] w0 fun e w=>∃ v,e= .returned v∧Qbk.post w0 r v w:=by
 unfold Qbk.f at H
 have hs:St w0 [] w0:=St.refl w0
 refine calls_of_g (n:=9) Tryd.func39 rfl rfl ?_
 show G _ _ _ _ [_,_,_,_,_,_,_,_,_,_,_] _
 refine Qac (Qaj [0] rfl ?_)
 refine Qaa (v:=bool false) rfl rfl rfl (Qab (Qac (Qaj [0,1,2,3,4,5,6] rfl ?_)))
 refine Qaa (v:=int .i64 a1) rfl rfl rfl ?_
 show G _ _ _ _ [_,_,_,_,_,_,_,_,_,_,_] _
 obtain ⟨r3,Hr3,H⟩:=bind_get H
 refine QaA (args:=[int .i64 a1,int .i64 1,int .i64 60]) rfl rfl (Qax rfl (callFunc_enter Tryd.func55 rfl rfl) rfl) (Qa3.calls (a1:=a1) (a2:=1) (a3:=60) Hr3) ?_
 rintro _ w ⟨rfl,hs2⟩
 have hs:St _ [] _:=hs.call hs2
 cases r3 with
 |true=>
  rw [if_pos rfl] at H
  refine Qaa (v:=bool true) rfl rfl rfl ?_
  refine Qaa (v:=int .i64 a2) rfl rfl rfl ?_
  show G _ _ _ _ [_,_,_,_,_,_,_,_,_,_,_] _
  obtain ⟨r4,Hr4,H⟩:=bind_get H
  refine QaA (args:=[int .i64 a2,int .i64 0,int .i64 3]) rfl rfl (Qax rfl (callFunc_enter Tryd.func55 rfl rfl) rfl) (Qa3.calls (a1:=a2) (a2:=0) (a3:=3) Hr4) ?_
  rintro _ w ⟨rfl,hs2⟩
  have hs:St _ [] _:=hs.call hs2
  refine Qaa (v:=bool r4) rfl rfl rfl ?_
  refine Qaa (v:=bool r4) rfl rfl rfl ?_
  show G _ _ _ _ [_,_,_,_,_,_,_,_,_,_,_] _
  refine Qab ?_
  obtain rfl:=QsJ H
  refine Qau Tryd.func39 (v:=bool r4) (res1 rfl rfl) ?_
  have hs:St _ [] _:=St.take (Γ':=[]) hs
  exact ⟨_,rfl,rfl,hs⟩
 |false=>
  rw [if_neg Bool.false_ne_true] at H
  refine Qaa (v:=bool false) rfl rfl rfl (Qag rfl rfl ?_)
  show G _ _ _ _ [_,_,_,_,_,_,_,_,_,_,_] _
  refine Qag rfl rfl ?_
  refine Qaa (v:=bool false) rfl rfl rfl ?_
  refine Qaa (v:=bool false) rfl rfl rfl ?_
  show G _ _ _ _ [_,_,_,_,_,_,_,_,_,_,_] _
  refine Qab ?_
  obtain rfl:=QsJ H
  refine Qau Tryd.func39 (v:=bool false) (res1 rfl rfl) ?_
  have hs:St _ [] _:=St.take (Γ':=[]) hs
  exact ⟨_,rfl,rfl,hs⟩
def Qba.post (w0:World) (r:Int) (v:Value) (w:World):Prop:=v=int .u64 r∧St w0 [] w
theorem Qba.calls {N:Nat} {a1:Qao} {v2:Value} {w0:World} {r:Int} (hr3:RdRow Qav w0 v2 a1.Qap) (H:Qba.f N a1=some r):
 Calls Tryd.prog 42 #[agg (([int .i8 a1.Qai,int .i8 a1.Qaq,v2]:List Value)).toArray] w0 fun e w=>∃ v,e= .returned v∧Qba.post w0 r v w:=by
 unfold Qba.f at H
 have hs:St w0 [] w0:=St.refl w0
 refine calls_of_g (n:=6) Tryd.func42 rfl rfl ?_
 show G _ _ _ _ [_,_,_,_,_,_,_] _
 refine Qac (Qaj [0,1] rfl ?_)
 refine Qbp hs rfl rfl (cs:=(([int .i8 a1.Qai,int .i8 a1.Qaq,v2]:List Value))) rfl rfl ?_
 intro b4 w hs
 refine Qaa (v:=int .u64 0) rfl rfl rfl (Qab (Qac (Qaj [0,1,2,3,4] rfl ?_)))
 refine Qaa (v:=pointer (some ⟨b4,0,none⟩)) rfl rfl rfl ?_
 show G _ _ _ _ [_,_,_,_,_,_,_] _
 refine QaI rfl rfl (v:=int .i8 a1.Qai) rfl rfl (fun _=>rfl) (cells_load (hs.cells 0 rfl) 0 1 rfl) ?_
 obtain ⟨g1,H⟩:=ite_get H
 refine Qaa (v:=int .u64 (shlI .u64 1 a1.Qai)) rfl rfl (Qb8 rfl rfl rfl g1) ?_
 refine Qaa (v:=int .u64 (u64w ((shlI .u64 1 a1.Qai) - 1))) rfl rfl rfl ?_
 show G _ _ _ _ [_,_,_,_,_,_,_] _
 refine Qaa (v:=int .u64 (u64w ((shlI .u64 1 a1.Qai) - 1))) rfl rfl rfl (Qab ?_)
 obtain rfl:=QsJ H
 refine Qau Tryd.func42 (v:=int .u64 (u64w ((shlI .u64 1 a1.Qai) - 1))) (res1 rfl rfl) ?_
 have hs:St _ [] _:=St.take (Γ':=[_]) hs
 exact ⟨_,rfl,rfl,hs⟩
def Qa5.post (w0:World) (r:Bool) (v:Value) (w:World):Prop:=v=bool r∧St w0 [] w
theorem Qa5.calls {N:Nat} {a1:Qar} {a2:Qao} {b3:Nat} {v4:Value} {w0:World} {r:Bool} (hr5:RdRow Qav w0 v4 a2.Qap) (hp1000:w0.heap[b3]?=some (.cells ((([int .i8 a2.Qai,int .i8 a2.Qaq,v4]:List Value)):List Value).toArray 30 (0,0))) (H:Qa5.f N a1 a2=some r):
 Calls Tryd.prog 41 #[agg (Qay a1).toArray,pointer (some ⟨b3,0,none⟩)] w0 fun e w=>∃ v,e= .returned v∧Qa5.post w0 r v w:=by
 unfold Qa5.f at H
 have hs:St w0 [] w0:=St.refl w0
 refine calls_of_g (n:=8) Tryd.func41 rfl rfl ?_
 show G _ _ _ _ [_,_,_,_,_,_,_,_,_,_] _
 refine Qac (Qaj [0,1] rfl ?_)
 refine Qbp hs rfl rfl (cs:=(Qay a1)) rfl rfl ?_
 intro b7 w hs
 refine Qaa (v:=bool false) rfl rfl rfl ?_
 show G _ _ _ _ [_,_,_,_,_,_,_,_,_,_] _
 refine Qab (Qac ?_)
 obtain ⟨r9,Hr9,H⟩:=bind_get H
 refine Qbt ?_
 intro T hT
 refine QbN (n:=7) rfl [0,1,2,3,4,5,6] [0,1,2,3,4,5,6] rfl rfl (Inv:=fun D t w=>∃ O:Nat→Value,t=[agg (Qay a1).toArray,pointer (some ⟨b3,0,none⟩),pointer (some ⟨b7,0,none⟩),cnd (D 6) (bool ((bAndNot .u64 a1.QaO r9) !=0)) (bool false),cnd (D 0) (pointer (some ⟨b7,0,none⟩)) (O 4),cnd (D 1) (int .u64 a1.QaO) (O 5),cnd (D 2) (agg (([int .i8 a2.Qai,int .i8 a2.Qaq,v4]:List Value)).toArray) (O 6),cnd (D 3) (int .u64 r9) (O 7),cnd (D 4) (int .u64 (bAndNot .u64 a1.QaO r9)) (O 8),cnd (D 5) (bool ((bAndNot .u64 a1.QaO r9) !=0)) (O 9)]∧St w0 [Cells b7 (Qay a1) 55] w) ?_ ⟨⟨⟨⟨⟨⟨⟨trivial,?_⟩,?_⟩,?_⟩,?_⟩,?_⟩,?_⟩,?_⟩ ?_
 ·
  intro w hh hbw
  have hs:=hs.samew hh hbw
  exact ⟨fun i=>T.getD i undef,(by subst hT;rfl),hs⟩
 ·
  rintro D t w hD hp hcl ⟨O,ht,hs⟩ rest hk
  have q1_:=nz hcl 1 0 hD
  have q4_:=nz hcl 4 0 q1_
  have q5_:=nz hcl 5 0 q4_
  have q6_:=nz hcl 6 0 q5_
  simp only [hD,q1_,q4_,q5_,q6_,cq,oT] at ht hs
  subst ht
  refine Qaa (v:=pointer (some ⟨b7,0,none⟩)) rfl rfl rfl ?_
  show G _ _ _ _ [_,_,_,_,_,_,_,_,_,_] _
  refine hk _ _ ⟨O,?_,hs.cast ?_⟩<;>simp only [oT,lq,cq,Nat.reduceBEq,q1_,q4_,q5_,q6_]
 ·
  rintro D t w hD hp hcl ⟨O,ht,hs⟩ rest hk
  obtain ⟨p0_,_⟩:=hp
  have q4_:=nz hcl 4 0 hD
  have q5_:=nz hcl 5 0 q4_
  have q6_:=nz hcl 6 0 q5_
  simp only [hD,p0_,q4_,q5_,q6_,cq,oT] at ht hs
  subst ht
  refine QaI rfl rfl (v:=int .u64 a1.QaO) rfl rfl (fun _=>rfl) (cells_load (hs.cells 0 rfl) 0 1 rfl) ?_
  show G _ _ _ _ [_,_,_,_,_,_,_,_,_,_] _
  refine hk _ _ ⟨O,?_,hs.cast ?_⟩<;>simp only [oT,lq,cq,Nat.reduceBEq,p0_,q4_,q5_,q6_]
 ·
  rintro D t w hD hp hcl ⟨O,ht,hs⟩ rest hk
  have q3_:=nz hcl 3 0 hD
  have q4_:=nz hcl 4 1 q3_
  have q5_:=nz hcl 5 0 q4_
  have q6_:=nz hcl 6 0 q5_
  simp only [hD,q3_,q4_,q5_,q6_,cq,oT] at ht hs
  subst ht
  refine Qbe rfl rfl (es:=(([int .i8 a2.Qai,int .i8 a2.Qaq,v4]:List Value))) rfl rfl (fun _=>rfl) (n:=3) (fun _=>rfl) rfl (cells_all (hs.box hp1000)) ?_
  show G _ _ _ _ [_,_,_,_,_,_,_,_,_,_] _
  refine hk _ _ ⟨O,?_,hs.cast ?_⟩<;>simp only [oT,lq,cq,Nat.reduceBEq,q3_,q4_,q5_,q6_]
 ·
  rintro D t w hD hp hcl ⟨O,ht,hs⟩ rest hk
  obtain ⟨p2_,_⟩:=hp
  have q4_:=nz hcl 4 1 hD
  have q5_:=nz hcl 5 0 q4_
  have q6_:=nz hcl 6 0 q5_
  simp only [hD,p2_,q4_,q5_,q6_,cq,oT] at ht hs
  subst ht
  refine QaA (args:=[agg (([int .i8 a2.Qai,int .i8 a2.Qaq,v4]:List Value)).toArray]) rfl rfl (Qax rfl (callFunc_enter Tryd.func42 rfl rfl) rfl) (Qba.calls (a1:=(⟨a2.Qai,a2.Qaq,a2.Qap⟩:Qao)) (hs.rd hr5) Hr9) ?_
  rintro _ w ⟨rfl,hs2⟩
  have hs:St _ [_] _:=hs.call hs2
  show G _ _ _ _ [_,_,_,_,_,_,_,_,_,_] _
  refine hk _ _ ⟨O,?_,hs.cast ?_⟩<;>simp only [oT,lq,cq,Nat.reduceBEq,p2_,q4_,q5_,q6_]
 ·
  rintro D t w hD hp hcl ⟨O,ht,hs⟩ rest hk
  obtain ⟨p1_,p3_,_⟩:=hp
  obtain ⟨p2_,_⟩:=(hcl.get 3 (by decide)) p3_
  obtain ⟨p0_,_⟩:=(hcl.get 1 (by decide)) p1_
  have q5_:=nz hcl 5 0 hD
  have q6_:=nz hcl 6 0 q5_
  simp only [hD,p0_,p1_,p2_,p3_,q5_,q6_,cq,oT] at ht hs
  subst ht
  refine Qaa (v:=int .u64 (bAndNot .u64 a1.QaO r9)) rfl rfl rfl ?_
  show G _ _ _ _ [_,_,_,_,_,_,_,_,_,_] _
  refine hk _ _ ⟨O,?_,hs.cast ?_⟩<;>simp only [oT,lq,cq,Nat.reduceBEq,p0_,p1_,p2_,p3_,q5_,q6_]
 ·
  rintro D t w hD hp hcl ⟨O,ht,hs⟩ rest hk
  obtain ⟨p4_,_⟩:=hp
  obtain ⟨p1_,p3_,_⟩:=(hcl.get 4 (by decide)) p4_
  obtain ⟨p2_,_⟩:=(hcl.get 3 (by decide)) p3_
  obtain ⟨p0_,_⟩:=(hcl.get 1 (by decide)) p1_
  have q6_:=nz hcl 6 0 hD
  simp only [hD,p0_,p1_,p2_,p3_,p4_,q6_,cq,oT] at ht hs
  subst ht
  refine Qaa (v:=bool ((bAndNot .u64 a1.QaO r9) !=0)) rfl rfl rfl ?_
  show G _ _ _ _ [_,_,_,_,_,_,_,_,_,_] _
  refine hk _ _ ⟨O,?_,hs.cast ?_⟩<;>simp only [oT,lq,cq,Nat.reduceBEq,p0_,p1_,p2_,p3_,p4_,q6_]
 ·
  rintro D t w hD hp hcl ⟨O,ht,hs⟩ rest hk
  obtain ⟨p5_,p3_,p0_,p1_,p2_,_,p4_,_,_⟩:=hp
  simp only [hD,p0_,p1_,p2_,p3_,p4_,p5_,cq,oT] at ht hs
  subst ht
  refine Qaa (v:=bool ((bAndNot .u64 a1.QaO r9) !=0)) rfl rfl rfl ?_
  show G _ _ _ _ [_,_,_,_,_,_,_,_,_,_] _
  refine hk _ _ ⟨O,?_,hs.cast ?_⟩<;>simp only [oT,lq,cq,Nat.reduceBEq,p0_,p1_,p2_,p3_,p4_,p5_]
 intro D t w hall hI
 obtain ⟨O,ht,hs⟩:=hI
 have p0_:=hall 0 (by decide)
 have p1_:=hall 1 (by decide)
 have p2_:=hall 2 (by decide)
 have p3_:=hall 3 (by decide)
 have p4_:=hall 4 (by decide)
 have p5_:=hall 5 (by decide)
 have p6_:=hall 6 (by decide)
 simp only [p0_,p1_,p2_,p3_,p4_,p5_,p6_,cq,oT] at ht hs
 subst ht
 obtain rfl:=QsJ H
 refine Qau Tryd.func41 (v:=bool ((bAndNot .u64 a1.QaO r9) !=0)) (res1 rfl rfl) ?_
 have hs:St _ [] _:=St.take (Γ':=[_]) hs
 exact ⟨_,rfl,rfl,hs⟩
def Qal.post (w0:World) (r:Int) (v:Value) (w:World):Prop:=v=int .i64 r∧St w0 [] w
theorem Qal.calls {N:Nat} {a1:(List Qar)} {a3:Qao} {v2:Value} {b4:Nat} {v5:Value} {w0:World} {r:Int} (hr0:RdRow Qav w0 v2 a1) (hr6:RdRow Qav w0 v5 a3.Qap) (hp200:w0.heap[b4]?=some (.cells ((([int .i8 a3.Qai,int .i8 a3.Qaq,v5]:List Value)):List Value).toArray 30 (0,0))) (H:Qal.f N a1 a3=some r):
 Calls Tryd.prog 57 #[v2,Value.func (Fn.func 41) #[] #[pointer (some ⟨b4,0,none⟩)]] w0 fun e w=>∃ v,e= .returned v∧Qal.post w0 r v w:=by
 unfold Qal.f at H
 have hs:St w0 [] w0:=St.refl w0
 refine calls_of_g (n:=17) Tryd.func57 rfl rfl ?_
 show G _ _ _ _ [_,_,_,_,_,_,_,_,_,_,_,_,_,_,_,_,_,_,_] _
 refine Qac (Qaj [0] rfl ?_)
 refine Qaa (v:=int .i64 0) rfl rfl rfl (Qab (Qac (Qac (Qaj [0,1,2] rfl ?_))))
 refine Qaa (v:=v2) rfl rfl rfl ?_
 show G _ _ _ _ [_,_,_,_,_,_,_,_,_,_,_,_,_,_,_,_,_,_,_] _
 refine Qbn (hs.rd hr0) rfl rfl rfl rfl rfl ?_
 refine Qaa (v:=int .i64 0) rfl rfl rfl (Qab ?_)
 obtain ⟨o1_,Ho,Hr1_⟩:=bind_get H
 refine QaR (J:=fun t w=>Qal.a0 N=some r∧Fr t (fun O=>([O 0,O 1,O 2,O 3,O 4,O 5,O 6,O 7,O 8,O 9,O 10,O 11,O 12,O 13,O 14,O 15,O 16,O 17,O 18]:List Value))∧St w0 [] w) ?_ ?_
 ·
  rintro t w ⟨H,hf,hs⟩
  obtain ⟨O,rfl⟩:=hf.open
  show G _ _ _ _ [_,_,_,_,_,_,_,_,_,_,_,_,_,_,_,_,_,_,_] _
  unfold Qal.a0 at H
  refine Qac (Qaj [0] rfl ?_)
  refine Qaa (v:=int .i64 (-1)) rfl rfl rfl ?_
  show G _ _ _ _ [_,_,_,_,_,_,_,_,_,_,_,_,_,_,_,_,_,_,_] _
  refine Qab ?_
  obtain rfl:=QsJ H
  refine Qau Tryd.func57 (v:=int .i64 (-1)) (res1 rfl rfl) ?_
  have hs:St _ [] _:=St.take (Γ':=[]) hs
  exact ⟨_,rfl,rfl,hs⟩
 intro ha1_
 have hs:St _ [] _:=St.take (Γ':=[]) hs
 refine QaY (I:=fun n_ t w=>∃ x8:Int,rounds (fun s=>Qal.b0 N a1 a3 s) n_ x8=some o1_∧Fr t (fun O=>([v2,Value.func (Fn.func 41) #[] #[pointer (some ⟨b4,0,none⟩)],O 2,O 3,O 4,O 5,O 6,int .i64 (a1.length:Int),int .i64 x8,O 9,O 10,O 11,O 12,O 13,O 14,O 15,O 16,O 17,O 18]:List Value))∧St w0 [] w) N ⟨0,Ho,rfl,hs⟩ ?_ ?_
 ·
  rintro _ _ ⟨x8,h,_⟩
  exact rounds_zero h
 intro n_ ih1_
 rintro t w ⟨x8,Ho,hf,hs⟩
 obtain ⟨O,rfl⟩:=hf.open
 show G _ _ _ _ [_,_,_,_,_,_,_,_,_,_,_,_,_,_,_,_,_,_,_] _
 obtain ⟨x2_,H,Hx1_⟩:=rounds_succ Ho
 have H:Qal.b0 N a1 a3 x8=some x2_:=H
 unfold Qal.b0 at H
 refine Qac (Qaj [0] rfl ?_)
 refine Qas (B:=decide (x8< (a1.length:Int))) rfl rfl rfl ?_ ?_
 ·
  intro hb
  rw [if_pos (b_dec_t hb)] at H
  refine Qab (Qac (Qak rfl (Qaw (Qac ?_))))
  refine Qbd (Qac (Qaj [0,1] rfl ?_))
  refine Qaa (v:=int .i64 x8) rfl rfl rfl ?_
  refine Qaa (v:=int .i64 x8) rfl rfl rfl ?_
  show G _ _ _ _ [_,_,_,_,_,_,_,_,_,_,_,_,_,_,_,_,_,_,_] _
  refine Qab (Qac (Qaj [0,1,2,3,4,5] rfl ?_))
  refine Qaa (v:=Value.func (Fn.func 41) #[] #[pointer (some ⟨b4,0,none⟩)]) rfl rfl rfl ?_
  refine Qaa (v:=v2) rfl rfl rfl ?_
  refine Qaa (v:=int .i64 x8) rfl rfl rfl ?_
  show G _ _ _ _ [_,_,_,_,_,_,_,_,_,_,_,_,_,_,_,_,_,_,_] _
  obtain ⟨g1,H⟩:=ite_get H
  refine Qbl QaL Qat (hs.rd hr0) rfl (fun _=>rfl) g1.1 g1.2 rfl rfl rfl rfl rfl ?_
  intro p9 hp9 lp9 op9
  refine Qbe rfl rfl (es:=(Qay (rdL a1 x8 Qat))) rfl rfl (fun _=>rfl) (n:=2) (fun _=>rfl) (QaL.len _) hp9 ?_
  obtain ⟨r10,Hr10,H⟩:=bind_get H
  refine QaA (args:=[agg (Qay (rdL a1 x8 Qat)).toArray,pointer (some ⟨b4,0,none⟩)]) rfl rfl (Qb1 rfl (callFunc_enter Tryd.func41 rfl rfl) rfl rfl) (Qa5.calls (a1:=rdL a1 x8 Qat) (a2:=(⟨a3.Qai,a3.Qaq,a3.Qap⟩:Qao)) (hs.rd hr6) (hs.box hp200) Hr10) ?_
  rintro _ w ⟨rfl,hs2⟩
  have hs:St _ [] _:=hs.call hs2
  cases r10 with
  |true=>
   rw [if_pos rfl] at H
   show G _ _ _ _ [_,_,_,_,_,_,_,_,_,_,_,_,_,_,_,_,_,_,_] _
   refine Qab (Qak rfl (Qac (Qaj [0,1] rfl ?_)))
   refine Qaa (v:=int .i64 x8) rfl rfl rfl ?_
   refine Qaa (v:=int .i64 x8) rfl rfl rfl (Qab ?_)
   obtain rfl:=QsJ H
   subst Hx1_
   have H:=QsJ Hr1_
   subst H
   refine Qau Tryd.func57 (v:=int .i64 x8) (res1 rfl rfl) ?_
   have hs:St _ [] _:=St.take (Γ':=[]) hs
   exact ⟨_,rfl,rfl,hs⟩
  |false=>
   rw [if_neg Bool.false_ne_true] at H
   show G _ _ _ _ [_,_,_,_,_,_,_,_,_,_,_,_,_,_,_,_,_,_,_] _
   refine Qab (Qad rfl (Qaw ?_))
   refine QaD (Qaj [0,1] rfl ?_)
   refine Qaa (v:=int .i64 (i64w (x8+1))) rfl rfl rfl ?_
   refine Qaa (v:=int .i64 (i64w (x8+1))) rfl rfl rfl (Qab ?_)
   obtain rfl:=QsJ H
   have hs:St _ [] _:=St.take (Γ':=[]) hs
   exact ih1_ _ _ ⟨i64w (x8+1),Hx1_,rfl,hs⟩
 intro hb
 rw [if_neg (b_dec_f hb)] at H
 show G _ _ _ _ [_,_,_,_,_,_,_,_,_,_,_,_,_,_,_,_,_,_,_] _
 refine Qab (Qac (Qad rfl ?_))
 obtain rfl:=QsJ H
 subst Hx1_
 have hs:St _ [] _:=St.take (Γ':=[]) hs
 refine Qbi rfl ?_
 exact ha1_ _ _ ⟨Hr1_,rfl,hs⟩
def QaB.post (w0:World) (r:Bool) (v:Value) (w:World):Prop:=v=bool r∧St w0 [] w
theorem QaB.calls {N:Nat} {a1:(List Qar)} {a3:Qao} {v2:Value} {b4:Nat} {v5:Value} {w0:World} {r:Bool} (hr0:RdRow Qav w0 v2 a1) (hr6:RdRow Qav w0 v5 a3.Qap) (hp200:w0.heap[b4]?=some (.cells ((([int .i8 a3.Qai,int .i8 a3.Qaq,v5]:List Value)):List Value).toArray 30 (0,0))) (H:QaB.f N a1 a3=some r):
 Calls Tryd.prog 40 #[v2,Value.func (Fn.func 41) #[] #[pointer (some ⟨b4,0,none⟩)]] w0 fun e w=>∃ v,e= .returned v∧QaB.post w0 r v w:=by
 unfold QaB.f at H
 have hs:St w0 [] w0:=St.refl w0
 refine calls_of_g (n:=7) Tryd.func40 rfl rfl ?_
 show G _ _ _ _ [_,_,_,_,_,_,_,_,_] _
 refine Qac (Qaj [0] rfl ?_)
 refine Qaa (v:=bool false) rfl rfl rfl ?_
 show G _ _ _ _ [_,_,_,_,_,_,_,_,_] _
 refine Qab (Qac (Qaj [0,1,2,3,4] rfl ?_))
 refine Qaa (v:=v2) rfl rfl rfl ?_
 refine Qaa (v:=Value.func (Fn.func 41) #[] #[pointer (some ⟨b4,0,none⟩)]) rfl rfl rfl ?_
 obtain ⟨r8,Hr8,H⟩:=bind_get H
 refine QaA (args:=[v2,Value.func (Fn.func 41) #[] #[pointer (some ⟨b4,0,none⟩)]]) rfl rfl (Qax rfl (callFunc_enter Tryd.func57 rfl rfl) rfl) (Qal.calls (a1:=a1) (a3:=(⟨a3.Qai,a3.Qaq,a3.Qap⟩:Qao)) (hs.rd hr0) (hs.rd hr6) (hs.box hp200) Hr8) ?_
 rintro _ w ⟨rfl,hs2⟩
 have hs:St _ [] _:=hs.call hs2
 show G _ _ _ _ [_,_,_,_,_,_,_,_,_] _
 refine Qaa (v:=bool (decide (r8≥0))) rfl rfl rfl ?_
 refine Qaa (v:=bool (decide (r8≥0))) rfl rfl rfl (Qab ?_)
 obtain rfl:=QsJ H
 refine Qau Tryd.func40 (v:=bool (decide (r8≥0))) (res1 rfl rfl) ?_
 have hs:St _ [] _:=St.take (Γ':=[]) hs
 exact ⟨_,rfl,rfl,hs⟩
def QaW.post (w0:World) (r:Bool) (v:Value) (w:World):Prop:=v=bool r∧St w0 [] w
theorem QaW.calls {N:Nat} {a1:Qao} {v2:Value} {w0:World} {r:Bool} (hr3:RdRow Qav w0 v2 a1.Qap) (H:QaW.f N a1=some r):
 Calls Tryd.prog 18 #[agg (([int .i8 a1.Qai,int .i8 a1.Qaq,v2]:List Value)).toArray] w0 fun e w=>∃ v,e= .returned v∧QaW.post w0 r v w:=by
 unfold QaW.f at H
 have hs:St w0 [] w0:=St.refl w0
 refine calls_of_g (n:=22) Tryd.func18 rfl rfl ?_
 show G _ _ _ _ [_,_,_,_,_,_,_,_,_,_,_,_,_,_,_,_,_,_,_,_,_,_,_] _
 refine Qac (Qaj [0,1] rfl ?_)
 refine Qbp hs rfl rfl (cs:=(([int .i8 a1.Qai,int .i8 a1.Qaq,v2]:List Value))) rfl rfl ?_
 intro b4 w hs
 refine Qaa (v:=bool false) rfl rfl rfl ?_
 show G _ _ _ _ [_,_,_,_,_,_,_,_,_,_,_,_,_,_,_,_,_,_,_,_,_,_,_] _
 refine Qab (Qac (Qaj [0,1,2,3,4,5,6,7,8,9,10,11,12,13,14,15,16,17,18,19,20] rfl ?_))
 refine Qaa (v:=pointer (some ⟨b4,0,none⟩)) rfl rfl rfl ?_
 refine QaI rfl rfl (v:=int .i8 a1.Qai) rfl rfl (fun _=>rfl) (cells_load (hs.cells 0 rfl) 0 1 rfl) ?_
 refine Qaa (v:=int .i64 (i64w a1.Qai)) rfl rfl rfl ?_
 show G _ _ _ _ [_,_,_,_,_,_,_,_,_,_,_,_,_,_,_,_,_,_,_,_,_,_,_] _
 refine Qaa (v:=pointer (some ⟨b4,1,none⟩)) rfl rfl rfl ?_
 refine QaI rfl rfl (v:=int .i8 a1.Qaq) rfl rfl (fun _=>rfl) (cells_load (hs.cells 0 rfl) 1 1 rfl) ?_
 refine Qaa (v:=int .i64 (i64w a1.Qaq)) rfl rfl rfl ?_
 show G _ _ _ _ [_,_,_,_,_,_,_,_,_,_,_,_,_,_,_,_,_,_,_,_,_,_,_] _
 obtain ⟨r6,Hr6,H⟩:=bind_get H
 refine QaA (args:=[int .i64 (i64w a1.Qai),int .i64 (i64w a1.Qaq)]) rfl rfl (Qax rfl (callFunc_enter Tryd.func39 rfl rfl) rfl) (Qbk.calls (a1:=i64w a1.Qai) (a2:=i64w a1.Qaq) Hr6) ?_
 rintro _ w ⟨rfl,hs2⟩
 have hs:St _ [_] _:=hs.call hs2
 cases r6 with
 |true=>
  rw [if_pos rfl] at H
  refine Qaa (v:=bool true) rfl rfl rfl ?_
  refine Qaa (v:=pointer (some ⟨b4,2,none⟩)) rfl rfl rfl ?_
  show G _ _ _ _ [_,_,_,_,_,_,_,_,_,_,_,_,_,_,_,_,_,_,_,_,_,_,_] _
  refine QaI rfl rfl (v:=v2) rfl rfl (fun _=>rfl) (cells_load (hs.cells 0 rfl) 2 1 rfl) ?_
  refine Qbn (hs.rd hr3) rfl rfl rfl rfl rfl ?_
  refine Qaa (v:=bool (decide ((a1.Qap.length:Int)≤60))) rfl rfl rfl ?_
  show G _ _ _ _ [_,_,_,_,_,_,_,_,_,_,_,_,_,_,_,_,_,_,_,_,_,_,_] _
  refine Qas (B:=decide ((a1.Qap.length:Int)≤60)) rfl rfl rfl ?_ ?_
  ·
   intro hb
   rw [if_pos (b_dec_t hb)] at H
   refine Qaa (v:=bool true) rfl rfl rfl ?_
   refine Qaa (v:=pointer (some ⟨b4,2,none⟩)) rfl rfl rfl ?_
   show G _ _ _ _ [_,_,_,_,_,_,_,_,_,_,_,_,_,_,_,_,_,_,_,_,_,_,_] _
   refine QaI rfl rfl (v:=v2) rfl rfl (fun _=>rfl) (cells_load (hs.cells 0 rfl) 2 1 rfl) ?_
   refine Qaa (v:=Value.func (Fn.func 41) #[] #[pointer (some ⟨b4,0,none⟩)]) rfl rfl (QbW rfl rfl) ?_
   obtain ⟨r7,Hr7,H⟩:=bind_get H
   refine QaA (args:=[v2,Value.func (Fn.func 41) #[] #[pointer (some ⟨b4,0,none⟩)]]) rfl rfl (Qax rfl (callFunc_enter Tryd.func40 rfl rfl) rfl) (QaB.calls (a1:=a1.Qap) (a3:=(⟨a1.Qai,a1.Qaq,a1.Qap⟩:Qao)) (hs.rd hr3) (hs.rd hr3) (hs.cells 0 rfl) Hr7) ?_
   rintro _ w ⟨rfl,hs2⟩
   have hs:St _ [_] _:=hs.call hs2
   show G _ _ _ _ [_,_,_,_,_,_,_,_,_,_,_,_,_,_,_,_,_,_,_,_,_,_,_] _
   refine Qaa (v:=bool (!r7)) rfl rfl rfl ?_
   refine Qaa (v:=bool (!r7)) rfl rfl rfl ?_
   refine Qaa (v:=bool (!r7)) rfl rfl rfl ?_
   show G _ _ _ _ [_,_,_,_,_,_,_,_,_,_,_,_,_,_,_,_,_,_,_,_,_,_,_] _
   refine Qab ?_
   obtain rfl:=QsJ H
   refine Qau Tryd.func18 (v:=bool (!r7)) (res1 rfl rfl) ?_
   have hs:St _ [] _:=St.take (Γ':=[_]) hs
   exact ⟨_,rfl,rfl,hs⟩
  intro hb
  rw [if_neg (b_dec_f hb)] at H
  refine Qaa (v:=bool false) rfl rfl rfl (Qag rfl rfl ?_)
  show G _ _ _ _ [_,_,_,_,_,_,_,_,_,_,_,_,_,_,_,_,_,_,_,_,_,_,_] _
  refine Qag rfl rfl (Qag rfl rfl (Qag rfl rfl ?_))
  show G _ _ _ _ [_,_,_,_,_,_,_,_,_,_,_,_,_,_,_,_,_,_,_,_,_,_,_] _
  refine Qag rfl rfl ?_
  refine Qaa (v:=bool false) rfl rfl rfl ?_
  refine Qaa (v:=bool false) rfl rfl rfl ?_
  show G _ _ _ _ [_,_,_,_,_,_,_,_,_,_,_,_,_,_,_,_,_,_,_,_,_,_,_] _
  refine Qab ?_
  obtain rfl:=QsJ H
  refine Qau Tryd.func18 (v:=bool false) (res1 rfl rfl) ?_
  have hs:St _ [] _:=St.take (Γ':=[_]) hs
  exact ⟨_,rfl,rfl,hs⟩
 |false=>
  rw [if_neg Bool.false_ne_true] at H
  refine Qaa (v:=bool false) rfl rfl rfl (Qag rfl rfl ?_)
  show G _ _ _ _ [_,_,_,_,_,_,_,_,_,_,_,_,_,_,_,_,_,_,_,_,_,_,_] _
  refine Qag rfl rfl (Qag rfl rfl (Qag rfl rfl ?_))
  show G _ _ _ _ [_,_,_,_,_,_,_,_,_,_,_,_,_,_,_,_,_,_,_,_,_,_,_] _
  refine Qaa (v:=bool false) rfl rfl rfl ?_
  refine Qaa (v:=bool false) rfl rfl rfl (Qag rfl rfl ?_)
  show G _ _ _ _ [_,_,_,_,_,_,_,_,_,_,_,_,_,_,_,_,_,_,_,_,_,_,_] _
  refine Qag rfl rfl (Qag rfl rfl (Qag rfl rfl ?_))
  show G _ _ _ _ [_,_,_,_,_,_,_,_,_,_,_,_,_,_,_,_,_,_,_,_,_,_,_] _
  refine Qag rfl rfl ?_
  refine Qaa (v:=bool false) rfl rfl rfl ?_
  refine Qaa (v:=bool false) rfl rfl rfl ?_
  show G _ _ _ _ [_,_,_,_,_,_,_,_,_,_,_,_,_,_,_,_,_,_,_,_,_,_,_] _
  refine Qab ?_
  obtain rfl:=QsJ H
  refine Qau Tryd.func18 (v:=bool false) (res1 rfl rfl) ?_
  have hs:St _ [] _:=St.take (Γ':=[_]) hs
  exact ⟨_,rfl,rfl,hs⟩
def QaX.post (w0:World) (r:Bool) (v:Value) (w:World):Prop:=v=bool r∧St w0 [] w
theorem QaX.calls {N:Nat} {a1:Int} {w0:World} {r:Bool} (H:QaX.f N a1=some r):
 Calls Tryd.prog 78 #[int .i64 a1] w0 fun e w=>∃ v,e= .returned v∧QaX.post w0 r v w:=by
 unfold QaX.f at H
 have hs:St w0 [] w0:=St.refl w0
 refine calls_of_g (n:=7) Tryd.func78 rfl rfl ?_
 show G _ _ _ _ [_,_,_,_,_,_,_,_] _
 refine Qac (Qaj [0] rfl ?_)
 refine Qaa (v:=bool false) rfl rfl rfl (Qab (Qac (Qaj [0,1,2,3,4,5] rfl ?_)))
 refine Qaa (v:=int .i64 a1) rfl rfl rfl ?_
 refine Qaa (v:=int .i64 a1) rfl rfl rfl ?_
 show G _ _ _ _ [_,_,_,_,_,_,_,_] _
 refine Qaa (v:=int .i64 (i64w (a1 - 1))) rfl rfl rfl ?_
 refine Qaa (v:=int .i64 (bAnd .i64 a1 (i64w (a1 - 1)))) rfl rfl rfl ?_
 refine Qaa (v:=bool ((bAnd .i64 a1 (i64w (a1 - 1)))==0)) rfl rfl rfl ?_
 show G _ _ _ _ [_,_,_,_,_,_,_,_] _
 refine Qaa (v:=bool ((bAnd .i64 a1 (i64w (a1 - 1)))==0)) rfl rfl rfl (Qab ?_)
 obtain rfl:=QsJ H
 refine Qau Tryd.func78 (v:=bool ((bAnd .i64 a1 (i64w (a1 - 1)))==0)) (res1 rfl rfl) ?_
 have hs:St _ [] _:=St.take (Γ':=[]) hs
 exact ⟨_,rfl,rfl,hs⟩
def Qa7.post (w0:World) (r:Int) (v:Value) (w:World):Prop:=v=int .i64 r∧St w0 [] w
theorem Qa7.calls {N:Nat} {a1:Int} {w0:World} {r:Int} (hdbr:CellU w0 5 15 4) (H:Qa7.f N a1=some r):
 Calls Tryd.prog 94 #[.int .u64 a1] w0 fun e w=>∃ v,e= .returned v∧Qa7.post w0 r v w:=by
 obtain ⟨hg,H⟩:=ite_get H
 subst hg
 obtain rfl:=QsJ H
 exact (tz16 w0 hdbr).mono fun e w ⟨he,hw⟩=>⟨_,he,rfl,by rw [hw];exact St.refl _⟩
def Qa0.post (w0:World) (r:Int) (v:Value) (w:World):Prop:=v=int .i64 r∧St w0 [] w
theorem Qa0.calls {N:Nat} {a1:Int} {w0:World} {r:Int} (hdbr:CellU w0 5 15 4) (H:Qa0.f N a1=some r):
 Calls Tryd.prog 79 #[int .u64 a1] w0 fun e w=>∃ v,e= .returned v∧Qa0.post w0 r v w:=by
 unfold Qa0.f at H
 have hs:St w0 [] w0:=St.refl w0
 refine calls_of_g (n:=7) Tryd.func79 rfl rfl ?_
 show G _ _ _ _ [_,_,_,_,_,_,_,_] _
 refine Qac (Qaj [0] rfl ?_)
 refine Qaa (v:=int .i64 0) rfl rfl rfl (Qab (Qac (Qad rfl (Qaw (Qac (Qaj [0,1,2] rfl ?_))))))
 refine Qaa (v:=int .u64 a1) rfl rfl rfl ?_
 obtain ⟨r2,Hr2,H⟩:=bind_get H
 refine QaA (args:=[int .u64 a1]) rfl rfl (Qax rfl (callFunc_enter Tryd.func94 rfl rfl) rfl) (Qa7.calls (a1:=a1) (hs.cellU hdbr) Hr2) ?_
 rintro _ w ⟨rfl,hs2⟩
 have hs:St _ [] _:=hs.call hs2
 show G _ _ _ _ [_,_,_,_,_,_,_,_] _
 refine Qaa (v:=int .i64 r2) rfl rfl rfl (Qab ?_)
 obtain rfl:=QsJ H
 refine Qau Tryd.func79 (v:=int .i64 r2) (res1 rfl rfl) ?_
 have hs:St _ [] _:=St.take (Γ':=[]) hs
 exact ⟨_,rfl,rfl,hs⟩
def Qah.post (w0:World) (r:((List Int)×ByteArray)) (v:Value) (w:World):Prop:=∃ u1:Value,v=tuple #[u1,string r.2]∧St w0 [Row 5 (K.int .u8) u1 r.1] w
theorem Qah.calls {N:Nat} {a1:Int} {w0:World} {r:((List Int)×ByteArray)} (hdbr:CellU w0 5 15 4) (H:Qah.f N a1=some r):
 Calls Tryd.prog 63 #[(slice none 0 0),int .u64 a1,int .i64 16,bool false,bool false] w0 fun e w=>∃ v,e= .returned v∧Qah.post w0 r v w:=by
 unfold Qah.f at H
 have hs:St w0 [] w0:=St.refl w0
 refine calls_of_g (n:=97) Tryd.func63 rfl rfl ?_
 show G _ _ _ _ (_::_::_::_::_::_::_::_::_::_::_::_::_::_::_::_::_::_::_::_::_::_::_::_::_::_::_::_::_::_::_::_::_::_::_::_::_::_::_::_::_::_::_::_::_::_::_::_::_::_::_::_::_::_::_::_::_::_::_::_::_::_::_::_::_::_::_::_::_::_::_::_::_::_::_::_::_::_::_::_::_::_::_::_::_::_::_::_::_::_::_::_::_::_::_::_::_::_::_::_::_::_::[]) _
 refine Qac (Qaj [0,1] rfl ?_)
 refine Qaa (v:=slice none 0 0) rfl rfl rfl (g_d rfl ?_)
 try dsimp only [Qae,Qaf]
 refine Qaa (v:=string (⟨#[]⟩:ByteArray)) rfl rfl rfl (g_d rfl (Qab (Qac (Qac (Qaj [0,1,2,3,4,5,6,7,8,9] rfl ?_)))))
 refine Qaa (v:=int .i64 16) rfl rfl rfl (g_d rfl ?_)
 refine Qaa (v:=bool false) rfl rfl rfl (g_d rfl ?_)
 try dsimp only [Qae,Qaf]
 refine Qaa (v:=bool false) rfl rfl rfl (g_d rfl ?_)
 refine Qaa (v:=int .i64 16) rfl rfl rfl (g_d rfl ?_)
 refine Qaa (v:=bool false) rfl rfl rfl (g_d rfl ?_)
 refine Qaa (v:=bool false) rfl rfl rfl (g_d rfl ?_)
 try dsimp only [Qae,Qaf]
 refine Qaa (v:=bool false) rfl rfl rfl (g_d rfl ?_)
 refine Qaa (v:=int .i64 16) rfl rfl rfl (g_d rfl ?_)
 refine Qaa (v:=bool false) rfl rfl rfl (g_d rfl ?_)
 refine Qaa (v:=bool false) rfl rfl rfl (g_d rfl ?_)
 try dsimp only [Qae,Qaf]
 refine Qab (Qad rfl (Qaw (Qac (Qaj [0] rfl ?_))))
 refine Qbm hs rfl rfl (z:=(agg #[int .u8 0,int .u8 0,int .u8 0,int .u8 0,int .u8 0,int .u8 0,int .u8 0,int .u8 0,int .u8 0,int .u8 0,int .u8 0,int .u8 0,int .u8 0,int .u8 0,int .u8 0,int .u8 0,int .u8 0,int .u8 0,int .u8 0,int .u8 0,int .u8 0,int .u8 0,int .u8 0,int .u8 0,int .u8 0,int .u8 0,int .u8 0,int .u8 0,int .u8 0,int .u8 0,int .u8 0,int .u8 0,int .u8 0,int .u8 0,int .u8 0,int .u8 0,int .u8 0,int .u8 0,int .u8 0,int .u8 0,int .u8 0,int .u8 0,int .u8 0,int .u8 0,int .u8 0,int .u8 0,int .u8 0,int .u8 0,int .u8 0,int .u8 0,int .u8 0,int .u8 0,int .u8 0,int .u8 0,int .u8 0,int .u8 0,int .u8 0,int .u8 0,int .u8 0,int .u8 0,int .u8 0,int .u8 0,int .u8 0,int .u8 0,int .u8 0])) (cs:=((encA (encI .u8)) (Ar.rep 65 0))) rfl (fun _=>rfl) rfl ?_
 intro b2 w hs
 refine g_d rfl (Qab (Qac (Qaj [0] rfl ?_)))
 refine Qaa (v:=int .i64 65) rfl rfl rfl (g_d rfl ?_)
 try dsimp only [Qae,Qaf]
 refine Qab (Qac (Qac (Qaj [0] rfl ?_)))
 refine Qaa (v:=bool false) rfl rfl rfl (g_d rfl (Qab (Qad rfl (Qaw (Qac (Qac ?_))))))
 refine Qbr (J:=(fun t w=>∃ x22:(Ar Int 65),∃ x23:Int,Qah.j0 N x22 x23=some r∧Fr t (fun O=>(slice none 0 0::O 1::O 2::bool false::bool false::O 5::O 6::O 7::O 8::O 9::slice none 0 0::string (⟨#[]⟩:ByteArray)::pointer (some ⟨b2,0,none⟩)::int .i64 x23::O 14::O 15::O 16::O 17::O 18::O 19::oT O 2 (oT O 3 (oT O 4 (oT O 5 (oT O 6 (oT O 7 (oT O 8 (oT O 9 (O 100::O 101::[])))))))):List Value))∧St w0 [Cells b2 ((encA (encI .u8)) x22) 114] w)) ?_ ?_
 ·
  rintro t w ⟨x22,x23,H,hf,hs⟩
  obtain ⟨O,rfl⟩:=hf.open
  try dsimp only [oT]
  unfold Qah.j0 at H
  refine Qac (Qac (Qaj [0] rfl ?_))
  refine Qaa (v:=bool false) rfl rfl rfl (g_d rfl (Qab (Qad rfl (Qaw (Qac (Qac (Qaj [0] rfl ?_)))))))
  refine Qaa (v:=bool false) rfl rfl rfl (g_d rfl (Qab (Qad rfl (Qaw (Qac (Qaj [0,1,2,3] rfl ?_))))))
  refine Qaa (v:=int .i64 x23) rfl rfl rfl (g_d rfl ?_)
  obtain ⟨g19,H⟩:=ite_get H
  refine Qaa (v:=subV (slice (some ⟨b2,0,none⟩) 65 65) 1 (x23).toNat ((65:Nat):Int).toNat) rfl rfl (QbS rfl rfl (fun _=>rfl) rfl rfl g19.1 g19.2) (g_d rfl ?_)
  refine Qaa (v:=string (bsOf ((x22.l.drop (x23).toNat).take (((65:Nat):Int).toNat - (x23).toNat)))) rfl rfl (QbX rfl rfl rfl rfl rfl (rdSub (rdBox (fkI .u8) (hs.cells 0 rfl)) 1 rfl g19.1 g19.2 (by rw [Ar.h];exact Int.le_refl _))) (g_d rfl ?_)
  refine Qaa (v:=string (bsOf ((x22.l.drop (x23).toNat).take (((65:Nat):Int).toNat - (x23).toNat)))) rfl rfl rfl (g_d rfl ?_)
  try dsimp only [Qae,Qaf]
  refine Qab ?_
  obtain rfl:=QsJ H
  refine Qau Tryd.func63 (v:=tuple #[slice none 0 0,string (bsOf ((x22.l.drop (x23).toNat).take (((65:Nat):Int).toNat - (x23).toNat)))]) (resN (l:=Tryd.f63.results.toList) (vs:=[slice none 0 0,string (bsOf ((x22.l.drop (x23).toNat).take (((65:Nat):Int).toNat - (x23).toNat)))]) rfl ⟨rfl,rfl,trivial⟩ (by simp)) ?_
  have hs:=hs.nil 5 (K.int .u8)
  have hs:=hs.pull 0 rfl
  have hs:St _ [_] _:=St.take (Γ':=[_]) hs
  exact ⟨_,rfl,(slice none 0 0),rfl,hs⟩
 intro ha
 refine Qaj [0,1] rfl ?_
 refine Qaa (v:=int .i64 16) rfl rfl rfl (g_d rfl ?_)
 obtain ⟨r4,Hr4,H⟩:=bind_get H
 refine QaA (args:=[int .i64 16]) rfl rfl (Qax rfl (callFunc_enter Tryd.func78 rfl rfl) rfl) (QaX.calls (a1:=16) Hr4) ?_
 rintro _ w ⟨rfl,hs2⟩
 have hs:St _ [_] _:=hs.call hs2
 cases r4 with
 |true=>
  rw [if_pos rfl] at H
  refine g_d rfl ?_
  try dsimp only [Qae,Qaf]
  refine Qab (Qak rfl (Qac (Qaj [0,1,2,3,4] rfl ?_)))
  refine Qaa (v:=int .i64 16) rfl rfl rfl (g_d rfl ?_)
  refine Qaa (v:=int .u64 (u64w 16)) rfl rfl rfl (g_d rfl ?_)
  obtain ⟨r5,Hr5,H⟩:=bind_get H
  refine QaA (args:=[int .u64 (u64w 16)]) rfl rfl (Qax rfl (callFunc_enter Tryd.func79 rfl rfl) rfl) (Qa0.calls (a1:=u64w 16) (hs.cellU hdbr) Hr5) ?_
  rintro _ w ⟨rfl,hs2⟩
  have hs:St _ [_] _:=hs.call hs2
  refine g_d rfl ?_
  refine Qaa (v:=int .u64 (u64w r5)) rfl rfl rfl (g_d rfl ?_)
  refine Qaa (v:=int .u64 (u64w r5)) rfl rfl rfl (g_d rfl ?_)
  try dsimp only [Qae,Qaf]
  refine Qab (Qac (Qaj [0,1,2] rfl ?_))
  refine Qaa (v:=int .i64 16) rfl rfl rfl (g_d rfl ?_)
  refine Qaa (v:=int .u64 (u64w 16)) rfl rfl rfl (g_d rfl ?_)
  refine Qaa (v:=int .u64 (u64w 16)) rfl rfl rfl (g_d rfl (Qab (Qac (Qaj [0,1,2,3] rfl ?_))))
  refine Qaa (v:=int .i64 16) rfl rfl rfl (g_d rfl ?_)
  refine Qaa (v:=int .u64 (u64w 16)) rfl rfl rfl (g_d rfl ?_)
  refine Qaa (v:=int .u64 (u64w ((u64w 16) - 1))) rfl rfl rfl (g_d rfl ?_)
  try dsimp only [Qae,Qaf]
  refine Qaa (v:=int .u64 (u64w ((u64w 16) - 1))) rfl rfl rfl (g_d rfl (Qab (Qac ?_)))
  obtain ⟨o1_,Ho,Hr1_⟩:=bind_get H
  refine QaR (J:=fun t w=>∃ x11:Int,∃ x12:(Ar Int 65),∃ x13:Int,Qah.a1 N x11 x12 x13=some r∧Fr t (fun O=>(slice none 0 0::int .u64 x11::O 2::bool false::bool false::O 5::O 6::O 7::O 8::O 9::slice none 0 0::string (⟨#[]⟩:ByteArray)::pointer (some ⟨b2,0,none⟩)::int .i64 x13::O 14::O 15::O 16::O 17::O 18::O 19::oT O 2 (oT O 3 (oT O 4 (oT O 5 (oT O 6 (oT O 7 (oT O 8 (oT O 9 (O 100::O 101::[])))))))):List Value))∧St w0 [Cells b2 ((encA (encI .u8)) x12) 114] w) ?_ ?_
  ·
   rintro t w ⟨x11,x12,x13,H,hf,hs⟩
   obtain ⟨O,rfl⟩:=hf.open
   try dsimp only [oT]
   unfold Qah.a1 at H
   refine Qac (Qaj [0,1,2] rfl ?_)
   refine Qaa (v:=int .i64 x13) rfl rfl rfl (g_d rfl ?_)
   refine Qaa (v:=int .i64 (i64w (x13 - 1))) rfl rfl rfl (g_d rfl ?_)
   refine Qaa (v:=int .i64 (i64w (x13 - 1))) rfl rfl rfl (g_d rfl ?_)
   try dsimp only [Qae,Qaf]
   refine Qab (Qaj [0,1,2,3,4] rfl ?_)
   refine Qaa (v:=int .i64 (i64w (x13 - 1))) rfl rfl rfl (g_d rfl ?_)
   refine Qaa (v:=int .u64 x11) rfl rfl rfl (g_d rfl ?_)
   obtain ⟨g7,H⟩:=ite_get H
   refine Qaa (v:=int .u8 (btS (⟨#[48,49,50,51,52,53,54,55,56,57,97,98,99,100,101,102,103,104,105,106,107,108,109,110,111,112,113,114,115,116,117,118,119,120,121,122]⟩:ByteArray) x11)) rfl rfl (Qbh rfl rfl rfl rfl g7.1 g7.2) (g_d rfl ?_)
   obtain ⟨g8,H⟩:=ite_get H
   refine QbB (n:=i64w (x13 - 1)) (m:=1) rfl (fun _=>rfl) g8.1 g8.2 rfl rfl rfl rfl rfl (g_d rfl ?_)
   try dsimp only [Qae,Qaf]
   refine Qbw (y:=btS (⟨#[48,49,50,51,52,53,54,55,56,57,97,98,99,100,101,102,103,104,105,106,107,108,109,110,111,112,113,114,115,116,117,118,119,120,121,122]⟩:ByteArray) x11) (fkI .u8).len (fkI .u8).one g8.1 g8.2 hs rfl rfl rfl rfl rfl (fun _=>rfl) ?_
   intro w hs
   refine g_n rfl (Qab ?_)
   have hs:=hs.pull 0 rfl
   have hs:St _ [_] _:=St.take (Γ':=[]) hs
   exact ha _ _ ⟨x12.set (i64w (x13 - 1)) (btS (⟨#[48,49,50,51,52,53,54,55,56,57,97,98,99,100,101,102,103,104,105,106,107,108,109,110,111,112,113,114,115,116,117,118,119,120,121,122]⟩:ByteArray) x11),i64w (x13 - 1),H,rfl,hs⟩
  intro ha1_
  have hs:=hs.pull 0 rfl
  have hs:St _ [_] _:=St.take (Γ':=[]) hs
  refine QaY (I:=fun n_ t w=>∃ x8:Int,∃ x9:(Ar Int 65),∃ x10:Int,rounds (fun s=>Qah.b1 N r5 s.1 s.2.1 s.2.2) n_ (x8,x9,x10)=some o1_∧Fr t (fun O=>(slice none 0 0::int .u64 x8::O 2::bool false::bool false::O 5::O 6::O 7::O 8::O 9::slice none 0 0::string (⟨#[]⟩:ByteArray)::pointer (some ⟨b2,0,none⟩)::int .i64 x10::int .u64 (u64w r5)::int .u64 (u64w 16)::int .u64 (u64w ((u64w 16) - 1))::O 17::O 18::O 19::oT O 2 (oT O 3 (oT O 4 (oT O 5 (oT O 6 (oT O 7 (oT O 8 (oT O 9 (O 100::O 101::[])))))))):List Value))∧St w0 [Cells b2 ((encA (encI .u8)) x9) 114] w) N ⟨a1,(Ar.rep 65 0),65,Ho,rfl,hs⟩ ?_ ?_
  ·
   rintro _ _ ⟨x8,x9,x10,h,_⟩
   exact rounds_zero h
  intro n_ ih1_
  rintro t w ⟨x8,x9,x10,Ho,hf,hs⟩
  obtain ⟨O,rfl⟩:=hf.open
  try dsimp only [oT]
  obtain ⟨x9_,H,Hx1_⟩:=rounds_succ Ho
  have H:Qah.b1 N r5 x8 x9 x10=some x9_:=H
  unfold Qah.b1 at H
  refine Qac (Qac (Qaj [0,1,2] rfl ?_))
  refine Qaa (v:=int .u64 x8) rfl rfl rfl (g_d rfl ?_)
  refine Qaa (v:=int .u64 (u64w 16)) rfl rfl rfl (g_d rfl ?_)
  refine Qas (B:=decide (x8≥(u64w 16))) rfl rfl rfl ?_ ?_
  ·
   intro hb
   rw [if_pos (b_dec_t hb)] at H
   refine g_d rfl (Qab (Qak rfl (Qaw ?_)))
   refine Qbd (Qac (Qaj [0,1,2] rfl ?_))
   refine Qaa (v:=int .i64 x10) rfl rfl rfl (g_d rfl ?_)
   refine Qaa (v:=int .i64 (i64w (x10 - 1))) rfl rfl rfl (g_d rfl ?_)
   try dsimp only [Qae,Qaf]
   refine Qaa (v:=int .i64 (i64w (x10 - 1))) rfl rfl rfl (g_d rfl (Qab (Qac (Qaj [0,1,2,3,4,5,6] rfl ?_))))
   refine Qaa (v:=int .i64 (i64w (x10 - 1))) rfl rfl rfl (g_d rfl ?_)
   refine Qaa (v:=int .u64 x8) rfl rfl rfl (g_d rfl ?_)
   refine Qaa (v:=int .u64 (u64w ((u64w 16) - 1))) rfl rfl rfl (g_d rfl ?_)
   refine Qaa (v:=int .u64 (bAnd .u64 x8 (u64w ((u64w 16) - 1)))) rfl rfl rfl (g_d rfl ?_)
   try dsimp only [Qae,Qaf]
   obtain ⟨g4,H⟩:=ite_get H
   refine Qaa (v:=int .u8 (btS (⟨#[48,49,50,51,52,53,54,55,56,57,97,98,99,100,101,102,103,104,105,106,107,108,109,110,111,112,113,114,115,116,117,118,119,120,121,122]⟩:ByteArray) (bAnd .u64 x8 (u64w ((u64w 16) - 1))))) rfl rfl (Qbh rfl rfl rfl rfl g4.1 g4.2) (g_d rfl ?_)
   obtain ⟨g5,H⟩:=ite_get H
   refine QbB (n:=i64w (x10 - 1)) (m:=1) rfl (fun _=>rfl) g5.1 g5.2 rfl rfl rfl rfl rfl (g_d rfl ?_)
   try dsimp only [Qae,Qaf]
   refine Qbw (y:=btS (⟨#[48,49,50,51,52,53,54,55,56,57,97,98,99,100,101,102,103,104,105,106,107,108,109,110,111,112,113,114,115,116,117,118,119,120,121,122]⟩:ByteArray) (bAnd .u64 x8 (u64w ((u64w 16) - 1)))) (fkI .u8).len (fkI .u8).one g5.1 g5.2 hs rfl rfl rfl rfl rfl (fun _=>rfl) ?_
   intro w hs
   refine g_n rfl (Qab (Qaj [0,1,2,3] rfl ?_))
   refine Qaa (v:=int .u64 x8) rfl rfl rfl (g_d rfl ?_)
   refine Qaa (v:=int .u64 (u64w r5)) rfl rfl rfl (g_d rfl ?_)
   obtain ⟨g6,H⟩:=ite_get H
   refine Qaa (v:=int .u64 (shrI .u64 x8 (u64w r5))) rfl rfl (QbY rfl rfl rfl g6) (g_d rfl ?_)
   refine Qaa (v:=int .u64 (shrI .u64 x8 (u64w r5))) rfl rfl rfl (g_d rfl ?_)
   try dsimp only [Qae,Qaf]
   refine Qab ?_
   refine QaD ?_
   obtain rfl:=QsJ H
   have hs:=hs.pull 0 rfl
   have hs:St _ [_] _:=St.take (Γ':=[]) hs
   exact ih1_ _ _ ⟨shrI .u64 x8 (u64w r5),x9.set (i64w (x10 - 1)) (btS (⟨#[48,49,50,51,52,53,54,55,56,57,97,98,99,100,101,102,103,104,105,106,107,108,109,110,111,112,113,114,115,116,117,118,119,120,121,122]⟩:ByteArray) (bAnd .u64 x8 (u64w ((u64w 16) - 1)))),i64w (x10 - 1),Hx1_,rfl,hs⟩
  intro hb
  rw [if_neg (b_dec_f hb)] at H
  refine g_d rfl ?_
  try dsimp only [Qae,Qaf]
  refine Qab (Qad rfl ?_)
  obtain rfl:=QsJ H
  subst Hx1_
  have hs:=hs.pull 0 rfl
  have hs:St _ [_] _:=St.take (Γ':=[]) hs
  refine Qbi rfl ?_
  exact ha1_ _ _ ⟨x8,x9,x10,Hr1_,rfl,hs⟩
 |false=>
  rw [if_neg Bool.false_ne_true] at H
  refine g_d rfl (Qab (Qad rfl (Qac (Qaj [0,1,2] rfl ?_))))
  refine Qaa (v:=int .i64 16) rfl rfl rfl (g_d rfl ?_)
  refine Qaa (v:=int .u64 (u64w 16)) rfl rfl rfl (g_d rfl ?_)
  refine Qaa (v:=int .u64 (u64w 16)) rfl rfl rfl (g_d rfl ?_)
  try dsimp only [Qae,Qaf]
  refine Qab (Qac ?_)
  obtain ⟨o1_,Ho,Hr1_⟩:=bind_get H
  refine QaR (J:=fun t w=>∃ x19:Int,∃ x20:(Ar Int 65),∃ x21:Int,Qah.a3 N x19 x20 x21=some r∧Fr t (fun O=>(slice none 0 0::int .u64 x19::O 2::bool false::bool false::O 5::O 6::O 7::O 8::O 9::slice none 0 0::string (⟨#[]⟩:ByteArray)::pointer (some ⟨b2,0,none⟩)::int .i64 x21::O 14::O 15::O 16::O 17::O 18::O 19::oT O 2 (oT O 3 (oT O 4 (oT O 5 (oT O 6 (oT O 7 (oT O 8 (oT O 9 (O 100::O 101::[])))))))):List Value))∧St w0 [Cells b2 ((encA (encI .u8)) x20) 114] w) ?_ ?_
  ·
   rintro t w ⟨x19,x20,x21,H,hf,hs⟩
   obtain ⟨O,rfl⟩:=hf.open
   try dsimp only [oT]
   unfold Qah.a3 at H
   refine Qac (Qaj [0,1,2] rfl ?_)
   refine Qaa (v:=int .i64 x21) rfl rfl rfl (g_d rfl ?_)
   refine Qaa (v:=int .i64 (i64w (x21 - 1))) rfl rfl rfl (g_d rfl ?_)
   try dsimp only [Qae,Qaf]
   refine Qaa (v:=int .i64 (i64w (x21 - 1))) rfl rfl rfl (g_d rfl (Qab (Qaj [0,1,2,3,4] rfl ?_)))
   refine Qaa (v:=int .i64 (i64w (x21 - 1))) rfl rfl rfl (g_d rfl ?_)
   refine Qaa (v:=int .u64 x19) rfl rfl rfl (g_d rfl ?_)
   obtain ⟨g16,H⟩:=ite_get H
   refine Qaa (v:=int .u8 (btS (⟨#[48,49,50,51,52,53,54,55,56,57,97,98,99,100,101,102,103,104,105,106,107,108,109,110,111,112,113,114,115,116,117,118,119,120,121,122]⟩:ByteArray) x19)) rfl rfl (Qbh rfl rfl rfl rfl g16.1 g16.2) (g_d rfl ?_)
   try dsimp only [Qae,Qaf]
   obtain ⟨g17,H⟩:=ite_get H
   refine QbB (n:=i64w (x21 - 1)) (m:=1) rfl (fun _=>rfl) g17.1 g17.2 rfl rfl rfl rfl rfl (g_d rfl ?_)
   refine Qbw (y:=btS (⟨#[48,49,50,51,52,53,54,55,56,57,97,98,99,100,101,102,103,104,105,106,107,108,109,110,111,112,113,114,115,116,117,118,119,120,121,122]⟩:ByteArray) x19) (fkI .u8).len (fkI .u8).one g17.1 g17.2 hs rfl rfl rfl rfl rfl (fun _=>rfl) ?_
   intro w hs
   refine g_n rfl (Qab ?_)
   have hs:=hs.pull 0 rfl
   have hs:St _ [_] _:=St.take (Γ':=[]) hs
   exact ha _ _ ⟨x20.set (i64w (x21 - 1)) (btS (⟨#[48,49,50,51,52,53,54,55,56,57,97,98,99,100,101,102,103,104,105,106,107,108,109,110,111,112,113,114,115,116,117,118,119,120,121,122]⟩:ByteArray) x19),i64w (x21 - 1),H,rfl,hs⟩
  intro ha1_
  have hs:=hs.pull 0 rfl
  have hs:St _ [_] _:=St.take (Γ':=[]) hs
  refine QaY (I:=fun n_ t w=>∃ x16:Int,∃ x17:(Ar Int 65),∃ x18:Int,rounds (fun s=>Qah.b3 N s.1 s.2.1 s.2.2) n_ (x16,x17,x18)=some o1_∧Fr t (fun O=>(slice none 0 0::int .u64 x16::O 2::bool false::bool false::O 5::O 6::O 7::O 8::O 9::slice none 0 0::string (⟨#[]⟩:ByteArray)::pointer (some ⟨b2,0,none⟩)::int .i64 x18::O 14::O 15::O 16::int .u64 (u64w 16)::O 18::O 19::oT O 2 (oT O 3 (oT O 4 (oT O 5 (oT O 6 (oT O 7 (oT O 8 (oT O 9 (O 100::O 101::[])))))))):List Value))∧St w0 [Cells b2 ((encA (encI .u8)) x17) 114] w) N ⟨a1,(Ar.rep 65 0),65,Ho,rfl,hs⟩ ?_ ?_
  ·
   rintro _ _ ⟨x16,x17,x18,h,_⟩
   exact rounds_zero h
  intro n_ ih1_
  rintro t w ⟨x16,x17,x18,Ho,hf,hs⟩
  obtain ⟨O,rfl⟩:=hf.open
  try dsimp only [oT]
  obtain ⟨x18_,H,Hx1_⟩:=rounds_succ Ho
  have H:Qah.b3 N x16 x17 x18=some x18_:=H
  unfold Qah.b3 at H
  refine Qac (Qac (Qaj [0,1,2] rfl ?_))
  refine Qaa (v:=int .u64 x16) rfl rfl rfl (g_d rfl ?_)
  refine Qaa (v:=int .u64 (u64w 16)) rfl rfl rfl (g_d rfl ?_)
  refine Qas (B:=decide (x16≥(u64w 16))) rfl rfl rfl ?_ ?_
  ·
   intro hb
   rw [if_pos (b_dec_t hb)] at H
   refine g_d rfl ?_
   try dsimp only [Qae,Qaf]
   refine Qab (Qak rfl (Qaw ?_))
   refine Qbd (Qac (Qaj [0,1,2] rfl ?_))
   refine Qaa (v:=int .i64 x18) rfl rfl rfl (g_d rfl ?_)
   refine Qaa (v:=int .i64 (i64w (x18 - 1))) rfl rfl rfl (g_d rfl ?_)
   refine Qaa (v:=int .i64 (i64w (x18 - 1))) rfl rfl rfl (g_d rfl ?_)
   try dsimp only [Qae,Qaf]
   refine Qab (Qac (Qaj [0,1,2,3] rfl ?_))
   refine Qaa (v:=int .u64 x16) rfl rfl rfl (g_d rfl ?_)
   refine Qaa (v:=int .u64 (u64w 16)) rfl rfl rfl (g_d rfl ?_)
   obtain ⟨g13,H⟩:=ite_get H
   refine Qaa (v:=int .u64 (u64w (x16.tdiv (u64w 16)))) rfl rfl (QbK rfl rfl rfl g13) (g_d rfl ?_)
   refine Qaa (v:=int .u64 (u64w (x16.tdiv (u64w 16)))) rfl rfl rfl (g_d rfl ?_)
   try dsimp only [Qae,Qaf]
   refine Qab (Qac (Qaj [0,1,2,3,4,5,6,7,8] rfl ?_))
   refine Qaa (v:=int .i64 (i64w (x18 - 1))) rfl rfl rfl (g_d rfl ?_)
   refine Qaa (v:=int .u64 x16) rfl rfl rfl (g_d rfl ?_)
   refine Qaa (v:=int .u64 (u64w (x16.tdiv (u64w 16)))) rfl rfl rfl (g_d rfl ?_)
   refine Qaa (v:=int .u64 (u64w 16)) rfl rfl rfl (g_d rfl ?_)
   refine Qaa (v:=int .u64 (u64w ((u64w (x16.tdiv (u64w 16)))*(u64w 16)))) rfl rfl rfl (g_d rfl ?_)
   refine Qaa (v:=int .u64 (u64w (x16 - (u64w ((u64w (x16.tdiv (u64w 16)))*(u64w 16)))))) rfl rfl rfl (g_d rfl ?_)
   try dsimp only [Qae,Qaf]
   obtain ⟨g14,H⟩:=ite_get H
   refine Qaa (v:=int .u8 (btS (⟨#[48,49,50,51,52,53,54,55,56,57,97,98,99,100,101,102,103,104,105,106,107,108,109,110,111,112,113,114,115,116,117,118,119,120,121,122]⟩:ByteArray) (u64w (x16 - (u64w ((u64w (x16.tdiv (u64w 16)))*(u64w 16))))))) rfl rfl (Qbh rfl rfl rfl rfl g14.1 g14.2) (g_d rfl ?_)
   obtain ⟨g15,H⟩:=ite_get H
   refine QbB (n:=i64w (x18 - 1)) (m:=1) rfl (fun _=>rfl) g15.1 g15.2 rfl rfl rfl rfl rfl (g_d rfl ?_)
   try dsimp only [Qae,Qaf]
   refine Qbw (y:=btS (⟨#[48,49,50,51,52,53,54,55,56,57,97,98,99,100,101,102,103,104,105,106,107,108,109,110,111,112,113,114,115,116,117,118,119,120,121,122]⟩:ByteArray) (u64w (x16 - (u64w ((u64w (x16.tdiv (u64w 16)))*(u64w 16)))))) (fkI .u8).len (fkI .u8).one g15.1 g15.2 hs rfl rfl rfl rfl rfl (fun _=>rfl) ?_
   intro w hs
   refine g_n rfl (Qab (Qaj [0,1] rfl ?_))
   refine Qaa (v:=int .u64 (u64w (x16.tdiv (u64w 16)))) rfl rfl rfl (g_d rfl ?_)
   refine Qaa (v:=int .u64 (u64w (x16.tdiv (u64w 16)))) rfl rfl rfl (g_d rfl (Qab ?_))
   refine QaD ?_
   obtain rfl:=QsJ H
   have hs:=hs.pull 0 rfl
   have hs:St _ [_] _:=St.take (Γ':=[]) hs
   exact ih1_ _ _ ⟨u64w (x16.tdiv (u64w 16)),x17.set (i64w (x18 - 1)) (btS (⟨#[48,49,50,51,52,53,54,55,56,57,97,98,99,100,101,102,103,104,105,106,107,108,109,110,111,112,113,114,115,116,117,118,119,120,121,122]⟩:ByteArray) (u64w (x16 - (u64w ((u64w (x16.tdiv (u64w 16)))*(u64w 16)))))),i64w (x18 - 1),Hx1_,rfl,hs⟩
  intro hb
  rw [if_neg (b_dec_f hb)] at H
  refine g_d rfl (Qab (Qad rfl ?_))
  obtain rfl:=QsJ H
  subst Hx1_
  have hs:=hs.pull 0 rfl
  have hs:St _ [_] _:=St.take (Γ':=[]) hs
  refine Qbi rfl ?_
  exact ha1_ _ _ ⟨x16,x17,x18,Hr1_,rfl,hs⟩
def istrconv_FormatUint_at_c16.post (w0:World) (r:ByteArray) (v:Value) (w:World):Prop:=v=string r∧St w0 [] w
theorem istrconv_FormatUint_at_c16.calls {N:Nat} {a1:Int} {w0:World} {r:ByteArray} (hdbr:CellU w0 5 15 4) (H:istrconv_FormatUint_at_c16.f N a1=some r):
 Calls Tryd.prog 45 #[int .u64 a1,int .i64 16] w0 fun e w=>∃ v,e= .returned v∧istrconv_FormatUint_at_c16.post w0 r v w:=by
 unfold istrconv_FormatUint_at_c16.f at H
 have hs:St w0 [] w0:=St.refl w0
 refine calls_of_g (n:=30) Tryd.func45 rfl rfl ?_
 show G _ _ _ _ [_,_,_,_,_,_,_,_,_,_,_,_,_,_,_,_,_,_,_,_,_,_,_,_,_,_,_,_,_,_,_,_] _
 refine Qac (Qaj [0] rfl ?_)
 refine Qaa (v:=string (⟨#[]⟩:ByteArray)) rfl rfl rfl ?_
 show G _ _ _ _ [_,_,_,_,_,_,_,_,_,_,_,_,_,_,_,_,_,_,_,_,_,_,_,_,_,_,_,_,_,_,_,_] _
 refine Qab (Qac (Qac (Qaj [0,1] rfl ?_)))
 refine Qaa (v:=int .i64 16) rfl rfl rfl ?_
 refine Qaa (v:=bool false) rfl rfl rfl (Qab (Qad rfl (Qaw (Qac (Qaj [0,1,2,3,4,5,6,7] rfl ?_)))))
 refine Qaa (v:=int .u64 a1) rfl rfl rfl ?_
 refine Qaa (v:=int .i64 16) rfl rfl rfl ?_
 obtain ⟨r2,Hr2,H⟩:=bind_get H
 refine QaA (args:=[slice none 0 0,int .u64 a1,int .i64 16,bool false,bool false]) rfl rfl (Qax rfl (callFunc_enter Tryd.func63 rfl rfl) rfl) (Qah.calls (a1:=a1) (hs.cellU hdbr) Hr2) ?_
 rintro _ w ⟨v3,rfl,hs2⟩
 have hs:St _ [_] _:=hs.call hs2
 refine Qaa (v:=tuple #[v3,string r2.2]) rfl rfl rfl ?_
 refine Qaa (v:=v3) rfl rfl rfl ?_
 refine Qaa (v:=string r2.2) rfl rfl rfl ?_
 refine Qaa (v:=v3) rfl rfl rfl ?_
 show G _ _ _ _ [_,_,_,_,_,_,_,_,_,_,_,_,_,_,_,_,_,_,_,_,_,_,_,_,_,_,_,_,_,_,_,_] _
 refine Qaa (v:=string r2.2) rfl rfl rfl (Qab (Qac (Qaj [0,1] rfl ?_)))
 refine Qaa (v:=string r2.2) rfl rfl rfl ?_
 refine Qaa (v:=string r2.2) rfl rfl rfl (Qab ?_)
 obtain rfl:=QsJ H
 refine Qau Tryd.func45 (v:=string r2.2) (res1 rfl rfl) ?_
 have hs:St _ [] _:=St.take (Γ':=[_]) hs
 exact ⟨_,rfl,rfl,hs⟩
def QaN.post (w0:World) (r:ByteArray) (v:Value) (w:World):Prop:=v=string r∧St w0 [] w
theorem QaN.calls {N:Nat} {a1:Int} {w0:World} {r:ByteArray} (hdbr:CellU w0 5 15 4) (H:QaN.f N a1=some r):
 Calls Tryd.prog 21 #[int .u64 a1,int .i64 16] w0 fun e w=>∃ v,e= .returned v∧QaN.post w0 r v w:=by
 unfold QaN.f at H
 have hs:St w0 [] w0:=St.refl w0
 refine calls_of_g (n:=6) Tryd.func21 rfl rfl ?_
 show G _ _ _ _ [_,_,_,_,_,_,_,_] _
 refine Qac (Qaj [0] rfl ?_)
 refine Qaa (v:=string (⟨#[]⟩:ByteArray)) rfl rfl rfl (Qab (Qac (Qaj [0,1,2,3] rfl ?_)))
 refine Qaa (v:=int .u64 a1) rfl rfl rfl ?_
 show G _ _ _ _ [_,_,_,_,_,_,_,_] _
 refine Qaa (v:=int .i64 16) rfl rfl rfl ?_
 obtain ⟨r2,Hr2,H⟩:=bind_get H
 refine QaA (args:=[int .u64 a1,int .i64 16]) rfl rfl (Qax rfl (callFunc_enter Tryd.func45 rfl rfl) rfl) (istrconv_FormatUint_at_c16.calls (a1:=a1) (hs.cellU hdbr) Hr2) ?_
 rintro _ w ⟨rfl,hs2⟩
 have hs:St _ [] _:=hs.call hs2
 refine Qaa (v:=string r2) rfl rfl rfl ?_
 show G _ _ _ _ [_,_,_,_,_,_,_,_] _
 refine Qab ?_
 obtain rfl:=QsJ H
 refine Qau Tryd.func21 (v:=string r2) (res1 rfl rfl) ?_
 have hs:St _ [] _:=St.take (Γ':=[]) hs
 exact ⟨_,rfl,rfl,hs⟩
def bits_Mul64.post (w0:World) (r:(Int×Int)) (v:Value) (w:World):Prop:=v=tuple #[int .u64 r.1,int .u64 r.2]∧St w0 [] w
theorem bits_Mul64.calls {N:Nat} {a1:Int} {a2:Int} {w0:World} {r:(Int×Int)} (H:bits_Mul64.f N a1 a2=some r):
 Calls Tryd.prog 65 #[int .u64 a1,int .u64 a2] w0 fun e w=>∃ v,e= .returned v∧bits_Mul64.post w0 r v w:=by
 unfold bits_Mul64.f at H
 have hs:St w0 [] w0:=St.refl w0
 refine calls_of_g (n:=49) Tryd.func65 rfl rfl ?_
 show G _ _ _ _ [_,_,_,_,_,_,_,_,_,_,_,_,_,_,_,_,_,_,_,_,_,_,_,_,_,_,_,_,_,_,_,_,_,_,_,_,_,_,_,_,_,_,_,_,_,_,_,_,_,_,_] _
 refine Qac (Qaj [0,1] rfl ?_)
 refine Qaa (v:=int .u64 0) rfl rfl rfl ?_
 show G _ _ _ _ [_,_,_,_,_,_,_,_,_,_,_,_,_,_,_,_,_,_,_,_,_,_,_,_,_,_,_,_,_,_,_,_,_,_,_,_,_,_,_,_,_,_,_,_,_,_,_,_,_,_,_] _
 refine Qaa (v:=int .u64 0) rfl rfl rfl (Qab (Qac (Qaj [0,1,2] rfl ?_)))
 refine Qaa (v:=int .u64 a1) rfl rfl rfl ?_
 refine Qaa (v:=int .u64 (bAnd .u64 a1 4294967295)) rfl rfl rfl ?_
 refine Qaa (v:=int .u64 (bAnd .u64 a1 4294967295)) rfl rfl rfl ?_
 show G _ _ _ _ [_,_,_,_,_,_,_,_,_,_,_,_,_,_,_,_,_,_,_,_,_,_,_,_,_,_,_,_,_,_,_,_,_,_,_,_,_,_,_,_,_,_,_,_,_,_,_,_,_,_,_] _
 refine Qab (Qac (Qaj [0,1,2] rfl ?_))
 refine Qaa (v:=int .u64 a1) rfl rfl rfl ?_
 refine Qaa (v:=int .u64 (shrI .u64 a1 32)) rfl rfl rfl ?_
 refine Qaa (v:=int .u64 (shrI .u64 a1 32)) rfl rfl rfl (Qab (Qac (Qaj [0,1,2] rfl ?_)))
 refine Qaa (v:=int .u64 a2) rfl rfl rfl ?_
 refine Qaa (v:=int .u64 (bAnd .u64 a2 4294967295)) rfl rfl rfl ?_
 show G _ _ _ _ [_,_,_,_,_,_,_,_,_,_,_,_,_,_,_,_,_,_,_,_,_,_,_,_,_,_,_,_,_,_,_,_,_,_,_,_,_,_,_,_,_,_,_,_,_,_,_,_,_,_,_] _
 refine Qaa (v:=int .u64 (bAnd .u64 a2 4294967295)) rfl rfl rfl (Qab (Qac (Qaj [0,1,2] rfl ?_)))
 refine Qaa (v:=int .u64 a2) rfl rfl rfl ?_
 refine Qaa (v:=int .u64 (shrI .u64 a2 32)) rfl rfl rfl ?_
 refine Qaa (v:=int .u64 (shrI .u64 a2 32)) rfl rfl rfl ?_
 show G _ _ _ _ [_,_,_,_,_,_,_,_,_,_,_,_,_,_,_,_,_,_,_,_,_,_,_,_,_,_,_,_,_,_,_,_,_,_,_,_,_,_,_,_,_,_,_,_,_,_,_,_,_,_,_] _
 refine Qab (Qac (Qaj [0,1,2,3] rfl ?_))
 refine Qaa (v:=int .u64 (bAnd .u64 a1 4294967295)) rfl rfl rfl ?_
 refine Qaa (v:=int .u64 (bAnd .u64 a2 4294967295)) rfl rfl rfl ?_
 refine Qaa (v:=int .u64 (u64w ((bAnd .u64 a1 4294967295)*(bAnd .u64 a2 4294967295)))) rfl rfl rfl ?_
 refine Qaa (v:=int .u64 (u64w ((bAnd .u64 a1 4294967295)*(bAnd .u64 a2 4294967295)))) rfl rfl rfl (Qab (Qac (Qaj [0,1,2,3,4,5,6] rfl ?_)))
 refine Qaa (v:=int .u64 (shrI .u64 a1 32)) rfl rfl rfl ?_
 refine Qaa (v:=int .u64 (bAnd .u64 a2 4294967295)) rfl rfl rfl ?_
 refine Qaa (v:=int .u64 (u64w ((shrI .u64 a1 32)*(bAnd .u64 a2 4294967295)))) rfl rfl rfl ?_
 show G _ _ _ _ [_,_,_,_,_,_,_,_,_,_,_,_,_,_,_,_,_,_,_,_,_,_,_,_,_,_,_,_,_,_,_,_,_,_,_,_,_,_,_,_,_,_,_,_,_,_,_,_,_,_,_] _
 refine Qaa (v:=int .u64 (u64w ((bAnd .u64 a1 4294967295)*(bAnd .u64 a2 4294967295)))) rfl rfl rfl ?_
 refine Qaa (v:=int .u64 (shrI .u64 (u64w ((bAnd .u64 a1 4294967295)*(bAnd .u64 a2 4294967295))) 32)) rfl rfl rfl ?_
 refine Qaa (v:=int .u64 (u64w ((u64w ((shrI .u64 a1 32)*(bAnd .u64 a2 4294967295)))+(shrI .u64 (u64w ((bAnd .u64 a1 4294967295)*(bAnd .u64 a2 4294967295))) 32)))) rfl rfl rfl ?_
 refine Qaa (v:=int .u64 (u64w ((u64w ((shrI .u64 a1 32)*(bAnd .u64 a2 4294967295)))+(shrI .u64 (u64w ((bAnd .u64 a1 4294967295)*(bAnd .u64 a2 4294967295))) 32)))) rfl rfl rfl ?_
 show G _ _ _ _ [_,_,_,_,_,_,_,_,_,_,_,_,_,_,_,_,_,_,_,_,_,_,_,_,_,_,_,_,_,_,_,_,_,_,_,_,_,_,_,_,_,_,_,_,_,_,_,_,_,_,_] _
 refine Qab (Qac (Qaj [0,1,2] rfl ?_))
 refine Qaa (v:=int .u64 (u64w ((u64w ((shrI .u64 a1 32)*(bAnd .u64 a2 4294967295)))+(shrI .u64 (u64w ((bAnd .u64 a1 4294967295)*(bAnd .u64 a2 4294967295))) 32)))) rfl rfl rfl ?_
 refine Qaa (v:=int .u64 (bAnd .u64 (u64w ((u64w ((shrI .u64 a1 32)*(bAnd .u64 a2 4294967295)))+(shrI .u64 (u64w ((bAnd .u64 a1 4294967295)*(bAnd .u64 a2 4294967295))) 32))) 4294967295)) rfl rfl rfl ?_
 refine Qaa (v:=int .u64 (bAnd .u64 (u64w ((u64w ((shrI .u64 a1 32)*(bAnd .u64 a2 4294967295)))+(shrI .u64 (u64w ((bAnd .u64 a1 4294967295)*(bAnd .u64 a2 4294967295))) 32))) 4294967295)) rfl rfl rfl (Qab (Qac (Qaj [0,1,2] rfl ?_)))
 refine Qaa (v:=int .u64 (u64w ((u64w ((shrI .u64 a1 32)*(bAnd .u64 a2 4294967295)))+(shrI .u64 (u64w ((bAnd .u64 a1 4294967295)*(bAnd .u64 a2 4294967295))) 32)))) rfl rfl rfl ?_
 refine Qaa (v:=int .u64 (shrI .u64 (u64w ((u64w ((shrI .u64 a1 32)*(bAnd .u64 a2 4294967295)))+(shrI .u64 (u64w ((bAnd .u64 a1 4294967295)*(bAnd .u64 a2 4294967295))) 32))) 32)) rfl rfl rfl ?_
 show G _ _ _ _ [_,_,_,_,_,_,_,_,_,_,_,_,_,_,_,_,_,_,_,_,_,_,_,_,_,_,_,_,_,_,_,_,_,_,_,_,_,_,_,_,_,_,_,_,_,_,_,_,_,_,_] _
 refine Qaa (v:=int .u64 (shrI .u64 (u64w ((u64w ((shrI .u64 a1 32)*(bAnd .u64 a2 4294967295)))+(shrI .u64 (u64w ((bAnd .u64 a1 4294967295)*(bAnd .u64 a2 4294967295))) 32))) 32)) rfl rfl rfl (Qab (Qac (Qaj [0,1,2,3,4,5] rfl ?_)))
 refine Qaa (v:=int .u64 (bAnd .u64 (u64w ((u64w ((shrI .u64 a1 32)*(bAnd .u64 a2 4294967295)))+(shrI .u64 (u64w ((bAnd .u64 a1 4294967295)*(bAnd .u64 a2 4294967295))) 32))) 4294967295)) rfl rfl rfl ?_
 refine Qaa (v:=int .u64 (bAnd .u64 a1 4294967295)) rfl rfl rfl ?_
 refine Qaa (v:=int .u64 (shrI .u64 a2 32)) rfl rfl rfl ?_
 refine Qaa (v:=int .u64 (u64w ((bAnd .u64 a1 4294967295)*(shrI .u64 a2 32)))) rfl rfl rfl ?_
 refine Qaa (v:=int .u64 (u64w ((bAnd .u64 (u64w ((u64w ((shrI .u64 a1 32)*(bAnd .u64 a2 4294967295)))+(shrI .u64 (u64w ((bAnd .u64 a1 4294967295)*(bAnd .u64 a2 4294967295))) 32))) 4294967295)+(u64w ((bAnd .u64 a1 4294967295)*(shrI .u64 a2 32)))))) rfl rfl rfl ?_
 show G _ _ _ _ [_,_,_,_,_,_,_,_,_,_,_,_,_,_,_,_,_,_,_,_,_,_,_,_,_,_,_,_,_,_,_,_,_,_,_,_,_,_,_,_,_,_,_,_,_,_,_,_,_,_,_] _
 refine Qaa (v:=int .u64 (u64w ((bAnd .u64 (u64w ((u64w ((shrI .u64 a1 32)*(bAnd .u64 a2 4294967295)))+(shrI .u64 (u64w ((bAnd .u64 a1 4294967295)*(bAnd .u64 a2 4294967295))) 32))) 4294967295)+(u64w ((bAnd .u64 a1 4294967295)*(shrI .u64 a2 32)))))) rfl rfl rfl (Qab (Qac (Qaj [0,1,2,3,4,5,6,7,8] rfl ?_)))
 refine Qaa (v:=int .u64 (shrI .u64 a1 32)) rfl rfl rfl ?_
 refine Qaa (v:=int .u64 (shrI .u64 a2 32)) rfl rfl rfl ?_
 refine Qaa (v:=int .u64 (u64w ((shrI .u64 a1 32)*(shrI .u64 a2 32)))) rfl rfl rfl ?_
 refine Qaa (v:=int .u64 (shrI .u64 (u64w ((u64w ((shrI .u64 a1 32)*(bAnd .u64 a2 4294967295)))+(shrI .u64 (u64w ((bAnd .u64 a1 4294967295)*(bAnd .u64 a2 4294967295))) 32))) 32)) rfl rfl rfl ?_
 refine Qaa (v:=int .u64 (u64w ((u64w ((shrI .u64 a1 32)*(shrI .u64 a2 32)))+(shrI .u64 (u64w ((u64w ((shrI .u64 a1 32)*(bAnd .u64 a2 4294967295)))+(shrI .u64 (u64w ((bAnd .u64 a1 4294967295)*(bAnd .u64 a2 4294967295))) 32))) 32)))) rfl rfl rfl ?_
 show G _ _ _ _ [_,_,_,_,_,_,_,_,_,_,_,_,_,_,_,_,_,_,_,_,_,_,_,_,_,_,_,_,_,_,_,_,_,_,_,_,_,_,_,_,_,_,_,_,_,_,_,_,_,_,_] _
 refine Qaa (v:=int .u64 (u64w ((bAnd .u64 (u64w ((u64w ((shrI .u64 a1 32)*(bAnd .u64 a2 4294967295)))+(shrI .u64 (u64w ((bAnd .u64 a1 4294967295)*(bAnd .u64 a2 4294967295))) 32))) 4294967295)+(u64w ((bAnd .u64 a1 4294967295)*(shrI .u64 a2 32)))))) rfl rfl rfl ?_
 refine Qaa (v:=int .u64 (shrI .u64 (u64w ((bAnd .u64 (u64w ((u64w ((shrI .u64 a1 32)*(bAnd .u64 a2 4294967295)))+(shrI .u64 (u64w ((bAnd .u64 a1 4294967295)*(bAnd .u64 a2 4294967295))) 32))) 4294967295)+(u64w ((bAnd .u64 a1 4294967295)*(shrI .u64 a2 32))))) 32)) rfl rfl rfl ?_
 refine Qaa (v:=int .u64 (u64w ((u64w ((u64w ((shrI .u64 a1 32)*(shrI .u64 a2 32)))+(shrI .u64 (u64w ((u64w ((shrI .u64 a1 32)*(bAnd .u64 a2 4294967295)))+(shrI .u64 (u64w ((bAnd .u64 a1 4294967295)*(bAnd .u64 a2 4294967295))) 32))) 32)))+(shrI .u64 (u64w ((bAnd .u64 (u64w ((u64w ((shrI .u64 a1 32)*(bAnd .u64 a2 4294967295)))+(shrI .u64 (u64w ((bAnd .u64 a1 4294967295)*(bAnd .u64 a2 4294967295))) 32))) 4294967295)+(u64w ((bAnd .u64 a1 4294967295)*(shrI .u64 a2 32))))) 32)))) rfl rfl rfl ?_
 refine Qaa (v:=int .u64 (u64w ((u64w ((u64w ((shrI .u64 a1 32)*(shrI .u64 a2 32)))+(shrI .u64 (u64w ((u64w ((shrI .u64 a1 32)*(bAnd .u64 a2 4294967295)))+(shrI .u64 (u64w ((bAnd .u64 a1 4294967295)*(bAnd .u64 a2 4294967295))) 32))) 32)))+(shrI .u64 (u64w ((bAnd .u64 (u64w ((u64w ((shrI .u64 a1 32)*(bAnd .u64 a2 4294967295)))+(shrI .u64 (u64w ((bAnd .u64 a1 4294967295)*(bAnd .u64 a2 4294967295))) 32))) 4294967295)+(u64w ((bAnd .u64 a1 4294967295)*(shrI .u64 a2 32))))) 32)))) rfl rfl rfl ?_
 show G _ _ _ _ [_,_,_,_,_,_,_,_,_,_,_,_,_,_,_,_,_,_,_,_,_,_,_,_,_,_,_,_,_,_,_,_,_,_,_,_,_,_,_,_,_,_,_,_,_,_,_,_,_,_,_] _
 refine Qab (Qac (Qaj [0,1,2,3] rfl ?_))
 refine Qaa (v:=int .u64 a1) rfl rfl rfl ?_
 refine Qaa (v:=int .u64 a2) rfl rfl rfl ?_
 refine Qaa (v:=int .u64 (u64w (a1*a2))) rfl rfl rfl ?_
 refine Qaa (v:=int .u64 (u64w (a1*a2))) rfl rfl rfl (Qab ?_)
 obtain rfl:=QsJ H
 refine Qau Tryd.func65 (v:=tuple #[int .u64 (u64w ((u64w ((u64w ((shrI .u64 a1 32)*(shrI .u64 a2 32)))+(shrI .u64 (u64w ((u64w ((shrI .u64 a1 32)*(bAnd .u64 a2 4294967295)))+(shrI .u64 (u64w ((bAnd .u64 a1 4294967295)*(bAnd .u64 a2 4294967295))) 32))) 32)))+(shrI .u64 (u64w ((bAnd .u64 (u64w ((u64w ((shrI .u64 a1 32)*(bAnd .u64 a2 4294967295)))+(shrI .u64 (u64w ((bAnd .u64 a1 4294967295)*(bAnd .u64 a2 4294967295))) 32))) 4294967295)+(u64w ((bAnd .u64 a1 4294967295)*(shrI .u64 a2 32))))) 32))),int .u64 (u64w (a1*a2))]) (resN (l:=Tryd.f65.results.toList) (vs:=[int .u64 (u64w ((u64w ((u64w ((shrI .u64 a1 32)*(shrI .u64 a2 32)))+(shrI .u64 (u64w ((u64w ((shrI .u64 a1 32)*(bAnd .u64 a2 4294967295)))+(shrI .u64 (u64w ((bAnd .u64 a1 4294967295)*(bAnd .u64 a2 4294967295))) 32))) 32)))+(shrI .u64 (u64w ((bAnd .u64 (u64w ((u64w ((shrI .u64 a1 32)*(bAnd .u64 a2 4294967295)))+(shrI .u64 (u64w ((bAnd .u64 a1 4294967295)*(bAnd .u64 a2 4294967295))) 32))) 4294967295)+(u64w ((bAnd .u64 a1 4294967295)*(shrI .u64 a2 32))))) 32))),int .u64 (u64w (a1*a2))]) rfl ⟨rfl,rfl,trivial⟩ (by simp)) ?_
 have hs:St _ [] _:=St.take (Γ':=[]) hs
 exact ⟨_,rfl,rfl,hs⟩
def bits_Mul.post (w0:World) (r:(Int×Int)) (v:Value) (w:World):Prop:=v=tuple #[int .u64 r.1,int .u64 r.2]∧St w0 [] w
theorem bits_Mul.calls {N:Nat} {a1:Int} {a2:Int} {w0:World} {r:(Int×Int)} (H:bits_Mul.f N a1 a2=some r):
 Calls Tryd.prog 46 #[int .u64 a1,int .u64 a2] w0 fun e w=>∃ v,e= .returned v∧bits_Mul.post w0 r v w:=by
 unfold bits_Mul.f at H
 have hs:St w0 [] w0:=St.refl w0
 refine calls_of_g (n:=28) Tryd.func46 rfl rfl ?_
 show G _ _ _ _ [_,_,_,_,_,_,_,_,_,_,_,_,_,_,_,_,_,_,_,_,_,_,_,_,_,_,_,_,_,_] _
 refine Qac (Qaj [0,1] rfl ?_)
 refine Qaa (v:=int .u64 0) rfl rfl rfl ?_
 refine Qaa (v:=int .u64 0) rfl rfl rfl (Qab (Qac (Qad rfl (Qaw (Qac (Qaj [0,1,2,3,4,5,6,7] rfl ?_))))))
 refine Qaa (v:=int .u64 a1) rfl rfl rfl ?_
 refine Qaa (v:=int .u64 a2) rfl rfl rfl ?_
 obtain ⟨r3,Hr3,H⟩:=bind_get H
 refine QaA (args:=[int .u64 a1,int .u64 a2]) rfl rfl (Qax rfl (callFunc_enter Tryd.func65 rfl rfl) rfl) (bits_Mul64.calls (a1:=a1) (a2:=a2) Hr3) ?_
 rintro _ w ⟨rfl,hs2⟩
 have hs:St _ [] _:=hs.call hs2
 show G _ _ _ _ [_,_,_,_,_,_,_,_,_,_,_,_,_,_,_,_,_,_,_,_,_,_,_,_,_,_,_,_,_,_] _
 refine Qaa (v:=tuple #[int .u64 r3.1,int .u64 r3.2]) rfl rfl rfl ?_
 refine Qaa (v:=int .u64 r3.1) rfl rfl rfl ?_
 refine Qaa (v:=int .u64 r3.2) rfl rfl rfl ?_
 refine Qaa (v:=int .u64 r3.1) rfl rfl rfl ?_
 refine Qaa (v:=int .u64 r3.2) rfl rfl rfl (Qab (Qac (Qaj [0,1,2,3] rfl ?_)))
 refine Qaa (v:=int .u64 r3.1) rfl rfl rfl ?_
 refine Qaa (v:=int .u64 r3.2) rfl rfl rfl ?_
 refine Qaa (v:=int .u64 r3.1) rfl rfl rfl ?_
 show G _ _ _ _ [_,_,_,_,_,_,_,_,_,_,_,_,_,_,_,_,_,_,_,_,_,_,_,_,_,_,_,_,_,_] _
 refine Qaa (v:=int .u64 r3.2) rfl rfl rfl (Qab ?_)
 obtain rfl:=QsJ H
 refine Qau Tryd.func46 (v:=tuple #[int .u64 r3.1,int .u64 r3.2]) (resN (l:=Tryd.f46.results.toList) (vs:=[int .u64 r3.1,int .u64 r3.2]) rfl ⟨rfl,rfl,trivial⟩ (by simp)) ?_
 have hs:St _ [] _:=St.take (Γ':=[]) hs
 exact ⟨_,rfl,rfl,hs⟩
def stringslite_HasPrefix.post (w0:World) (r:Bool) (v:Value) (w:World):Prop:=v=bool r∧St w0 [] w
theorem stringslite_HasPrefix.calls {N:Nat} {a1:ByteArray} {a2:ByteArray} {w0:World} {r:Bool} (H:stringslite_HasPrefix.f N a1 a2=some r):
 Calls Tryd.prog 66 #[string a1,string a2] w0 fun e w=>∃ v,e= .returned v∧stringslite_HasPrefix.post w0 r v w:=by
 unfold stringslite_HasPrefix.f at H
 have hs:St w0 [] w0:=St.refl w0
 refine calls_of_g (n:=16) Tryd.func66 rfl rfl ?_
 show G _ _ _ _ [_,_,_,_,_,_,_,_,_,_,_,_,_,_,_,_,_,_] _
 refine Qac (Qaj [0] rfl ?_)
 refine Qaa (v:=bool false) rfl rfl rfl (Qab (Qac (Qaj [0,1,2,3,4,5,6,7,8,9,10,11,12,13] rfl ?_)))
 refine Qaa (v:=string a1) rfl rfl rfl ?_
 refine Qaa (v:=int .i64 (a1.size:Int)) rfl rfl (Qbf rfl rfl rfl) ?_
 show G _ _ _ _ [_,_,_,_,_,_,_,_,_,_,_,_,_,_,_,_,_,_] _
 refine Qaa (v:=string a2) rfl rfl rfl ?_
 refine Qaa (v:=int .i64 (a2.size:Int)) rfl rfl (Qbf rfl rfl rfl) ?_
 refine Qas (B:=decide ((a1.size:Int)≥(a2.size:Int))) rfl rfl rfl ?_ ?_
 ·
  intro hb
  rw [if_pos (b_dec_t hb)] at H
  refine Qaa (v:=bool true) rfl rfl rfl ?_
  refine Qaa (v:=string a1) rfl rfl rfl ?_
  show G _ _ _ _ [_,_,_,_,_,_,_,_,_,_,_,_,_,_,_,_,_,_] _
  refine Qaa (v:=string a2) rfl rfl rfl ?_
  refine Qaa (v:=int .i64 (a2.size:Int)) rfl rfl (Qbf rfl rfl rfl) ?_
  obtain ⟨g,H⟩:=ite_get H
  refine Qaa (v:=string (subS a1 0 (a2.size:Int))) rfl rfl (QaM rfl rfl rfl (.inl ⟨rfl,rfl⟩) (.inr ⟨_,_,rfl,rfl⟩) g.1 g.2.1 g.2.2) ?_
  show G _ _ _ _ [_,_,_,_,_,_,_,_,_,_,_,_,_,_,_,_,_,_] _
  refine Qaa (v:=string a2) rfl rfl rfl ?_
  refine Qaa (v:=bool ((subS a1 0 (a2.size:Int)).toList==a2.toList)) rfl rfl rfl ?_
  refine Qaa (v:=bool ((subS a1 0 (a2.size:Int)).toList==a2.toList)) rfl rfl rfl ?_
  show G _ _ _ _ [_,_,_,_,_,_,_,_,_,_,_,_,_,_,_,_,_,_] _
  refine Qaa (v:=bool ((subS a1 0 (a2.size:Int)).toList==a2.toList)) rfl rfl rfl (Qab ?_)
  obtain rfl:=QsJ H
  refine Qau Tryd.func66 (v:=bool ((subS a1 0 (a2.size:Int)).toList==a2.toList)) (res1 rfl rfl) ?_
  have hs:St _ [] _:=St.take (Γ':=[]) hs
  exact ⟨_,rfl,rfl,hs⟩
 intro hb
 rw [if_neg (b_dec_f hb)] at H
 show G _ _ _ _ [_,_,_,_,_,_,_,_,_,_,_,_,_,_,_,_,_,_] _
 refine Qaa (v:=bool false) rfl rfl rfl (Qag rfl rfl (Qag rfl rfl ?_))
 show G _ _ _ _ [_,_,_,_,_,_,_,_,_,_,_,_,_,_,_,_,_,_] _
 refine Qag rfl rfl (Qag rfl rfl (Qag rfl rfl ?_))
 show G _ _ _ _ [_,_,_,_,_,_,_,_,_,_,_,_,_,_,_,_,_,_] _
 refine Qag rfl rfl ?_
 refine Qaa (v:=bool false) rfl rfl rfl ?_
 refine Qaa (v:=bool false) rfl rfl rfl ?_
 show G _ _ _ _ [_,_,_,_,_,_,_,_,_,_,_,_,_,_,_,_,_,_] _
 refine Qab ?_
 obtain rfl:=QsJ H
 refine Qau Tryd.func66 (v:=bool false) (res1 rfl rfl) ?_
 have hs:St _ [] _:=St.take (Γ':=[]) hs
 exact ⟨_,rfl,rfl,hs⟩
def Qam.post (w0:World) (r:Bool) (v:Value) (w:World):Prop:=v=bool r∧St w0 [] w
theorem Qam.calls {N:Nat} {a1:ByteArray} {a2:ByteArray} {w0:World} {r:Bool} (H:Qam.f N a1 a2=some r):
 Calls Tryd.prog 47 #[string a1,string a2] w0 fun e w=>∃ v,e= .returned v∧Qam.post w0 r v w:=by
 unfold Qam.f at H
 have hs:St w0 [] w0:=St.refl w0
 refine calls_of_g (n:=6) Tryd.func47 rfl rfl ?_
 show G _ _ _ _ [_,_,_,_,_,_,_,_] _
 refine Qac (Qaj [0] rfl ?_)
 refine Qaa (v:=bool false) rfl rfl rfl (Qab (Qac (Qaj [0,1,2,3] rfl ?_)))
 refine Qaa (v:=string a1) rfl rfl rfl ?_
 show G _ _ _ _ [_,_,_,_,_,_,_,_] _
 refine Qaa (v:=string a2) rfl rfl rfl ?_
 obtain ⟨r3,Hr3,H⟩:=bind_get H
 refine QaA (args:=[string a1,string a2]) rfl rfl (Qax rfl (callFunc_enter Tryd.func66 rfl rfl) rfl) (stringslite_HasPrefix.calls (a1:=a1) (a2:=a2) Hr3) ?_
 rintro _ w ⟨rfl,hs2⟩
 have hs:St _ [] _:=hs.call hs2
 refine Qaa (v:=bool r3) rfl rfl rfl ?_
 show G _ _ _ _ [_,_,_,_,_,_,_,_] _
 refine Qab ?_
 obtain rfl:=QsJ H
 refine Qau Tryd.func47 (v:=bool r3) (res1 rfl rfl) ?_
 have hs:St _ [] _:=St.take (Γ':=[]) hs
 exact ⟨_,rfl,rfl,hs⟩
end Go.Proofs.YtljkpeeabpdalaaDoorX
