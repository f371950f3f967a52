import Derived.Test.YtdnipilfcjkfoaaGreatDoorP7
namespace Go.Proofs.YtdnipilfcjkfoaaGreatDoorX
open Go Go.RowKit Go.Proofs
open Go.Value (int pointer bool agg slice string tuple)
set_option maxHeartbeats 8000000
set_option maxRecDepth 100000
set_option linter.unusedVariables false
set_option linter.unusedSimpArgs false
def QaS.post (w0:World) (r:(Ar Int 4)) (v:Value) (w:World):Prop:=v=agg ((encA (encI .i64)) r).toArray∧St w0 [] w
theorem QaS.calls {N:Nat} {a1:(Ar Int 4)} {w0:World} {r:(Ar Int 4)} (H:QaS.f N a1=some r):
 Calls Tryz.prog 61 #[agg ((encA (encI .i64)) a1).toArray] w0 fun e w=>∃ v,e= .returned v∧QaS.post w0 r v w:=by
 unfold QaS.f at H
 have hs:St w0 [] w0:=St.refl w0
 refine calls_of_g (n:=29) Tryz.func61 rfl rfl ?_
 show G _ _ _ _ [_,_,_,_,_,_,_,_,_,_,_,_,_,_,_,_,_,_,_,_,_,_,_,_,_,_,_,_,_,_] _
 refine Qaf (Qak [0,1] rfl ?_)
 refine Qbx hs rfl rfl (cs:=((encA (encI .i64)) a1)) rfl rfl ?_
 intro b2 w hs
 show G _ _ _ _ [_,_,_,_,_,_,_,_,_,_,_,_,_,_,_,_,_,_,_,_,_,_,_,_,_,_,_,_,_,_] _
 refine Qa5 hs rfl rfl (z:=(agg #[int .i64 0,int .i64 0,int .i64 0,int .i64 0])) (cs:=((encA (encI .i64)) (Ar.rep 4 0))) rfl (fun _=>rfl) rfl ?_
 intro b4 w hs
 refine Qab (Qaf (Qak [0,1,2,3] rfl ?_))
 refine Qaa (v:=agg ((encA (encI .i64)) (Ar.rep 4 0)).toArray) rfl rfl (Qb7 rfl rfl) ?_
 refine Qa5 hs rfl rfl (z:=(agg #[int .i64 0,int .i64 0,int .i64 0,int .i64 0])) (cs:=((encA (encI .i64)) (Ar.rep 4 0))) rfl (fun _=>rfl) rfl ?_
 intro b6 w hs
 show G _ _ _ _ [_,_,_,_,_,_,_,_,_,_,_,_,_,_,_,_,_,_,_,_,_,_,_,_,_,_,_,_,_,_] _
 refine QaB (n:=4) hs ((fkA (n:=4) (he:=(fkI .i64).len) (h1:=(fkI .i64).one)).len _) rfl rfl (vs:=((encA (encI .i64)) (Ar.rep 4 0))) rfl rfl rfl (fun _=>rfl) ((fkA (n:=4) (he:=(fkI .i64).len) (h1:=(fkI .i64).one)).len _) ((fkA (n:=4) (he:=(fkI .i64).len) (h1:=(fkI .i64).one)).one _) ?_
 intro w hs
 refine Qaa (v:=bool true) rfl rfl rfl (Qab (Qaf (Qaf (Qak [0,1] rfl ?_))))
 refine QaG rfl rfl (es:=((encA (encI .i64)) a1)) rfl rfl (fun _=>rfl) (n:=4) (fun _=>rfl) ((fkA (n:=4) (he:=(fkI .i64).len) (h1:=(fkI .i64).one)).len _) (cells_all (hs.cells 2 rfl)) ?_
 refine Qaa (v:=int .i64 0) rfl rfl rfl (Qab ?_)
 obtain ⟨o1_,Ho,Hr1_⟩:=bind_get H
 refine QaF (J:=fun t w=>∃ x17:(Ar Int 4),QaS.a0 N x17=some r∧Fr t (fun O=>([O 0,O 1,pointer (some ⟨b4,0,none⟩),pointer (some ⟨b6,0,none⟩),O 4,O 5,O 6,O 7,O 8,O 9,O 10,O 11,O 12,O 13,O 14,O 15,O 16,O 17,O 18,O 19,O 20,O 21,O 22,O 23,O 24,O 25,O 26,O 27,O 28,O 29]:List Value))∧St w0 [Cells b4 ((encA (encI .i64)) (Ar.rep 4 0)) 47,Cells b6 ((encA (encI .i64)) x17) 47] w) ?_ ?_
 ·
  rintro t w ⟨x17,H,hf,hs⟩
  obtain ⟨O,rfl⟩:=hf.open
  show G _ _ _ _ [_,_,_,_,_,_,_,_,_,_,_,_,_,_,_,_,_,_,_,_,_,_,_,_,_,_,_,_,_,_] _
  unfold QaS.a0 at H
  refine Qaf (Qak [0,1] rfl ?_)
  refine QaG rfl rfl (es:=((encA (encI .i64)) x17)) rfl rfl (fun _=>rfl) (n:=4) (fun _=>rfl) ((fkA (n:=4) (he:=(fkI .i64).len) (h1:=(fkI .i64).one)).len _) (cells_all (hs.cells 1 rfl)) ?_
  refine QaB (n:=4) hs ((fkA (n:=4) (he:=(fkI .i64).len) (h1:=(fkI .i64).one)).len _) rfl rfl (vs:=((encA (encI .i64)) x17)) rfl rfl rfl (fun _=>rfl) ((fkA (n:=4) (he:=(fkI .i64).len) (h1:=(fkI .i64).one)).len _) ((fkA (n:=4) (he:=(fkI .i64).len) (h1:=(fkI .i64).one)).one _) ?_
  intro w hs
  refine Qab ?_
  obtain rfl:=QsJ H
  refine Qax Tryz.func61 (v:=agg ((encA (encI .i64)) x17).toArray) (resC rfl ⟨⟨_,rfl,(run_loadVar_agg (es:=((encA (encI .i64)) x17)) rfl (congrArg (Result.ok · _) ((fkA (n:=4) (he:=(fkI .i64).len) (h1:=(fkI .i64).one)).len _).symm) (cells_all (hs.cells 0 rfl)))⟩,trivial⟩) ?_
  have hs:St _ [] _:=St.take (Γ':=[_,_]) hs
  exact ⟨_,rfl,rfl,hs⟩
 intro ha1_
 have hs:=hs.pull 0 rfl
 have hs:=hs.pull 1 rfl
 have hs:St _ [_,_] _:=St.take (Γ':=[_]) hs
 refine QaZ (I:=fun n_ t w=>∃ x12:(Ar Int 4),∃ x13:Bool,∃ x14:Int,rounds (fun s=>QaS.b0 N a1 s.1 s.2.1 s.2.2) n_ (x12,x13,x14)=some o1_∧Fr t (fun O=>([O 0,O 1,pointer (some ⟨b4,0,none⟩),pointer (some ⟨b6,0,none⟩),bool x13,O 5,O 6,O 7,agg ((encA (encI .i64)) a1).toArray,int .i64 x14,O 10,O 11,O 12,O 13,O 14,O 15,O 16,O 17,O 18,O 19,O 20,O 21,O 22,O 23,O 24,O 25,O 26,O 27,O 28,O 29]:List Value))∧St w0 [Cells b4 ((encA (encI .i64)) (Ar.rep 4 0)) 47,Cells b6 ((encA (encI .i64)) x12) 47] w) N ⟨(Ar.rep 4 0),true,0,Ho,rfl,hs⟩ ?_ ?_
 ·
  rintro _ _ ⟨x12,x13,x14,h,_⟩
  exact rounds_zero h
 intro n_ ih1_
 rintro t w ⟨x12,x13,x14,Ho,hf,hs⟩
 obtain ⟨O,rfl⟩:=hf.open
 show G _ _ _ _ [_,_,_,_,_,_,_,_,_,_,_,_,_,_,_,_,_,_,_,_,_,_,_,_,_,_,_,_,_,_] _
 obtain ⟨x9_,H,Hx1_⟩:=rounds_succ Ho
 have H:QaS.b0 N a1 x12 x13 x14=some x9_:=H
 unfold QaS.b0 at H
 refine Qaf (Qak [0] rfl ?_)
 refine QaA (B:=decide (x14< 4)) rfl rfl rfl ?_ ?_
 ·
  intro hb
  rw [if_pos (b_dec_t hb)] at H
  refine Qab (Qaf (Qam rfl (QaE (Qaf ?_))))
  refine QaF (J:=(fun t w=>∃ x15:(Ar Int 4),∃ x16:Bool,QaS.j2 N x14 x15 x16=some x9_∧Fr t (fun O=>([O 0,O 1,pointer (some ⟨b4,0,none⟩),pointer (some ⟨b6,0,none⟩),bool x16,O 5,O 6,O 7,agg ((encA (encI .i64)) a1).toArray,int .i64 x14,O 10,O 11,O 12,O 13,O 14,O 15,O 16,O 17,O 18,O 19,O 20,O 21,O 22,O 23,O 24,O 25,O 26,O 27,O 28,O 29]:List Value))∧St w0 [Cells b4 ((encA (encI .i64)) (Ar.rep 4 0)) 47,Cells b6 ((encA (encI .i64)) x15) 47] w)) ?_ ?_
  ·
   rintro t w ⟨x15,x16,H,hf,hs⟩
   obtain ⟨O,rfl⟩:=hf.open
   show G _ _ _ _ [_,_,_,_,_,_,_,_,_,_,_,_,_,_,_,_,_,_,_,_,_,_,_,_,_,_,_,_,_,_] _
   unfold QaS.j2 at H
   refine Qak [0,1] rfl ?_
   refine Qaa (v:=int .i64 (i64w (x14+1))) rfl rfl rfl ?_
   refine Qaa (v:=int .i64 (i64w (x14+1))) rfl rfl rfl (Qab ?_)
   obtain rfl:=QsJ H
   have hs:=hs.pull 1 rfl
   have hs:=hs.pull 1 rfl
   have hs:St _ [_,_] _:=St.take (Γ':=[]) hs
   exact ih1_ _ _ ⟨x15,x16,i64w (x14+1),Hx1_,rfl,hs⟩
  intro ha
  refine Qaf (Qak [0,1,2,3] rfl ?_)
  refine Qaa (v:=int .i64 x14) rfl rfl rfl ?_
  obtain ⟨g5,H⟩:=ite_get H
  refine QcO (enc:=(encI .i64)) (c:=int .i64) (fun _=>rfl) 0 rfl (fun _=>rfl) (fun _=>rfl) g5.1 g5.2 rfl rfl rfl rfl rfl ?_
  refine Qaa (v:=int .i64 x14) rfl rfl rfl ?_
  show G _ _ _ _ [_,_,_,_,_,_,_,_,_,_,_,_,_,_,_,_,_,_,_,_,_,_,_,_,_,_,_,_,_,_] _
  refine Qaa (v:=int .i64 (a1.get x14 0)) rfl rfl rfl (Qab (Qaf (Qak [0,1,2,3,4] rfl ?_)))
  refine Qaa (v:=int .i64 x14) rfl rfl rfl ?_
  refine Qaa (v:=int .i64 (a1.get x14 0)) rfl rfl rfl ?_
  refine Qaa (v:=int .i64 (i64w ((a1.get x14 0).tdiv 2))) rfl rfl rfl ?_
  obtain ⟨g6,H⟩:=ite_get H
  refine Qba (n:=x14) (m:=1) rfl (fun _=>rfl) g6.1 g6.2 rfl rfl rfl rfl rfl ?_
  show G _ _ _ _ [_,_,_,_,_,_,_,_,_,_,_,_,_,_,_,_,_,_,_,_,_,_,_,_,_,_,_,_,_,_] _
  have hs:St _ [_,_] _:=hs.pull 1 rfl
  refine QbN (y:=i64w ((a1.get x14 0).tdiv 2)) (fkI .i64).len (fkI .i64).one g6.1 g6.2 hs rfl rfl rfl rfl rfl (fun _=>rfl) ?_
  intro w hs
  refine Qab (Qaf (Qak [0,1,2] rfl ?_))
  refine Qaa (v:=int .i64 (a1.get x14 0)) rfl rfl rfl ?_
  refine Qaa (v:=int .i64 ((a1.get x14 0).tmod 2)) rfl rfl rfl ?_
  refine QaA (B:=((a1.get x14 0).tmod 2)==1) rfl rfl rfl ?_ ?_
  ·
   intro hb
   rw [if_pos (b_beq_t hb)] at H
   show G _ _ _ _ [_,_,_,_,_,_,_,_,_,_,_,_,_,_,_,_,_,_,_,_,_,_,_,_,_,_,_,_,_,_] _
   refine Qab (Qam rfl (Qaf (Qaf (Qak [0] rfl ?_))))
   refine QaA (B:=x13) rfl rfl rfl ?_ ?_
   ·
    intro hb
    rw [if_pos (b_var_t hb)] at H
    refine Qab (Qam rfl (Qak [0,1,2,3,4,5] rfl ?_))
    refine Qaa (v:=int .i64 x14) rfl rfl rfl ?_
    obtain ⟨g7,H⟩:=ite_get H
    refine Qba (n:=x14) (m:=1) rfl (fun _=>rfl) g7.1 g7.2 rfl rfl rfl rfl rfl ?_
    show G _ _ _ _ [_,_,_,_,_,_,_,_,_,_,_,_,_,_,_,_,_,_,_,_,_,_,_,_,_,_,_,_,_,_] _
    refine Qaw rfl rfl (v:=int .i64 ((x12.set x14 (i64w ((a1.get x14 0).tdiv 2))).get x14 0)) rfl rfl (fun _=>rfl) (by rw [Nat.zero_add];exact cells_load (hs.cells 0 rfl) _ _ (encA_at (fkI .i64).len _ _ 0 g7.1 g7.2)) ?_
    refine Qaa (v:=int .i64 (i64w (((x12.set x14 (i64w ((a1.get x14 0).tdiv 2))).get x14 0)+1))) rfl rfl rfl ?_
    obtain ⟨g8,H⟩:=ite_get H
    refine Qba (n:=x14) (m:=1) rfl (fun _=>rfl) g8.1 g8.2 rfl rfl rfl rfl rfl ?_
    show G _ _ _ _ [_,_,_,_,_,_,_,_,_,_,_,_,_,_,_,_,_,_,_,_,_,_,_,_,_,_,_,_,_,_] _
    refine QbN (y:=i64w (((x12.set x14 (i64w ((a1.get x14 0).tdiv 2))).get x14 0)+1)) (fkI .i64).len (fkI .i64).one g8.1 g8.2 hs rfl rfl rfl rfl rfl (fun _=>rfl) ?_
    intro w hs
    refine Qab (Qak [0,1,2] rfl ?_)
    refine Qaa (v:=bool x13) rfl rfl rfl ?_
    refine Qaa (v:=bool (!x13)) rfl rfl rfl ?_
    refine Qaa (v:=bool (!x13)) rfl rfl rfl (Qab ?_)
    refine QaH ?_
    have hs:=hs.pull 0 rfl
    have hs:=hs.pull 1 rfl
    have hs:St _ [_,_] _:=St.take (Γ':=[]) hs
    exact ha _ _ ⟨(x12.set x14 (i64w ((a1.get x14 0).tdiv 2))).set x14 (i64w (((x12.set x14 (i64w ((a1.get x14 0).tdiv 2))).get x14 0)+1)),!x13,H,rfl,hs⟩
   intro hb
   rw [if_neg (b_var_f hb)] at H
   refine Qab (Qap rfl (QaE (Qak [0,1,2] rfl ?_)))
   refine Qaa (v:=bool x13) rfl rfl rfl ?_
   refine Qaa (v:=bool (!x13)) rfl rfl rfl ?_
   refine Qaa (v:=bool (!x13)) rfl rfl rfl (Qab ?_)
   refine QaH ?_
   have hs:=hs.pull 0 rfl
   have hs:=hs.pull 1 rfl
   have hs:St _ [_,_] _:=St.take (Γ':=[]) hs
   exact ha _ _ ⟨x12.set x14 (i64w ((a1.get x14 0).tdiv 2)),!x13,H,rfl,hs⟩
  intro hb
  rw [if_neg (b_beq_f hb)] at H
  refine Qab (Qap rfl (QaE ?_))
  refine QaH ?_
  have hs:=hs.pull 0 rfl
  have hs:=hs.pull 1 rfl
  have hs:St _ [_,_] _:=St.take (Γ':=[]) hs
  exact ha _ _ ⟨x12.set x14 (i64w ((a1.get x14 0).tdiv 2)),x13,H,rfl,hs⟩
 intro hb
 rw [if_neg (b_dec_f hb)] at H
 show G _ _ _ _ [_,_,_,_,_,_,_,_,_,_,_,_,_,_,_,_,_,_,_,_,_,_,_,_,_,_,_,_,_,_] _
 refine Qab (Qaf (Qap rfl ?_))
 obtain rfl:=QsJ H
 subst Hx1_
 have hs:=hs.pull 1 rfl
 have hs:=hs.pull 1 rfl
 have hs:St _ [_,_] _:=St.take (Γ':=[]) hs
 refine Qbq rfl ?_
 exact ha1_ _ _ ⟨x12,Hr1_,rfl,hs⟩
def Qaq.post (w0:World) (r:Int) (v:Value) (w:World):Prop:=v=int .u64 r∧St w0 [] w
theorem Qaq.calls {N:Nat} {a1:Qag} {a4:(Ar Int 4)} {v2:Value} {w0:World} {r:Int} (hr3:RdRow Qao w0 v2 a1.Qah) (H:Qaq.f N a1 a4=some r):
 Calls Tryz.prog 60 #[agg (([int .i8 a1.Qac,int .i8 a1.Qae,v2]:List Value)).toArray,agg ((encA (encI .i64)) a4).toArray] w0 fun e w=>∃ v,e= .returned v∧Qaq.post w0 r v w:=by
 unfold Qaq.f at H
 have hs:St w0 [] w0:=St.refl w0
 refine calls_of_g (n:=31) Tryz.func60 rfl rfl ?_
 show G _ _ _ _ [_,_,_,_,_,_,_,_,_,_,_,_,_,_,_,_,_,_,_,_,_,_,_,_,_,_,_,_,_,_,_,_,_] _
 refine Qaf (Qak [0,1,2] rfl ?_)
 refine Qbx hs rfl rfl (cs:=(([int .i8 a1.Qac,int .i8 a1.Qae,v2]:List Value))) rfl rfl ?_
 intro b5 w hs
 refine Qbx hs rfl rfl (cs:=((encA (encI .i64)) a4)) rfl rfl ?_
 intro b7 w hs
 refine Qaa (v:=int .u64 0) rfl rfl rfl ?_
 show G _ _ _ _ [_,_,_,_,_,_,_,_,_,_,_,_,_,_,_,_,_,_,_,_,_,_,_,_,_,_,_,_,_,_,_,_,_] _
 refine Qab (Qaf (Qak [0] rfl ?_))
 refine Qaa (v:=int .u64 0) rfl rfl rfl (Qab (Qaf (Qaf (Qak [0,1,2] rfl ?_))))
 refine QaG rfl rfl (es:=(([int .i8 a1.Qac,int .i8 a1.Qae,v2]:List Value))) rfl rfl (fun _=>rfl) (n:=3) (fun _=>rfl) rfl (cells_all (hs.cells 1 rfl)) ?_
 obtain ⟨r9,Hr9,H⟩:=bind_get H
 refine Qas (args:=[agg (([int .i8 a1.Qac,int .i8 a1.Qae,v2]:List Value)).toArray]) rfl rfl (Qat rfl (callFunc_enter Tryz.func72 rfl rfl) rfl) (QaL.calls (a1:=(⟨a1.Qac,a1.Qae,a1.Qah⟩:Qag)) (hs.rd hr3) Hr9) ?_
 rintro _ w ⟨v10,v11,v12,v13,rfl,hs2⟩
 have hs:St _ [_,_,_,_,_,_] _:=hs.call hs2
 show G _ _ _ _ [_,_,_,_,_,_,_,_,_,_,_,_,_,_,_,_,_,_,_,_,_,_,_,_,_,_,_,_,_,_,_,_,_] _
 refine Qaa (v:=int .i64 0) rfl rfl rfl (Qab ?_)
 obtain ⟨o1_,Ho,Hr1_⟩:=bind_get H
 refine QaF (J:=fun t w=>∃ x57:Int,Qaq.a0 N x57=some r∧Fr t (fun O=>([O 0,O 1,O 2,O 3,O 4,int .u64 x57,O 6,O 7,O 8,O 9,O 10,O 11,O 12,O 13,O 14,O 15,O 16,O 17,O 18,O 19,O 20,O 21,O 22,O 23,O 24,O 25,O 26,O 27,O 28,O 29,O 30,O 31,O 32]:List Value))∧St w0 [] w) ?_ ?_
 ·
  rintro t w ⟨x57,H,hf,hs⟩
  obtain ⟨O,rfl⟩:=hf.open
  show G _ _ _ _ [_,_,_,_,_,_,_,_,_,_,_,_,_,_,_,_,_,_,_,_,_,_,_,_,_,_,_,_,_,_,_,_,_] _
  unfold Qaq.a0 at H
  refine Qaf (Qak [0,1] rfl ?_)
  refine Qaa (v:=int .u64 x57) rfl rfl rfl ?_
  refine Qaa (v:=int .u64 x57) rfl rfl rfl ?_
  show G _ _ _ _ [_,_,_,_,_,_,_,_,_,_,_,_,_,_,_,_,_,_,_,_,_,_,_,_,_,_,_,_,_,_,_,_,_] _
  refine Qab ?_
  obtain rfl:=QsJ H
  refine Qax Tryz.func60 (v:=int .u64 x57) (res1 rfl rfl) ?_
  have hs:St _ [] _:=St.take (Γ':=[]) hs
  exact ⟨_,rfl,rfl,hs⟩
 intro ha1_
 have hs:=hs.pull 3 rfl
 have hs:=hs.pull 3 rfl
 have hs:=hs.pull 3 rfl
 have hs:=hs.pull 3 rfl
 have hs:=hs.pull 4 rfl
 have hs:St _ [_,_,_,_,_] _:=St.take (Γ':=[_]) hs
 refine QaZ (I:=fun n_ t w=>∃ x18:Int,∃ x19:Int,rounds (fun s=>Qaq.b0 N a4 r9 s.1 s.2) n_ (x18,x19)=some o1_∧Fr t (fun O=>([O 0,O 1,O 2,pointer (some ⟨b7,0,none⟩),O 4,int .u64 x18,O 6,O 7,O 8,O 9,O 10,agg (([v10,v11,v12,v13]:List Value)).toArray,int .i64 x19,O 13,O 14,O 15,O 16,O 17,O 18,O 19,O 20,O 21,O 22,O 23,O 24,O 25,O 26,O 27,O 28,O 29,O 30,O 31,O 32]:List Value))∧St w0 [Cells b7 ((encA (encI .i64)) a4) 47,Row 2 (K.int .i64) v10 (r9.get 0 []),Row 2 (K.int .i64) v11 (r9.get 1 []),Row 2 (K.int .i64) v12 (r9.get 2 []),Row 2 (K.int .i64) v13 (r9.get 3 [])] w) N ⟨0,0,Ho,rfl,hs⟩ ?_ ?_
 ·
  rintro _ _ ⟨x18,x19,h,_⟩
  exact rounds_zero h
 intro n_ ih1_
 rintro t w ⟨x18,x19,Ho,hf,hs⟩
 obtain ⟨O,rfl⟩:=hf.open
 show G _ _ _ _ [_,_,_,_,_,_,_,_,_,_,_,_,_,_,_,_,_,_,_,_,_,_,_,_,_,_,_,_,_,_,_,_,_] _
 obtain ⟨x25_,H,Hx1_⟩:=rounds_succ Ho
 have H:Qaq.b0 N a4 r9 x18 x19=some x25_:=H
 unfold Qaq.b0 at H
 refine Qaf (Qak [0] rfl ?_)
 refine QaA (B:=decide (x19< 4)) rfl rfl rfl ?_ ?_
 ·
  intro hb
  rw [if_pos (b_dec_t hb)] at H
  refine Qab (Qaf (Qam rfl (QaE (Qaf ?_))))
  refine QaF (J:=(fun t w=>∃ x52:Int,Qaq.j2 N x19 x52=some x25_∧Fr t (fun O=>([O 0,O 1,O 2,pointer (some ⟨b7,0,none⟩),O 4,int .u64 x52,O 6,O 7,O 8,O 9,O 10,agg (([v10,v11,v12,v13]:List Value)).toArray,int .i64 x19,O 13,O 14,O 15,O 16,O 17,O 18,O 19,O 20,O 21,O 22,O 23,O 24,O 25,O 26,O 27,O 28,O 29,O 30,O 31,O 32]:List Value))∧St w0 [Cells b7 ((encA (encI .i64)) a4) 47,Row 2 (K.int .i64) v10 (r9.get 0 []),Row 2 (K.int .i64) v11 (r9.get 1 []),Row 2 (K.int .i64) v12 (r9.get 2 []),Row 2 (K.int .i64) v13 (r9.get 3 [])] w)) ?_ ?_
  ·
   rintro t w ⟨x52,H,hf,hs⟩
   obtain ⟨O,rfl⟩:=hf.open
   show G _ _ _ _ [_,_,_,_,_,_,_,_,_,_,_,_,_,_,_,_,_,_,_,_,_,_,_,_,_,_,_,_,_,_,_,_,_] _
   unfold Qaq.j2 at H
   refine Qak [0,1] rfl ?_
   refine Qaa (v:=int .i64 (i64w (x19+1))) rfl rfl rfl ?_
   refine Qaa (v:=int .i64 (i64w (x19+1))) rfl rfl rfl (Qab ?_)
   obtain rfl:=QsJ H
   have hs:=hs.pull 4 rfl
   have hs:=hs.pull 4 rfl
   have hs:=hs.pull 4 rfl
   have hs:=hs.pull 4 rfl
   have hs:=hs.pull 4 rfl
   have hs:St _ [_,_,_,_,_] _:=St.take (Γ':=[]) hs
   exact ih1_ _ _ ⟨x52,i64w (x19+1),Hx1_,rfl,hs⟩
  intro ha
  refine Qaf ?_
  by_cases hk1_:x19=0
  ·
   rw [if_pos hk1_] at H
   refine Qak [0,1,2,3] rfl ?_
   refine Qaa (v:=int .i64 x19) rfl rfl rfl ?_
   refine Qco 0 hk1_ (by decide) (cs:=([v10,v11,v12,v13]:List Value)) (v:=v10) rfl rfl (fun _=>rfl) (fun _=>rfl) rfl rfl rfl rfl rfl ?_
   show G _ _ _ _ [_,_,_,_,_,_,_,_,_,_,_,_,_,_,_,_,_,_,_,_,_,_,_,_,_,_,_,_,_,_,_,_,_] _
   refine Qaa (v:=int .i64 x19) rfl rfl rfl ?_
   refine Qaa (v:=v10) rfl rfl rfl (Qab (Qaf (Qak [0,1,2,3,4,5,6] rfl ?_)))
   refine Qaa (v:=v10) rfl rfl rfl ?_
   refine Qaa (v:=int .i64 x19) rfl rfl rfl ?_
   obtain ⟨g2,H⟩:=ite_get H
   refine Qba (n:=x19) (m:=1) rfl (fun _=>rfl) g2.1 g2.2 rfl rfl rfl rfl rfl ?_
   show G _ _ _ _ [_,_,_,_,_,_,_,_,_,_,_,_,_,_,_,_,_,_,_,_,_,_,_,_,_,_,_,_,_,_,_,_,_] _
   refine Qaw rfl rfl (v:=int .i64 (a4.get x19 0)) rfl rfl (fun _=>rfl) (by rw [Nat.zero_add];exact cells_load (hs.cells 0 rfl) _ _ (encA_at (fkI .i64).len _ _ 0 g2.1 g2.2)) ?_
   obtain ⟨g3,H⟩:=ite_get H
   refine Qaa (v:=subV v10 1 ((0:Int)).toNat ((a4.get x19 0)).toNat) rfl rfl (Qcx (hs.row 1 rfl) rfl rfl (fun _=>rfl) rfl (.inl ⟨rfl,rfl⟩) (.inr ⟨_,_,rfl,rfl⟩) g3.1 g3.2.1 g3.2.2) ?_
   refine Qbp (rdSub (hs.row 1 rfl) 1 rfl g3.1 g3.2.1 g3.2.2) rfl rfl rfl rfl rfl ?_
   show G _ _ _ _ [_,_,_,_,_,_,_,_,_,_,_,_,_,_,_,_,_,_,_,_,_,_,_,_,_,_,_,_,_,_,_,_,_] _
   refine Qaa (v:=int .i64 0) rfl rfl rfl (Qab ?_)
   obtain ⟨o2_,Ho,Hr2_⟩:=bind_get H
   refine QaF (J:=fun t w=>∃ x23:Int,Qaq.a3 N x19 x23=some x25_∧Fr t (fun O=>([O 0,O 1,O 2,pointer (some ⟨b7,0,none⟩),O 4,int .u64 x23,O 6,O 7,O 8,O 9,O 10,agg (([v10,v11,v12,v13]:List Value)).toArray,int .i64 x19,O 13,O 14,O 15,O 16,O 17,O 18,O 19,O 20,O 21,O 22,O 23,O 24,O 25,O 26,O 27,O 28,O 29,O 30,O 31,O 32]:List Value))∧St w0 [Cells b7 ((encA (encI .i64)) a4) 47,Row 2 (K.int .i64) v10 (r9.get 0 []),Row 2 (K.int .i64) v11 (r9.get 1 []),Row 2 (K.int .i64) v12 (r9.get 2 []),Row 2 (K.int .i64) v13 (r9.get 3 [])] w) ?_ ?_
   ·
    rintro t w ⟨x23,H,hf,hs⟩
    obtain ⟨O,rfl⟩:=hf.open
    show G _ _ _ _ [_,_,_,_,_,_,_,_,_,_,_,_,_,_,_,_,_,_,_,_,_,_,_,_,_,_,_,_,_,_,_,_,_] _
    unfold Qaq.a3 at H
    refine QaH ?_
    have hs:=hs.pull 4 rfl
    have hs:=hs.pull 4 rfl
    have hs:=hs.pull 4 rfl
    have hs:=hs.pull 4 rfl
    have hs:=hs.pull 4 rfl
    have hs:St _ [_,_,_,_,_] _:=St.take (Γ':=[]) hs
    exact ha _ _ ⟨x23,H,rfl,hs⟩
   intro ha2_
   have hs:=hs.pull 4 rfl
   have hs:=hs.pull 4 rfl
   have hs:=hs.pull 4 rfl
   have hs:=hs.pull 4 rfl
   have hs:=hs.pull 4 rfl
   have hs:St _ [_,_,_,_,_] _:=St.take (Γ':=[]) hs
   refine QaZ (I:=fun n_ t w=>∃ x20:Int,∃ x21:Int,rounds (fun s=>Qaq.b3 N r9 a4 x19 s.1 s.2) n_ (x20,x21)=some o2_∧Fr t (fun O=>([O 0,O 1,O 2,pointer (some ⟨b7,0,none⟩),O 4,int .u64 x20,O 6,O 7,O 8,O 9,O 10,agg (([v10,v11,v12,v13]:List Value)).toArray,int .i64 x19,O 13,O 14,O 15,O 16,O 17,O 18,O 19,subV v10 1 ((0:Int)).toNat ((a4.get x19 0)).toNat,int .i64 ((((r9.get 0 []).drop ((0:Int)).toNat).take (((a4.get x19 0)).toNat - ((0:Int)).toNat)).length:Int),int .i64 x21,O 23,O 24,O 25,O 26,O 27,O 28,O 29,O 30,O 31,O 32]:List Value))∧St w0 [Cells b7 ((encA (encI .i64)) a4) 47,Row 2 (K.int .i64) v10 (r9.get 0 []),Row 2 (K.int .i64) v11 (r9.get 1 []),Row 2 (K.int .i64) v12 (r9.get 2 []),Row 2 (K.int .i64) v13 (r9.get 3 [])] w) N ⟨x18,0,Ho,rfl,hs⟩ ?_ ?_
   ·
    rintro _ _ ⟨x20,x21,h,_⟩
    exact rounds_zero h
   intro n_ ih2_
   rintro t w ⟨x20,x21,Ho,hf,hs⟩
   obtain ⟨O,rfl⟩:=hf.open
   show G _ _ _ _ [_,_,_,_,_,_,_,_,_,_,_,_,_,_,_,_,_,_,_,_,_,_,_,_,_,_,_,_,_,_,_,_,_] _
   obtain ⟨x6_,H,Hx2_⟩:=rounds_succ Ho
   have H:Qaq.b3 N r9 a4 x19 x20 x21=some x6_:=H
   unfold Qaq.b3 at H
   refine Qaf (Qak [0] rfl ?_)
   refine QaA (B:=decide (x21< ((((r9.get 0 []).drop ((0:Int)).toNat).take (((a4.get x19 0)).toNat - ((0:Int)).toNat)).length:Int))) rfl rfl rfl ?_ ?_
   ·
    intro hb
    rw [if_pos (b_dec_t hb)] at H
    refine Qab (Qaf (Qam rfl (QaE (Qaf ?_))))
    refine Qbz (Qaf (Qak [0,1,2] rfl ?_))
    obtain ⟨g4,H⟩:=ite_get H
    refine Qcm (fkI .i64) 0 (rdSub (hs.row 1 rfl) 1 rfl g3.1 g3.2.1 g3.2.2) rfl (fun _=>rfl) g4.1 g4.2 rfl rfl rfl rfl rfl ?_
    intro p22 hp22 lp22 op22
    show G _ _ _ _ [_,_,_,_,_,_,_,_,_,_,_,_,_,_,_,_,_,_,_,_,_,_,_,_,_,_,_,_,_,_,_,_,_] _
    refine Qaw rfl rfl (v:=int .i64 (rdL (((r9.get 0 []).drop ((0:Int)).toNat).take (((a4.get x19 0)).toNat - ((0:Int)).toNat)) x21 0)) rfl rfl (fun _=>rfl) hp22 ?_
    refine Qaa (v:=int .i64 (rdL (((r9.get 0 []).drop ((0:Int)).toNat).take (((a4.get x19 0)).toNat - ((0:Int)).toNat)) x21 0)) rfl rfl rfl (Qab (Qak [0,1,2,3,4] rfl ?_))
    refine Qaa (v:=int .u64 x20) rfl rfl rfl ?_
    refine Qaa (v:=int .i64 (rdL (((r9.get 0 []).drop ((0:Int)).toNat).take (((a4.get x19 0)).toNat - ((0:Int)).toNat)) x21 0)) rfl rfl rfl ?_
    obtain ⟨g5,H⟩:=ite_get H
    refine Qaa (v:=int .u64 (shlI .u64 1 (rdL (((r9.get 0 []).drop ((0:Int)).toNat).take (((a4.get x19 0)).toNat - ((0:Int)).toNat)) x21 0))) rfl rfl (QcG rfl rfl rfl g5) ?_
    show G _ _ _ _ [_,_,_,_,_,_,_,_,_,_,_,_,_,_,_,_,_,_,_,_,_,_,_,_,_,_,_,_,_,_,_,_,_] _
    refine Qaa (v:=int .u64 (bOr .u64 x20 (shlI .u64 1 (rdL (((r9.get 0 []).drop ((0:Int)).toNat).take (((a4.get x19 0)).toNat - ((0:Int)).toNat)) x21 0)))) rfl rfl rfl ?_
    refine Qaa (v:=int .u64 (bOr .u64 x20 (shlI .u64 1 (rdL (((r9.get 0 []).drop ((0:Int)).toNat).take (((a4.get x19 0)).toNat - ((0:Int)).toNat)) x21 0)))) rfl rfl rfl (Qab ?_)
    refine QaH (Qak [0,1] rfl ?_)
    refine Qaa (v:=int .i64 (i64w (x21+1))) rfl rfl rfl ?_
    show G _ _ _ _ [_,_,_,_,_,_,_,_,_,_,_,_,_,_,_,_,_,_,_,_,_,_,_,_,_,_,_,_,_,_,_,_,_] _
    refine Qaa (v:=int .i64 (i64w (x21+1))) rfl rfl rfl (Qab ?_)
    obtain rfl:=QsJ H
    have hs:=hs.pull 4 rfl
    have hs:=hs.pull 4 rfl
    have hs:=hs.pull 4 rfl
    have hs:=hs.pull 4 rfl
    have hs:=hs.pull 4 rfl
    have hs:St _ [_,_,_,_,_] _:=St.take (Γ':=[]) hs
    exact ih2_ _ _ ⟨bOr .u64 x20 (shlI .u64 1 (rdL (((r9.get 0 []).drop ((0:Int)).toNat).take (((a4.get x19 0)).toNat - ((0:Int)).toNat)) x21 0)),i64w (x21+1),Hx2_,rfl,hs⟩
   intro hb
   rw [if_neg (b_dec_f hb)] at H
   refine Qab (Qaf (Qap rfl ?_))
   obtain rfl:=QsJ H
   subst Hx2_
   have hs:=hs.pull 4 rfl
   have hs:=hs.pull 4 rfl
   have hs:=hs.pull 4 rfl
   have hs:=hs.pull 4 rfl
   have hs:=hs.pull 4 rfl
   have hs:St _ [_,_,_,_,_] _:=St.take (Γ':=[]) hs
   refine Qbq rfl ?_
   exact ha2_ _ _ ⟨x20,Hr2_,rfl,hs⟩
  rw [if_neg hk1_] at H
  by_cases hk7_:x19=1
  ·
   rw [if_pos hk7_] at H
   refine Qak [0,1,2,3] rfl ?_
   refine Qaa (v:=int .i64 x19) rfl rfl rfl ?_
   refine Qco 1 hk7_ (by decide) (cs:=([v10,v11,v12,v13]:List Value)) (v:=v11) rfl rfl (fun _=>rfl) (fun _=>rfl) rfl rfl rfl rfl rfl ?_
   refine Qaa (v:=int .i64 x19) rfl rfl rfl ?_
   show G _ _ _ _ [_,_,_,_,_,_,_,_,_,_,_,_,_,_,_,_,_,_,_,_,_,_,_,_,_,_,_,_,_,_,_,_,_] _
   refine Qaa (v:=v11) rfl rfl rfl (Qab (Qaf (Qak [0,1,2,3,4,5,6] rfl ?_)))
   refine Qaa (v:=v11) rfl rfl rfl ?_
   refine Qaa (v:=int .i64 x19) rfl rfl rfl ?_
   obtain ⟨g8,H⟩:=ite_get H
   refine Qba (n:=x19) (m:=1) rfl (fun _=>rfl) g8.1 g8.2 rfl rfl rfl rfl rfl ?_
   refine Qaw rfl rfl (v:=int .i64 (a4.get x19 0)) rfl rfl (fun _=>rfl) (by rw [Nat.zero_add];exact cells_load (hs.cells 0 rfl) _ _ (encA_at (fkI .i64).len _ _ 0 g8.1 g8.2)) ?_
   show G _ _ _ _ [_,_,_,_,_,_,_,_,_,_,_,_,_,_,_,_,_,_,_,_,_,_,_,_,_,_,_,_,_,_,_,_,_] _
   obtain ⟨g9,H⟩:=ite_get H
   refine Qaa (v:=subV v11 1 ((0:Int)).toNat ((a4.get x19 0)).toNat) rfl rfl (Qcx (hs.row 2 rfl) rfl rfl (fun _=>rfl) rfl (.inl ⟨rfl,rfl⟩) (.inr ⟨_,_,rfl,rfl⟩) g9.1 g9.2.1 g9.2.2) ?_
   refine Qbp (rdSub (hs.row 2 rfl) 1 rfl g9.1 g9.2.1 g9.2.2) rfl rfl rfl rfl rfl ?_
   refine Qaa (v:=int .i64 0) rfl rfl rfl (Qab ?_)
   obtain ⟨o2_,Ho,Hr2_⟩:=bind_get H
   refine QaF (J:=fun t w=>∃ x31:Int,Qaq.a5 N x19 x31=some x25_∧Fr t (fun O=>([O 0,O 1,O 2,pointer (some ⟨b7,0,none⟩),O 4,int .u64 x31,O 6,O 7,O 8,O 9,O 10,agg (([v10,v11,v12,v13]:List Value)).toArray,int .i64 x19,O 13,O 14,O 15,O 16,O 17,O 18,O 19,O 20,O 21,O 22,O 23,O 24,O 25,O 26,O 27,O 28,O 29,O 30,O 31,O 32]:List Value))∧St w0 [Cells b7 ((encA (encI .i64)) a4) 47,Row 2 (K.int .i64) v10 (r9.get 0 []),Row 2 (K.int .i64) v11 (r9.get 1 []),Row 2 (K.int .i64) v12 (r9.get 2 []),Row 2 (K.int .i64) v13 (r9.get 3 [])] w) ?_ ?_
   ·
    rintro t w ⟨x31,H,hf,hs⟩
    obtain ⟨O,rfl⟩:=hf.open
    show G _ _ _ _ [_,_,_,_,_,_,_,_,_,_,_,_,_,_,_,_,_,_,_,_,_,_,_,_,_,_,_,_,_,_,_,_,_] _
    unfold Qaq.a5 at H
    refine QaH ?_
    have hs:=hs.pull 4 rfl
    have hs:=hs.pull 4 rfl
    have hs:=hs.pull 4 rfl
    have hs:=hs.pull 4 rfl
    have hs:=hs.pull 4 rfl
    have hs:St _ [_,_,_,_,_] _:=St.take (Γ':=[]) hs
    exact ha _ _ ⟨x31,H,rfl,hs⟩
   intro ha2_
   have hs:=hs.pull 4 rfl
   have hs:=hs.pull 4 rfl
   have hs:=hs.pull 4 rfl
   have hs:=hs.pull 4 rfl
   have hs:=hs.pull 4 rfl
   have hs:St _ [_,_,_,_,_] _:=St.take (Γ':=[]) hs
   refine QaZ (I:=fun n_ t w=>∃ x28:Int,∃ x29:Int,rounds (fun s=>Qaq.b5 N r9 a4 x19 s.1 s.2) n_ (x28,x29)=some o2_∧Fr t (fun O=>([O 0,O 1,O 2,pointer (some ⟨b7,0,none⟩),O 4,int .u64 x28,O 6,O 7,O 8,O 9,O 10,agg (([v10,v11,v12,v13]:List Value)).toArray,int .i64 x19,O 13,O 14,O 15,O 16,O 17,O 18,O 19,subV v11 1 ((0:Int)).toNat ((a4.get x19 0)).toNat,int .i64 ((((r9.get 1 []).drop ((0:Int)).toNat).take (((a4.get x19 0)).toNat - ((0:Int)).toNat)).length:Int),int .i64 x29,O 23,O 24,O 25,O 26,O 27,O 28,O 29,O 30,O 31,O 32]:List Value))∧St w0 [Cells b7 ((encA (encI .i64)) a4) 47,Row 2 (K.int .i64) v10 (r9.get 0 []),Row 2 (K.int .i64) v11 (r9.get 1 []),Row 2 (K.int .i64) v12 (r9.get 2 []),Row 2 (K.int .i64) v13 (r9.get 3 [])] w) N ⟨x18,0,Ho,rfl,hs⟩ ?_ ?_
   ·
    rintro _ _ ⟨x28,x29,h,_⟩
    exact rounds_zero h
   intro n_ ih2_
   rintro t w ⟨x28,x29,Ho,hf,hs⟩
   obtain ⟨O,rfl⟩:=hf.open
   show G _ _ _ _ [_,_,_,_,_,_,_,_,_,_,_,_,_,_,_,_,_,_,_,_,_,_,_,_,_,_,_,_,_,_,_,_,_] _
   obtain ⟨x12_,H,Hx2_⟩:=rounds_succ Ho
   have H:Qaq.b5 N r9 a4 x19 x28 x29=some x12_:=H
   unfold Qaq.b5 at H
   refine Qaf (Qak [0] rfl ?_)
   refine QaA (B:=decide (x29< ((((r9.get 1 []).drop ((0:Int)).toNat).take (((a4.get x19 0)).toNat - ((0:Int)).toNat)).length:Int))) rfl rfl rfl ?_ ?_
   ·
    intro hb
    rw [if_pos (b_dec_t hb)] at H
    refine Qab (Qaf (Qam rfl (QaE (Qaf ?_))))
    refine Qbz (Qaf (Qak [0,1,2] rfl ?_))
    obtain ⟨g10,H⟩:=ite_get H
    refine Qcm (fkI .i64) 0 (rdSub (hs.row 2 rfl) 1 rfl g9.1 g9.2.1 g9.2.2) rfl (fun _=>rfl) g10.1 g10.2 rfl rfl rfl rfl rfl ?_
    intro p30 hp30 lp30 op30
    refine Qaw rfl rfl (v:=int .i64 (rdL (((r9.get 1 []).drop ((0:Int)).toNat).take (((a4.get x19 0)).toNat - ((0:Int)).toNat)) x29 0)) rfl rfl (fun _=>rfl) hp30 ?_
    show G _ _ _ _ [_,_,_,_,_,_,_,_,_,_,_,_,_,_,_,_,_,_,_,_,_,_,_,_,_,_,_,_,_,_,_,_,_] _
    refine Qaa (v:=int .i64 (rdL (((r9.get 1 []).drop ((0:Int)).toNat).take (((a4.get x19 0)).toNat - ((0:Int)).toNat)) x29 0)) rfl rfl rfl (Qab (Qak [0,1,2,3,4] rfl ?_))
    refine Qaa (v:=int .u64 x28) rfl rfl rfl ?_
    refine Qaa (v:=int .i64 (rdL (((r9.get 1 []).drop ((0:Int)).toNat).take (((a4.get x19 0)).toNat - ((0:Int)).toNat)) x29 0)) rfl rfl rfl ?_
    obtain ⟨g11,H⟩:=ite_get H
    refine Qaa (v:=int .u64 (shlI .u64 1 (rdL (((r9.get 1 []).drop ((0:Int)).toNat).take (((a4.get x19 0)).toNat - ((0:Int)).toNat)) x29 0))) rfl rfl (QcG rfl rfl rfl g11) ?_
    refine Qaa (v:=int .u64 (bOr .u64 x28 (shlI .u64 1 (rdL (((r9.get 1 []).drop ((0:Int)).toNat).take (((a4.get x19 0)).toNat - ((0:Int)).toNat)) x29 0)))) rfl rfl rfl ?_
    show G _ _ _ _ [_,_,_,_,_,_,_,_,_,_,_,_,_,_,_,_,_,_,_,_,_,_,_,_,_,_,_,_,_,_,_,_,_] _
    refine Qaa (v:=int .u64 (bOr .u64 x28 (shlI .u64 1 (rdL (((r9.get 1 []).drop ((0:Int)).toNat).take (((a4.get x19 0)).toNat - ((0:Int)).toNat)) x29 0)))) rfl rfl rfl (Qab ?_)
    refine QaH (Qak [0,1] rfl ?_)
    refine Qaa (v:=int .i64 (i64w (x29+1))) rfl rfl rfl ?_
    refine Qaa (v:=int .i64 (i64w (x29+1))) rfl rfl rfl (Qab ?_)
    obtain rfl:=QsJ H
    have hs:=hs.pull 4 rfl
    have hs:=hs.pull 4 rfl
    have hs:=hs.pull 4 rfl
    have hs:=hs.pull 4 rfl
    have hs:=hs.pull 4 rfl
    have hs:St _ [_,_,_,_,_] _:=St.take (Γ':=[]) hs
    exact ih2_ _ _ ⟨bOr .u64 x28 (shlI .u64 1 (rdL (((r9.get 1 []).drop ((0:Int)).toNat).take (((a4.get x19 0)).toNat - ((0:Int)).toNat)) x29 0)),i64w (x29+1),Hx2_,rfl,hs⟩
   intro hb
   rw [if_neg (b_dec_f hb)] at H
   show G _ _ _ _ [_,_,_,_,_,_,_,_,_,_,_,_,_,_,_,_,_,_,_,_,_,_,_,_,_,_,_,_,_,_,_,_,_] _
   refine Qab (Qaf (Qap rfl ?_))
   obtain rfl:=QsJ H
   subst Hx2_
   have hs:=hs.pull 4 rfl
   have hs:=hs.pull 4 rfl
   have hs:=hs.pull 4 rfl
   have hs:=hs.pull 4 rfl
   have hs:=hs.pull 4 rfl
   have hs:St _ [_,_,_,_,_] _:=St.take (Γ':=[]) hs
   refine Qbq rfl ?_
   exact ha2_ _ _ ⟨x28,Hr2_,rfl,hs⟩
  rw [if_neg hk7_] at H
  by_cases hk13_:x19=2
  ·
   rw [if_pos hk13_] at H
   refine Qak [0,1,2,3] rfl ?_
   refine Qaa (v:=int .i64 x19) rfl rfl rfl ?_
   refine Qco 2 hk13_ (by decide) (cs:=([v10,v11,v12,v13]:List Value)) (v:=v12) rfl rfl (fun _=>rfl) (fun _=>rfl) rfl rfl rfl rfl rfl ?_
   refine Qaa (v:=int .i64 x19) rfl rfl rfl ?_
   refine Qaa (v:=v12) rfl rfl rfl ?_
   show G _ _ _ _ [_,_,_,_,_,_,_,_,_,_,_,_,_,_,_,_,_,_,_,_,_,_,_,_,_,_,_,_,_,_,_,_,_] _
   refine Qab (Qaf (Qak [0,1,2,3,4,5,6] rfl ?_))
   refine Qaa (v:=v12) rfl rfl rfl ?_
   refine Qaa (v:=int .i64 x19) rfl rfl rfl ?_
   obtain ⟨g14,H⟩:=ite_get H
   refine Qba (n:=x19) (m:=1) rfl (fun _=>rfl) g14.1 g14.2 rfl rfl rfl rfl rfl ?_
   refine Qaw rfl rfl (v:=int .i64 (a4.get x19 0)) rfl rfl (fun _=>rfl) (by rw [Nat.zero_add];exact cells_load (hs.cells 0 rfl) _ _ (encA_at (fkI .i64).len _ _ 0 g14.1 g14.2)) ?_
   obtain ⟨g15,H⟩:=ite_get H
   refine Qaa (v:=subV v12 1 ((0:Int)).toNat ((a4.get x19 0)).toNat) rfl rfl (Qcx (hs.row 3 rfl) rfl rfl (fun _=>rfl) rfl (.inl ⟨rfl,rfl⟩) (.inr ⟨_,_,rfl,rfl⟩) g15.1 g15.2.1 g15.2.2) ?_
   show G _ _ _ _ [_,_,_,_,_,_,_,_,_,_,_,_,_,_,_,_,_,_,_,_,_,_,_,_,_,_,_,_,_,_,_,_,_] _
   refine Qbp (rdSub (hs.row 3 rfl) 1 rfl g15.1 g15.2.1 g15.2.2) rfl rfl rfl rfl rfl ?_
   refine Qaa (v:=int .i64 0) rfl rfl rfl (Qab ?_)
   obtain ⟨o2_,Ho,Hr2_⟩:=bind_get H
   refine QaF (J:=fun t w=>∃ x39:Int,Qaq.a7 N x19 x39=some x25_∧Fr t (fun O=>([O 0,O 1,O 2,pointer (some ⟨b7,0,none⟩),O 4,int .u64 x39,O 6,O 7,O 8,O 9,O 10,agg (([v10,v11,v12,v13]:List Value)).toArray,int .i64 x19,O 13,O 14,O 15,O 16,O 17,O 18,O 19,O 20,O 21,O 22,O 23,O 24,O 25,O 26,O 27,O 28,O 29,O 30,O 31,O 32]:List Value))∧St w0 [Cells b7 ((encA (encI .i64)) a4) 47,Row 2 (K.int .i64) v10 (r9.get 0 []),Row 2 (K.int .i64) v11 (r9.get 1 []),Row 2 (K.int .i64) v12 (r9.get 2 []),Row 2 (K.int .i64) v13 (r9.get 3 [])] w) ?_ ?_
   ·
    rintro t w ⟨x39,H,hf,hs⟩
    obtain ⟨O,rfl⟩:=hf.open
    show G _ _ _ _ [_,_,_,_,_,_,_,_,_,_,_,_,_,_,_,_,_,_,_,_,_,_,_,_,_,_,_,_,_,_,_,_,_] _
    unfold Qaq.a7 at H
    refine QaH ?_
    have hs:=hs.pull 4 rfl
    have hs:=hs.pull 4 rfl
    have hs:=hs.pull 4 rfl
    have hs:=hs.pull 4 rfl
    have hs:=hs.pull 4 rfl
    have hs:St _ [_,_,_,_,_] _:=St.take (Γ':=[]) hs
    exact ha _ _ ⟨x39,H,rfl,hs⟩
   intro ha2_
   have hs:=hs.pull 4 rfl
   have hs:=hs.pull 4 rfl
   have hs:=hs.pull 4 rfl
   have hs:=hs.pull 4 rfl
   have hs:=hs.pull 4 rfl
   have hs:St _ [_,_,_,_,_] _:=St.take (Γ':=[]) hs
   refine QaZ (I:=fun n_ t w=>∃ x36:Int,∃ x37:Int,rounds (fun s=>Qaq.b7 N r9 a4 x19 s.1 s.2) n_ (x36,x37)=some o2_∧Fr t (fun O=>([O 0,O 1,O 2,pointer (some ⟨b7,0,none⟩),O 4,int .u64 x36,O 6,O 7,O 8,O 9,O 10,agg (([v10,v11,v12,v13]:List Value)).toArray,int .i64 x19,O 13,O 14,O 15,O 16,O 17,O 18,O 19,subV v12 1 ((0:Int)).toNat ((a4.get x19 0)).toNat,int .i64 ((((r9.get 2 []).drop ((0:Int)).toNat).take (((a4.get x19 0)).toNat - ((0:Int)).toNat)).length:Int),int .i64 x37,O 23,O 24,O 25,O 26,O 27,O 28,O 29,O 30,O 31,O 32]:List Value))∧St w0 [Cells b7 ((encA (encI .i64)) a4) 47,Row 2 (K.int .i64) v10 (r9.get 0 []),Row 2 (K.int .i64) v11 (r9.get 1 []),Row 2 (K.int .i64) v12 (r9.get 2 []),Row 2 (K.int .i64) v13 (r9.get 3 [])] w) N ⟨x18,0,Ho,rfl,hs⟩ ?_ ?_
   ·
    rintro _ _ ⟨x36,x37,h,_⟩
    exact rounds_zero h
   intro n_ ih2_
   rintro t w ⟨x36,x37,Ho,hf,hs⟩
   obtain ⟨O,rfl⟩:=hf.open
   show G _ _ _ _ [_,_,_,_,_,_,_,_,_,_,_,_,_,_,_,_,_,_,_,_,_,_,_,_,_,_,_,_,_,_,_,_,_] _
   obtain ⟨x18_,H,Hx2_⟩:=rounds_succ Ho
   have H:Qaq.b7 N r9 a4 x19 x36 x37=some x18_:=H
   unfold Qaq.b7 at H
   refine Qaf (Qak [0] rfl ?_)
   refine QaA (B:=decide (x37< ((((r9.get 2 []).drop ((0:Int)).toNat).take (((a4.get x19 0)).toNat - ((0:Int)).toNat)).length:Int))) rfl rfl rfl ?_ ?_
   ·
    intro hb
    rw [if_pos (b_dec_t hb)] at H
    show G _ _ _ _ [_,_,_,_,_,_,_,_,_,_,_,_,_,_,_,_,_,_,_,_,_,_,_,_,_,_,_,_,_,_,_,_,_] _
    refine Qab (Qaf (Qam rfl (QaE (Qaf ?_))))
    refine Qbz (Qaf (Qak [0,1,2] rfl ?_))
    obtain ⟨g16,H⟩:=ite_get H
    refine Qcm (fkI .i64) 0 (rdSub (hs.row 3 rfl) 1 rfl g15.1 g15.2.1 g15.2.2) rfl (fun _=>rfl) g16.1 g16.2 rfl rfl rfl rfl rfl ?_
    intro p38 hp38 lp38 op38
    refine Qaw rfl rfl (v:=int .i64 (rdL (((r9.get 2 []).drop ((0:Int)).toNat).take (((a4.get x19 0)).toNat - ((0:Int)).toNat)) x37 0)) rfl rfl (fun _=>rfl) hp38 ?_
    refine Qaa (v:=int .i64 (rdL (((r9.get 2 []).drop ((0:Int)).toNat).take (((a4.get x19 0)).toNat - ((0:Int)).toNat)) x37 0)) rfl rfl rfl ?_
    show G _ _ _ _ [_,_,_,_,_,_,_,_,_,_,_,_,_,_,_,_,_,_,_,_,_,_,_,_,_,_,_,_,_,_,_,_,_] _
    refine Qab (Qak [0,1,2,3,4] rfl ?_)
    refine Qaa (v:=int .u64 x36) rfl rfl rfl ?_
    refine Qaa (v:=int .i64 (rdL (((r9.get 2 []).drop ((0:Int)).toNat).take (((a4.get x19 0)).toNat - ((0:Int)).toNat)) x37 0)) rfl rfl rfl ?_
    obtain ⟨g17,H⟩:=ite_get H
    refine Qaa (v:=int .u64 (shlI .u64 1 (rdL (((r9.get 2 []).drop ((0:Int)).toNat).take (((a4.get x19 0)).toNat - ((0:Int)).toNat)) x37 0))) rfl rfl (QcG rfl rfl rfl g17) ?_
    refine Qaa (v:=int .u64 (bOr .u64 x36 (shlI .u64 1 (rdL (((r9.get 2 []).drop ((0:Int)).toNat).take (((a4.get x19 0)).toNat - ((0:Int)).toNat)) x37 0)))) rfl rfl rfl ?_
    refine Qaa (v:=int .u64 (bOr .u64 x36 (shlI .u64 1 (rdL (((r9.get 2 []).drop ((0:Int)).toNat).take (((a4.get x19 0)).toNat - ((0:Int)).toNat)) x37 0)))) rfl rfl rfl ?_
    show G _ _ _ _ [_,_,_,_,_,_,_,_,_,_,_,_,_,_,_,_,_,_,_,_,_,_,_,_,_,_,_,_,_,_,_,_,_] _
    refine Qab ?_
    refine QaH (Qak [0,1] rfl ?_)
    refine Qaa (v:=int .i64 (i64w (x37+1))) rfl rfl rfl ?_
    refine Qaa (v:=int .i64 (i64w (x37+1))) rfl rfl rfl (Qab ?_)
    obtain rfl:=QsJ H
    have hs:=hs.pull 4 rfl
    have hs:=hs.pull 4 rfl
    have hs:=hs.pull 4 rfl
    have hs:=hs.pull 4 rfl
    have hs:=hs.pull 4 rfl
    have hs:St _ [_,_,_,_,_] _:=St.take (Γ':=[]) hs
    exact ih2_ _ _ ⟨bOr .u64 x36 (shlI .u64 1 (rdL (((r9.get 2 []).drop ((0:Int)).toNat).take (((a4.get x19 0)).toNat - ((0:Int)).toNat)) x37 0)),i64w (x37+1),Hx2_,rfl,hs⟩
   intro hb
   rw [if_neg (b_dec_f hb)] at H
   refine Qab (Qaf (Qap rfl ?_))
   obtain rfl:=QsJ H
   subst Hx2_
   have hs:=hs.pull 4 rfl
   have hs:=hs.pull 4 rfl
   have hs:=hs.pull 4 rfl
   have hs:=hs.pull 4 rfl
   have hs:=hs.pull 4 rfl
   have hs:St _ [_,_,_,_,_] _:=St.take (Γ':=[]) hs
   refine Qbq rfl ?_
   exact ha2_ _ _ ⟨x36,Hr2_,rfl,hs⟩
  rw [if_neg hk13_] at H
  by_cases hk19_:x19=3
  ·
   rw [if_pos hk19_] at H
   refine Qak [0,1,2,3] rfl ?_
   refine Qaa (v:=int .i64 x19) rfl rfl rfl ?_
   refine Qco 3 hk19_ (by decide) (cs:=([v10,v11,v12,v13]:List Value)) (v:=v13) rfl rfl (fun _=>rfl) (fun _=>rfl) rfl rfl rfl rfl rfl ?_
   show G _ _ _ _ [_,_,_,_,_,_,_,_,_,_,_,_,_,_,_,_,_,_,_,_,_,_,_,_,_,_,_,_,_,_,_,_,_] _
   refine Qaa (v:=int .i64 x19) rfl rfl rfl ?_
   refine Qaa (v:=v13) rfl rfl rfl (Qab (Qaf (Qak [0,1,2,3,4,5,6] rfl ?_)))
   refine Qaa (v:=v13) rfl rfl rfl ?_
   refine Qaa (v:=int .i64 x19) rfl rfl rfl ?_
   obtain ⟨g20,H⟩:=ite_get H
   refine Qba (n:=x19) (m:=1) rfl (fun _=>rfl) g20.1 g20.2 rfl rfl rfl rfl rfl ?_
   show G _ _ _ _ [_,_,_,_,_,_,_,_,_,_,_,_,_,_,_,_,_,_,_,_,_,_,_,_,_,_,_,_,_,_,_,_,_] _
   refine Qaw rfl rfl (v:=int .i64 (a4.get x19 0)) rfl rfl (fun _=>rfl) (by rw [Nat.zero_add];exact cells_load (hs.cells 0 rfl) _ _ (encA_at (fkI .i64).len _ _ 0 g20.1 g20.2)) ?_
   obtain ⟨g21,H⟩:=ite_get H
   refine Qaa (v:=subV v13 1 ((0:Int)).toNat ((a4.get x19 0)).toNat) rfl rfl (Qcx (hs.row 4 rfl) rfl rfl (fun _=>rfl) rfl (.inl ⟨rfl,rfl⟩) (.inr ⟨_,_,rfl,rfl⟩) g21.1 g21.2.1 g21.2.2) ?_
   refine Qbp (rdSub (hs.row 4 rfl) 1 rfl g21.1 g21.2.1 g21.2.2) rfl rfl rfl rfl rfl ?_
   show G _ _ _ _ [_,_,_,_,_,_,_,_,_,_,_,_,_,_,_,_,_,_,_,_,_,_,_,_,_,_,_,_,_,_,_,_,_] _
   refine Qaa (v:=int .i64 0) rfl rfl rfl (Qab ?_)
   obtain ⟨o2_,Ho,Hr2_⟩:=bind_get H
   refine QaF (J:=fun t w=>∃ x47:Int,Qaq.a9 N x19 x47=some x25_∧Fr t (fun O=>([O 0,O 1,O 2,pointer (some ⟨b7,0,none⟩),O 4,int .u64 x47,O 6,O 7,O 8,O 9,O 10,agg (([v10,v11,v12,v13]:List Value)).toArray,int .i64 x19,O 13,O 14,O 15,O 16,O 17,O 18,O 19,O 20,O 21,O 22,O 23,O 24,O 25,O 26,O 27,O 28,O 29,O 30,O 31,O 32]:List Value))∧St w0 [Cells b7 ((encA (encI .i64)) a4) 47,Row 2 (K.int .i64) v10 (r9.get 0 []),Row 2 (K.int .i64) v11 (r9.get 1 []),Row 2 (K.int .i64) v12 (r9.get 2 []),Row 2 (K.int .i64) v13 (r9.get 3 [])] w) ?_ ?_
   ·
    rintro t w ⟨x47,H,hf,hs⟩
    obtain ⟨O,rfl⟩:=hf.open
    show G _ _ _ _ [_,_,_,_,_,_,_,_,_,_,_,_,_,_,_,_,_,_,_,_,_,_,_,_,_,_,_,_,_,_,_,_,_] _
    unfold Qaq.a9 at H
    refine QaH ?_
    have hs:=hs.pull 4 rfl
    have hs:=hs.pull 4 rfl
    have hs:=hs.pull 4 rfl
    have hs:=hs.pull 4 rfl
    have hs:=hs.pull 4 rfl
    have hs:St _ [_,_,_,_,_] _:=St.take (Γ':=[]) hs
    exact ha _ _ ⟨x47,H,rfl,hs⟩
   intro ha2_
   have hs:=hs.pull 4 rfl
   have hs:=hs.pull 4 rfl
   have hs:=hs.pull 4 rfl
   have hs:=hs.pull 4 rfl
   have hs:=hs.pull 4 rfl
   have hs:St _ [_,_,_,_,_] _:=St.take (Γ':=[]) hs
   refine QaZ (I:=fun n_ t w=>∃ x44:Int,∃ x45:Int,rounds (fun s=>Qaq.b9 N r9 a4 x19 s.1 s.2) n_ (x44,x45)=some o2_∧Fr t (fun O=>([O 0,O 1,O 2,pointer (some ⟨b7,0,none⟩),O 4,int .u64 x44,O 6,O 7,O 8,O 9,O 10,agg (([v10,v11,v12,v13]:List Value)).toArray,int .i64 x19,O 13,O 14,O 15,O 16,O 17,O 18,O 19,subV v13 1 ((0:Int)).toNat ((a4.get x19 0)).toNat,int .i64 ((((r9.get 3 []).drop ((0:Int)).toNat).take (((a4.get x19 0)).toNat - ((0:Int)).toNat)).length:Int),int .i64 x45,O 23,O 24,O 25,O 26,O 27,O 28,O 29,O 30,O 31,O 32]:List Value))∧St w0 [Cells b7 ((encA (encI .i64)) a4) 47,Row 2 (K.int .i64) v10 (r9.get 0 []),Row 2 (K.int .i64) v11 (r9.get 1 []),Row 2 (K.int .i64) v12 (r9.get 2 []),Row 2 (K.int .i64) v13 (r9.get 3 [])] w) N ⟨x18,0,Ho,rfl,hs⟩ ?_ ?_
   ·
    rintro _ _ ⟨x44,x45,h,_⟩
    exact rounds_zero h
   intro n_ ih2_
   rintro t w ⟨x44,x45,Ho,hf,hs⟩
   obtain ⟨O,rfl⟩:=hf.open
   show G _ _ _ _ [_,_,_,_,_,_,_,_,_,_,_,_,_,_,_,_,_,_,_,_,_,_,_,_,_,_,_,_,_,_,_,_,_] _
   obtain ⟨x24_,H,Hx2_⟩:=rounds_succ Ho
   have H:Qaq.b9 N r9 a4 x19 x44 x45=some x24_:=H
   unfold Qaq.b9 at H
   refine Qaf (Qak [0] rfl ?_)
   refine QaA (B:=decide (x45< ((((r9.get 3 []).drop ((0:Int)).toNat).take (((a4.get x19 0)).toNat - ((0:Int)).toNat)).length:Int))) rfl rfl rfl ?_ ?_
   ·
    intro hb
    rw [if_pos (b_dec_t hb)] at H
    refine Qab (Qaf (Qam rfl (QaE (Qaf ?_))))
    refine Qbz (Qaf (Qak [0,1,2] rfl ?_))
    obtain ⟨g22,H⟩:=ite_get H
    refine Qcm (fkI .i64) 0 (rdSub (hs.row 4 rfl) 1 rfl g21.1 g21.2.1 g21.2.2) rfl (fun _=>rfl) g22.1 g22.2 rfl rfl rfl rfl rfl ?_
    intro p46 hp46 lp46 op46
    show G _ _ _ _ [_,_,_,_,_,_,_,_,_,_,_,_,_,_,_,_,_,_,_,_,_,_,_,_,_,_,_,_,_,_,_,_,_] _
    refine Qaw rfl rfl (v:=int .i64 (rdL (((r9.get 3 []).drop ((0:Int)).toNat).take (((a4.get x19 0)).toNat - ((0:Int)).toNat)) x45 0)) rfl rfl (fun _=>rfl) hp46 ?_
    refine Qaa (v:=int .i64 (rdL (((r9.get 3 []).drop ((0:Int)).toNat).take (((a4.get x19 0)).toNat - ((0:Int)).toNat)) x45 0)) rfl rfl rfl (Qab (Qak [0,1,2,3,4] rfl ?_))
    refine Qaa (v:=int .u64 x44) rfl rfl rfl ?_
    refine Qaa (v:=int .i64 (rdL (((r9.get 3 []).drop ((0:Int)).toNat).take (((a4.get x19 0)).toNat - ((0:Int)).toNat)) x45 0)) rfl rfl rfl ?_
    obtain ⟨g23,H⟩:=ite_get H
    refine Qaa (v:=int .u64 (shlI .u64 1 (rdL (((r9.get 3 []).drop ((0:Int)).toNat).take (((a4.get x19 0)).toNat - ((0:Int)).toNat)) x45 0))) rfl rfl (QcG rfl rfl rfl g23) ?_
    show G _ _ _ _ [_,_,_,_,_,_,_,_,_,_,_,_,_,_,_,_,_,_,_,_,_,_,_,_,_,_,_,_,_,_,_,_,_] _
    refine Qaa (v:=int .u64 (bOr .u64 x44 (shlI .u64 1 (rdL (((r9.get 3 []).drop ((0:Int)).toNat).take (((a4.get x19 0)).toNat - ((0:Int)).toNat)) x45 0)))) rfl rfl rfl ?_
    refine Qaa (v:=int .u64 (bOr .u64 x44 (shlI .u64 1 (rdL (((r9.get 3 []).drop ((0:Int)).toNat).take (((a4.get x19 0)).toNat - ((0:Int)).toNat)) x45 0)))) rfl rfl rfl (Qab ?_)
    refine QaH (Qak [0,1] rfl ?_)
    refine Qaa (v:=int .i64 (i64w (x45+1))) rfl rfl rfl ?_
    show G _ _ _ _ [_,_,_,_,_,_,_,_,_,_,_,_,_,_,_,_,_,_,_,_,_,_,_,_,_,_,_,_,_,_,_,_,_] _
    refine Qaa (v:=int .i64 (i64w (x45+1))) rfl rfl rfl (Qab ?_)
    obtain rfl:=QsJ H
    have hs:=hs.pull 4 rfl
    have hs:=hs.pull 4 rfl
    have hs:=hs.pull 4 rfl
    have hs:=hs.pull 4 rfl
    have hs:=hs.pull 4 rfl
    have hs:St _ [_,_,_,_,_] _:=St.take (Γ':=[]) hs
    exact ih2_ _ _ ⟨bOr .u64 x44 (shlI .u64 1 (rdL (((r9.get 3 []).drop ((0:Int)).toNat).take (((a4.get x19 0)).toNat - ((0:Int)).toNat)) x45 0)),i64w (x45+1),Hx2_,rfl,hs⟩
   intro hb
   rw [if_neg (b_dec_f hb)] at H
   refine Qab (Qaf (Qap rfl ?_))
   obtain rfl:=QsJ H
   subst Hx2_
   have hs:=hs.pull 4 rfl
   have hs:=hs.pull 4 rfl
   have hs:=hs.pull 4 rfl
   have hs:=hs.pull 4 rfl
   have hs:=hs.pull 4 rfl
   have hs:St _ [_,_,_,_,_] _:=St.take (Γ':=[]) hs
   refine Qbq rfl ?_
   exact ha2_ _ _ ⟨x44,Hr2_,rfl,hs⟩
  rw [if_neg hk19_] at H
  cases H
 intro hb
 rw [if_neg (b_dec_f hb)] at H
 refine Qab (Qaf (Qap rfl ?_))
 obtain rfl:=QsJ H
 subst Hx1_
 have hs:St _ [] _:=St.take (Γ':=[_,_,_,_,_]) hs
 refine Qbq rfl ?_
 exact ha1_ _ _ ⟨x18,Hr1_,rfl,hs⟩
def QbM.post (w0:World) (r:(Int×Int)) (v:Value) (w:World):Prop:=v=tuple #[int .u64 r.1,int .i64 r.2]∧St w0 [] w
theorem QbM.calls {N:Nat} {a1:Qag} {v2:Value} {w0:World} {r:(Int×Int)} (hr3:RdRow Qao w0 v2 a1.Qah) (H:QbM.f N a1=some r):
 Calls Tryz.prog 22 #[agg (([int .i8 a1.Qac,int .i8 a1.Qae,v2]:List Value)).toArray] w0 fun e w=>∃ v,e= .returned v∧QbM.post w0 r v w:=by
 unfold QbM.f at H
 have hs:St w0 [] w0:=St.refl w0
 refine calls_of_g (n:=11) Tryz.func22 rfl rfl ?_
 show G _ _ _ _ [_,_,_,_,_,_,_,_,_,_,_,_] _
 refine Qaf (Qak [0,1,2] rfl ?_)
 refine Qbx hs rfl rfl (cs:=(([int .i8 a1.Qac,int .i8 a1.Qae,v2]:List Value))) rfl rfl ?_
 intro b4 w hs
 show G _ _ _ _ [_,_,_,_,_,_,_,_,_,_,_,_] _
 refine Qaa (v:=int .u64 0) rfl rfl rfl ?_
 refine Qaa (v:=int .i64 0) rfl rfl rfl (Qab (Qaf (Qaf (Qak [0,1,2] rfl ?_))))
 refine QaG rfl rfl (es:=(([int .i8 a1.Qac,int .i8 a1.Qae,v2]:List Value))) rfl rfl (fun _=>rfl) (n:=3) (fun _=>rfl) rfl (cells_all (hs.cells 0 rfl)) ?_
 show G _ _ _ _ [_,_,_,_,_,_,_,_,_,_,_,_] _
 obtain ⟨r6,Hr6,H⟩:=bind_get H
 refine Qas (args:=[agg (([int .i8 a1.Qac,int .i8 a1.Qae,v2]:List Value)).toArray]) rfl rfl (Qat rfl (callFunc_enter Tryz.func14 rfl rfl) rfl) (Qa1.calls (a1:=(⟨a1.Qac,a1.Qae,a1.Qah⟩:Qag)) (hs.rd hr3) Hr6) ?_
 rintro _ w ⟨rfl,hs2⟩
 have hs:St _ [_] _:=hs.call hs2
 cases r6 with
 |true=>
  rw [if_pos rfl] at H
  refine Qaa (v:=bool false) rfl rfl rfl (Qab (Qap rfl (QaE (Qaf ?_))))
  obtain ⟨r7,Hr7,H⟩:=bind_get H
  obtain ⟨r8,Hr8,H⟩:=bind_get H
  obtain ⟨r9,Hr9,H⟩:=bind_get H
  refine Qbu ?_
  intro T hT
  refine Qcl (n:=7) rfl [0,1,2,3,4,5,6] [0,1,2,3,4,5,6] rfl rfl (Inv:=fun D t w=>∃ O:Nat→Value,t=[agg (([int .i8 a1.Qac,int .i8 a1.Qae,v2]:List Value)).toArray,pointer (some ⟨b4,0,none⟩),cnd (D 5) (int .u64 r9) (int .u64 0),cnd (D 6) (int .i64 0) (int .i64 0),agg (([int .i8 a1.Qac,int .i8 a1.Qae,v2]:List Value)).toArray,bool true,bool false,cnd (D 0) (agg (([int .i8 a1.Qac,int .i8 a1.Qae,v2]:List Value)).toArray) (O 7),cnd (D 1) (agg (([int .i8 a1.Qac,int .i8 a1.Qae,v2]:List Value)).toArray) (O 8),cnd (D 2) (agg ((encA (encI .i64)) r7).toArray) (O 9),cnd (D 3) (agg ((encA (encI .i64)) r8).toArray) (O 10),cnd (D 4) (int .u64 r9) (O 11)]∧St w0 [Cells b4 (([int .i8 a1.Qac,int .i8 a1.Qae,v2]:List Value)) 30] w) ?_ ⟨⟨⟨⟨⟨⟨⟨trivial,?_⟩,?_⟩,?_⟩,?_⟩,?_⟩,?_⟩,?_⟩ ?_
  ·
   intro w hh hbw
   have hs:=hs.samew hh hbw
   exact ⟨fun i=>T.getD i undef,(by subst hT;rfl),hs⟩
  ·
   rintro D t w hD hp hcl ⟨O,ht,hs⟩ rest hk
   have q4_:=nz hcl 4 0 hD
   have q5_:=nz hcl 5 0 q4_
   have q6_:=nz hcl 6 0 q5_
   simp only [hD,q4_,q5_,q6_,cq,oT] at ht hs
   subst ht
   refine QaG rfl rfl (es:=(([int .i8 a1.Qac,int .i8 a1.Qae,v2]:List Value))) rfl rfl (fun _=>rfl) (n:=3) (fun _=>rfl) rfl (cells_all (hs.cells 0 rfl)) ?_
   show G _ _ _ _ [_,_,_,_,_,_,_,_,_,_,_,_] _
   refine hk _ _ ⟨O,?_,hs.cast ?_⟩<;>simp only [oT,lq,cq,Nat.reduceBEq,q4_,q5_,q6_]
  ·
   rintro D t w hD hp hcl ⟨O,ht,hs⟩ rest hk
   have q2_:=nz hcl 2 0 hD
   have q3_:=nz hcl 3 0 q2_
   have q4_:=nz hcl 4 1 q3_
   have q5_:=nz hcl 5 0 q4_
   have q6_:=nz hcl 6 0 q5_
   simp only [hD,q2_,q3_,q4_,q5_,q6_,cq,oT] at ht hs
   subst ht
   refine QaG rfl rfl (es:=(([int .i8 a1.Qac,int .i8 a1.Qae,v2]:List Value))) rfl rfl (fun _=>rfl) (n:=3) (fun _=>rfl) rfl (cells_all (hs.cells 0 rfl)) ?_
   show G _ _ _ _ [_,_,_,_,_,_,_,_,_,_,_,_] _
   refine hk _ _ ⟨O,?_,hs.cast ?_⟩<;>simp only [oT,lq,cq,Nat.reduceBEq,q2_,q3_,q4_,q5_,q6_]
  ·
   rintro D t w hD hp hcl ⟨O,ht,hs⟩ rest hk
   obtain ⟨p1_,_⟩:=hp
   have q3_:=nz hcl 3 0 hD
   have q4_:=nz hcl 4 1 q3_
   have q5_:=nz hcl 5 0 q4_
   have q6_:=nz hcl 6 0 q5_
   simp only [hD,p1_,q3_,q4_,q5_,q6_,cq,oT] at ht hs
   subst ht
   refine Qas (args:=[agg (([int .i8 a1.Qac,int .i8 a1.Qae,v2]:List Value)).toArray]) rfl rfl (Qat rfl (callFunc_enter Tryz.func58 rfl rfl) rfl) (QaD.calls (a1:=(⟨a1.Qac,a1.Qae,a1.Qah⟩:Qag)) (hs.rd hr3) Hr7) ?_
   rintro _ w ⟨rfl,hs2⟩
   have hs:St _ [_] _:=hs.call hs2
   show G _ _ _ _ [_,_,_,_,_,_,_,_,_,_,_,_] _
   refine hk _ _ ⟨O,?_,hs.cast ?_⟩<;>simp only [oT,lq,cq,Nat.reduceBEq,p1_,q3_,q4_,q5_,q6_]
  ·
   rintro D t w hD hp hcl ⟨O,ht,hs⟩ rest hk
   obtain ⟨p2_,_,_⟩:=hp
   obtain ⟨p1_,_⟩:=(hcl.get 2 (by decide)) p2_
   have q4_:=nz hcl 4 1 hD
   have q5_:=nz hcl 5 0 q4_
   have q6_:=nz hcl 6 0 q5_
   simp only [hD,p1_,p2_,q4_,q5_,q6_,cq,oT] at ht hs
   subst ht
   refine Qas (args:=[agg ((encA (encI .i64)) r7).toArray]) rfl rfl (Qat rfl (callFunc_enter Tryz.func61 rfl rfl) rfl) (QaS.calls (a1:=r7) Hr8) ?_
   rintro _ w ⟨rfl,hs2⟩
   have hs:St _ [_] _:=hs.call hs2
   show G _ _ _ _ [_,_,_,_,_,_,_,_,_,_,_,_] _
   refine hk _ _ ⟨O,?_,hs.cast ?_⟩<;>simp only [oT,lq,cq,Nat.reduceBEq,p1_,p2_,q4_,q5_,q6_]
  ·
   rintro D t w hD hp hcl ⟨O,ht,hs⟩ rest hk
   obtain ⟨p0_,p3_,_,_⟩:=hp
   obtain ⟨p2_,_,_⟩:=(hcl.get 3 (by decide)) p3_
   obtain ⟨p1_,_⟩:=(hcl.get 2 (by decide)) p2_
   have q5_:=nz hcl 5 0 hD
   have q6_:=nz hcl 6 0 q5_
   simp only [hD,p0_,p1_,p2_,p3_,q5_,q6_,cq,oT] at ht hs
   subst ht
   refine Qas (args:=[agg (([int .i8 a1.Qac,int .i8 a1.Qae,v2]:List Value)).toArray,agg ((encA (encI .i64)) r8).toArray]) rfl rfl (Qat rfl (callFunc_enter Tryz.func60 rfl rfl) rfl) (Qaq.calls (a1:=(⟨a1.Qac,a1.Qae,a1.Qah⟩:Qag)) (a4:=r8) (hs.rd hr3) Hr9) ?_
   rintro _ w ⟨rfl,hs2⟩
   have hs:St _ [_] _:=hs.call hs2
   show G _ _ _ _ [_,_,_,_,_,_,_,_,_,_,_,_] _
   refine hk _ _ ⟨O,?_,hs.cast ?_⟩<;>simp only [oT,lq,cq,Nat.reduceBEq,p0_,p1_,p2_,p3_,q5_,q6_]
  ·
   rintro D t w hD hp hcl ⟨O,ht,hs⟩ rest hk
   obtain ⟨p4_,_,p0_,p1_,p2_,p3_,_,_⟩:=hp
   have q6_:=nz hcl 6 0 hD
   simp only [hD,p0_,p1_,p2_,p3_,p4_,q6_,cq,oT] at ht hs
   subst ht
   refine Qaa (v:=int .u64 r9) rfl rfl rfl ?_
   show G _ _ _ _ [_,_,_,_,_,_,_,_,_,_,_,_] _
   refine hk _ _ ⟨O,?_,hs.cast ?_⟩<;>simp only [oT,lq,cq,Nat.reduceBEq,p0_,p1_,p2_,p3_,p4_,q6_]
  ·
   rintro D t w hD hp hcl ⟨O,ht,hs⟩ rest hk
   obtain ⟨p5_,p0_,p1_,p2_,p3_,p4_,_,_⟩:=hp
   simp only [hD,p0_,p1_,p2_,p3_,p4_,p5_,cq,oT] at ht hs
   subst ht
   refine Qaa (v:=int .i64 0) rfl rfl rfl ?_
   show G _ _ _ _ [_,_,_,_,_,_,_,_,_,_,_,_] _
   refine hk _ _ ⟨O,?_,hs.cast ?_⟩<;>simp only [oT,lq,cq,Nat.reduceBEq,p0_,p1_,p2_,p3_,p4_,p5_]
  intro D t w hall hI
  obtain ⟨O,ht,hs⟩:=hI
  have p0_:=hall 0 (by decide)
  have p1_:=hall 1 (by decide)
  have p2_:=hall 2 (by decide)
  have p3_:=hall 3 (by decide)
  have p4_:=hall 4 (by decide)
  have p5_:=hall 5 (by decide)
  have p6_:=hall 6 (by decide)
  simp only [p0_,p1_,p2_,p3_,p4_,p5_,p6_,cq,oT] at ht hs
  subst ht
  obtain rfl:=QsJ H
  refine Qax Tryz.func22 (v:=tuple #[int .u64 r9,int .i64 0]) (resN (l:=Tryz.f22.results.toList) (vs:=[int .u64 r9,int .i64 0]) rfl ⟨rfl,rfl,trivial⟩ (by simp)) ?_
  have hs:St _ [] _:=St.take (Γ':=[_]) hs
  exact ⟨_,rfl,rfl,hs⟩
 |false=>
  rw [if_neg Bool.false_ne_true] at H
  refine Qaa (v:=bool true) rfl rfl rfl (Qab (Qam rfl (Qaf (Qak [0,1] rfl ?_))))
  refine Qaa (v:=int .u64 0) rfl rfl rfl ?_
  show G _ _ _ _ [_,_,_,_,_,_,_,_,_,_,_,_] _
  refine Qaa (v:=int .i64 1) rfl rfl rfl (Qab ?_)
  obtain rfl:=QsJ H
  refine Qax Tryz.func22 (v:=tuple #[int .u64 0,int .i64 1]) (resN (l:=Tryz.f22.results.toList) (vs:=[int .u64 0,int .i64 1]) rfl ⟨rfl,rfl,trivial⟩ (by simp)) ?_
  have hs:St _ [] _:=St.take (Γ':=[_]) hs
  exact ⟨_,rfl,rfl,hs⟩
def Qbk.post (w0:World) (r:(List Qav)) (v:Value) (w:World):Prop:=St w0 [Row 61 Qao v r] w
theorem Qbk.calls {N:Nat} {a1:(List Qav)} {v2:Value} {w0:World} {r:(List Qav)} (hr0:RdRow Qao w0 v2 a1) (H:Qbk.f N a1=some r):
 Calls Tryz.prog 75 #[v2] w0 fun e w=>∃ v,e= .returned v∧Qbk.post w0 r v w:=by
 unfold Qbk.f at H
 have hs:St w0 [] w0:=St.refl w0
 refine calls_of_g (n:=7) Tryz.func75 rfl rfl ?_
 show G _ _ _ _ [_,_,_,_,_,_,_,_] _
 refine Qaf (Qak [0] rfl ?_)
 refine Qaa (v:=slice none 0 0) rfl rfl rfl (Qab (Qaf (Qaf (Qak [0,1] rfl ?_))))
 refine Qaa (v:=v2) rfl rfl rfl ?_
 show G _ _ _ _ [_,_,_,_,_,_,_,_] _
 rcases nilCases hr0 with ⟨cn_,cp_,hv_,hx_⟩|⟨ad_,cn_,cp_,hv_⟩
 ·
  have H:(some [])=some r:=by simpa [hx_] using H
  refine Qaa (v:=bool true) rfl rfl (Qc9 rfl rfl rfl hv_ rfl) (Qab (Qam rfl (Qaf (Qak [0] rfl ?_))))
  refine Qaa (v:=slice none 0 0) rfl rfl rfl (Qab ?_)
  obtain rfl:=QsJ H
  refine Qax Tryz.func75 (v:=slice none 0 0) (res1 rfl rfl) ?_
  have hs:=hs.nil 61 Qao
  have hs:=hs.pull 0 rfl
  have hs:St _ [_] _:=St.take (Γ':=[]) hs
  exact ⟨_,rfl,hs⟩
 refine Qaa (v:=bool false) rfl rfl (Qdb rfl rfl rfl hv_ rfl) (Qab (Qap rfl (QaE (Qaf (Qak [0,1,2,3] rfl ?_)))))
 refine QcB (κ:=Qao) hs rfl rfl rfl rfl (fun _=>rfl) ?_
 intro v3 w hs
 refine Qaa (v:=v2) rfl rfl rfl ?_
 show G _ _ _ _ [_,_,_,_,_,_,_,_] _
 obtain ⟨g,H⟩:=ite_get H
 refine Qci QaX (zv:=(agg #[int .u64 0,bool false])) (B:=16) hs (hs.rd hr0) rfl rfl rfl rfl rfl rfl rfl rfl rfl (by decide) rfl rfl (by decide) (by omega) ?_
 intro v5 w hs
 refine Qaa (v:=v5) rfl rfl rfl (Qab ?_)
 obtain rfl:=QsJ H
 refine Qax Tryz.func75 (v:=v5) (res1 rfl rfl) ?_
 have hs:=hs.pull 0 rfl
 have hs:St _ [_] _:=St.take (Γ':=[]) hs
 exact ⟨_,rfl,hs⟩
def Qby.post (w0:World) (r:Qag) (v:Value) (w:World):Prop:=∃ u1:Value,v=agg (([int .i8 r.Qac,int .i8 r.Qae,u1]:List Value)).toArray∧St w0 [Row 61 Qao u1 r.Qah] w
theorem Qby.calls {N:Nat} {a1:Qag} {a4:Int} {a5:Bool} {v2:Value} {w0:World} {r:Qag} (hr3:RdRow Qao w0 v2 a1.Qah) (H:Qby.f N a1 a4 a5=some r):
 Calls Tryz.prog 37 #[agg (([int .i8 a1.Qac,int .i8 a1.Qae,v2]:List Value)).toArray,int .u64 a4,bool a5] w0 fun e w=>∃ v,e= .returned v∧Qby.post w0 r v w:=by
 unfold Qby.f at H
 have hs:St w0 [] w0:=St.refl w0
 refine calls_of_g (n:=17) Tryz.func37 rfl rfl ?_
 show G _ _ _ _ [_,_,_,_,_,_,_,_,_,_,_,_,_,_,_,_,_,_,_,_] _
 refine Qaf (Qak [0,1] rfl ?_)
 refine Qbx hs rfl rfl (cs:=(([int .i8 a1.Qac,int .i8 a1.Qae,v2]:List Value))) rfl rfl ?_
 intro b6 w hs
 refine Qa5 hs rfl rfl (z:=(agg #[int .i8 0,int .i8 0,slice none 0 0])) (cs:=(([int .i8 0,int .i8 0,slice none 0 0]:List Value))) rfl (fun _=>rfl) rfl ?_
 intro b8 w hs
 show G _ _ _ _ [_,_,_,_,_,_,_,_,_,_,_,_,_,_,_,_,_,_,_,_] _
 refine Qab (Qaf ?_)
 obtain ⟨r10,Hr10,H⟩:=bind_get H
 obtain ⟨gq11_,H⟩:=ite_get H
 refine Qbu ?_
 intro T hT
 refine Qcl (n:=14) rfl [0,1,2,3,4,5,6,7,8,9,10,11,12,13] [0,1,2,3,4,5,6,7,8,9,10,11,12,13] rfl rfl (Inv:=fun D t w=>∃ v11:Value,∃ v13:Value,∃ v15:Value,∃ O:Nat→Value,t=[agg (([int .i8 a1.Qac,int .i8 a1.Qae,v2]:List Value)).toArray,int .u64 a4,bool a5,pointer (some ⟨b6,0,none⟩),O 4,O 5,pointer (some ⟨b8,0,none⟩),cnd (D 0) (pointer (some ⟨b6,0,none⟩)) (O 7),cnd (D 1) (int .i8 a1.Qac) (O 8),cnd (D 2) (pointer (some ⟨b6,1,none⟩)) (O 9),cnd (D 3) (int .i8 a1.Qae) (O 10),cnd (D 4) (pointer (some ⟨b6,2,none⟩)) (O 11),cnd (D 5) v2 (O 12),cnd (D 6) v11 (O 13),cnd (D 7) (int .u64 a4) (O 14),cnd (D 8) (bool a5) (O 15),cnd (D 9) (agg (QaC (⟨a4,a5⟩:Qav)).toArray) (O 16),cnd (D 10) v13 (O 17),cnd (D 11) v15 (O 18),cnd (D 12) (agg (([int .i8 a1.Qac,int .i8 a1.Qae,v15]:List Value)).toArray) (O 19)]∧St w0 [Asc (D 6) (Row 61 Qao (cnd (D 11) v15 v11) (cnd (D 11) (r10++([(⟨a4,a5⟩:Qav)])) r10)),Asc (D 10) (Row 61 Qao v13 ([(⟨a4,a5⟩:Qav)])),Cells b8 (cnd (D 13) (([int .i8 a1.Qac,int .i8 a1.Qae,v15]:List Value)) (([int .i8 0,int .i8 0,slice none 0 0]:List Value))) 30,Cells b6 (([int .i8 a1.Qac,int .i8 a1.Qae,v2]:List Value)) 30] w) ?_ ⟨⟨⟨⟨⟨⟨⟨⟨⟨⟨⟨⟨⟨⟨trivial,?_⟩,?_⟩,?_⟩,?_⟩,?_⟩,?_⟩,?_⟩,?_⟩,?_⟩,?_⟩,?_⟩,?_⟩,?_⟩,?_⟩ ?_
 ·
  intro w hh hbw
  have hs:=hs.samew hh hbw
  have hs:=hs.emp
  have hs:=hs.emp
  exact ⟨undef,undef,undef,fun i=>T.getD i undef,(by subst hT;rfl),hs⟩
 ·
  rintro D t w hD hp hcl ⟨v11,v13,v15,O,ht,hs⟩ rest hk
  have q1_:=nz hcl 1 0 hD
  have q12_:=nz hcl 12 0 q1_
  have q13_:=nz hcl 13 0 q12_
  simp only [hD,q1_,q12_,q13_,cq,oT] at ht hs
  subst ht
  refine Qaa (v:=pointer (some ⟨b6,0,none⟩)) rfl rfl rfl ?_
  show G _ _ _ _ [_,_,_,_,_,_,_,_,_,_,_,_,_,_,_,_,_,_,_,_] _
  refine hk _ _ ⟨v11,v13,v15,O,?_,hs.cast ?_⟩<;>simp only [oT,lq,cq,Nat.reduceBEq,q1_,q12_,q13_]
 ·
  rintro D t w hD hp hcl ⟨v11,v13,v15,O,ht,hs⟩ rest hk
  obtain ⟨p0_,_⟩:=hp
  have q12_:=nz hcl 12 0 hD
  have q13_:=nz hcl 13 0 q12_
  simp only [hD,p0_,q12_,q13_,cq,oT] at ht hs
  subst ht
  refine Qaw rfl rfl (v:=int .i8 a1.Qac) rfl rfl (fun _=>rfl) (cells_load (hs.cells 3 rfl) 0 1 rfl) ?_
  show G _ _ _ _ [_,_,_,_,_,_,_,_,_,_,_,_,_,_,_,_,_,_,_,_] _
  refine hk _ _ ⟨v11,v13,v15,O,?_,hs.cast ?_⟩<;>simp only [oT,lq,cq,Nat.reduceBEq,p0_,q12_,q13_]
 ·
  rintro D t w hD hp hcl ⟨v11,v13,v15,O,ht,hs⟩ rest hk
  have q3_:=nz hcl 3 0 hD
  have q12_:=nz hcl 12 1 q3_
  have q13_:=nz hcl 13 0 q12_
  simp only [hD,q3_,q12_,q13_,cq,oT] at ht hs
  subst ht
  refine Qaa (v:=pointer (some ⟨b6,1,none⟩)) rfl rfl rfl ?_
  show G _ _ _ _ [_,_,_,_,_,_,_,_,_,_,_,_,_,_,_,_,_,_,_,_] _
  refine hk _ _ ⟨v11,v13,v15,O,?_,hs.cast ?_⟩<;>simp only [oT,lq,cq,Nat.reduceBEq,q3_,q12_,q13_]
 ·
  rintro D t w hD hp hcl ⟨v11,v13,v15,O,ht,hs⟩ rest hk
  obtain ⟨p2_,_⟩:=hp
  have q12_:=nz hcl 12 1 hD
  have q13_:=nz hcl 13 0 q12_
  simp only [hD,p2_,q12_,q13_,cq,oT] at ht hs
  subst ht
  refine Qaw rfl rfl (v:=int .i8 a1.Qae) rfl rfl (fun _=>rfl) (cells_load (hs.cells 3 rfl) 1 1 rfl) ?_
  show G _ _ _ _ [_,_,_,_,_,_,_,_,_,_,_,_,_,_,_,_,_,_,_,_] _
  refine hk _ _ ⟨v11,v13,v15,O,?_,hs.cast ?_⟩<;>simp only [oT,lq,cq,Nat.reduceBEq,p2_,q12_,q13_]
 ·
  rintro D t w hD hp hcl ⟨v11,v13,v15,O,ht,hs⟩ rest hk
  have q5_:=nz hcl 5 0 hD
  have q6_:=nz hcl 6 0 q5_
  have q11_:=nz hcl 11 0 q6_
  have q12_:=nz hcl 12 2 q11_
  have q13_:=nz hcl 13 0 q12_
  simp only [hD,q5_,q6_,q11_,q12_,q13_,cq,oT] at ht hs
  subst ht
  refine Qaa (v:=pointer (some ⟨b6,2,none⟩)) rfl rfl rfl ?_
  show G _ _ _ _ [_,_,_,_,_,_,_,_,_,_,_,_,_,_,_,_,_,_,_,_] _
  refine hk _ _ ⟨v11,v13,v15,O,?_,hs.cast ?_⟩<;>simp only [oT,lq,cq,Nat.reduceBEq,q5_,q6_,q11_,q12_,q13_]
 ·
  rintro D t w hD hp hcl ⟨v11,v13,v15,O,ht,hs⟩ rest hk
  obtain ⟨p4_,_⟩:=hp
  have q6_:=nz hcl 6 0 hD
  have q11_:=nz hcl 11 0 q6_
  have q12_:=nz hcl 12 2 q11_
  have q13_:=nz hcl 13 0 q12_
  simp only [hD,p4_,q6_,q11_,q12_,q13_,cq,oT] at ht hs
  subst ht
  refine Qaw rfl rfl (v:=v2) rfl rfl (fun _=>rfl) (cells_load (hs.cells 3 rfl) 2 1 rfl) ?_
  show G _ _ _ _ [_,_,_,_,_,_,_,_,_,_,_,_,_,_,_,_,_,_,_,_] _
  refine hk _ _ ⟨v11,v13,v15,O,?_,hs.cast ?_⟩<;>simp only [oT,lq,cq,Nat.reduceBEq,p4_,q6_,q11_,q12_,q13_]
 ·
  rintro D t w hD hp hcl ⟨v11,v13,v15,O,ht,hs⟩ rest hk
  obtain ⟨p5_,_⟩:=hp
  obtain ⟨p4_,_⟩:=(hcl.get 5 (by decide)) p5_
  have q11_:=nz hcl 11 0 hD
  have q12_:=nz hcl 12 2 q11_
  have q13_:=nz hcl 13 0 q12_
  simp only [hD,p4_,p5_,q11_,q12_,q13_,cq,oT] at ht hs
  subst ht
  refine Qas (args:=[v2]) rfl rfl (Qat rfl (callFunc_enter Tryz.func75 rfl rfl) rfl) (Qbk.calls (a1:=a1.Qah) (hs.rd hr3) Hr10) ?_
  intro v11 w hs2
  have hs:St _ [_,_,_,_,_] _:=hs.call hs2
  show G _ _ _ _ [_,_,_,_,_,_,_,_,_,_,_,_,_,_,_,_,_,_,_,_] _
  have hs:=hs.fill 0 rfl
  refine hk _ _ ⟨v11,v13,v15,O,?_,hs.cast ?_⟩<;>simp only [oT,lq,cq,Nat.reduceBEq,p4_,p5_,q11_,q12_,q13_]
 ·
  rintro D t w hD hp hcl ⟨v11,v13,v15,O,ht,hs⟩ rest hk
  have q9_:=nz hcl 9 0 hD
  have q10_:=nz hcl 10 0 q9_
  have q11_:=nz hcl 11 1 q10_
  have q12_:=nz hcl 12 2 q11_
  have q13_:=nz hcl 13 0 q12_
  simp only [hD,q9_,q10_,q11_,q12_,q13_,cq,oT] at ht hs
  subst ht
  refine Qaa (v:=int .u64 a4) rfl rfl rfl ?_
  show G _ _ _ _ [_,_,_,_,_,_,_,_,_,_,_,_,_,_,_,_,_,_,_,_] _
  refine hk _ _ ⟨v11,v13,v15,O,?_,hs.cast ?_⟩<;>simp only [oT,lq,cq,Nat.reduceBEq,q9_,q10_,q11_,q12_,q13_]
 ·
  rintro D t w hD hp hcl ⟨v11,v13,v15,O,ht,hs⟩ rest hk
  have q9_:=nz hcl 9 1 hD
  have q10_:=nz hcl 10 0 q9_
  have q11_:=nz hcl 11 1 q10_
  have q12_:=nz hcl 12 2 q11_
  have q13_:=nz hcl 13 0 q12_
  simp only [hD,q9_,q10_,q11_,q12_,q13_,cq,oT] at ht hs
  subst ht
  refine Qaa (v:=bool a5) rfl rfl rfl ?_
  show G _ _ _ _ [_,_,_,_,_,_,_,_,_,_,_,_,_,_,_,_,_,_,_,_] _
  refine hk _ _ ⟨v11,v13,v15,O,?_,hs.cast ?_⟩<;>simp only [oT,lq,cq,Nat.reduceBEq,q9_,q10_,q11_,q12_,q13_]
 ·
  rintro D t w hD hp hcl ⟨v11,v13,v15,O,ht,hs⟩ rest hk
  obtain ⟨p7_,p8_,_⟩:=hp
  have q10_:=nz hcl 10 0 hD
  have q11_:=nz hcl 11 1 q10_
  have q12_:=nz hcl 12 2 q11_
  have q13_:=nz hcl 13 0 q12_
  simp only [hD,p7_,p8_,q10_,q11_,q12_,q13_,cq,oT] at ht hs
  subst ht
  refine Qaa (v:=agg (QaC (⟨a4,a5⟩:Qav)).toArray) rfl rfl (QbB (cs:=(QaC (⟨a4,a5⟩:Qav))) (segs:=[[int .u64 0],[bool false]]) rfl rfl (fun _=>rfl) ⟨rfl,(fun _=>rfl),rfl,(fun _=>rfl),trivial⟩ (by simp only [List.map_cons,List.map_nil,List.forall_mem_cons,List.not_mem_nil,false_implies,implies_true,and_true];exact ⟨⟨_,rfl,rfl⟩,⟨_,rfl,rfl⟩⟩) (by first|rfl|(simp [ev,QaC];done)|(simp [ev,QaC];rfl))) ?_
  show G _ _ _ _ [_,_,_,_,_,_,_,_,_,_,_,_,_,_,_,_,_,_,_,_] _
  refine hk _ _ ⟨v11,v13,v15,O,?_,hs.cast ?_⟩<;>simp only [oT,lq,cq,Nat.reduceBEq,p7_,p8_,q10_,q11_,q12_,q13_]
 ·
  rintro D t w hD hp hcl ⟨v11,v13,v15,O,ht,hs⟩ rest hk
  obtain ⟨p9_,_⟩:=hp
  obtain ⟨p7_,p8_,_⟩:=(hcl.get 9 (by decide)) p9_
  have q11_:=nz hcl 11 1 hD
  have q12_:=nz hcl 12 2 q11_
  have q13_:=nz hcl 13 0 q12_
  simp only [hD,p7_,p8_,p9_,q11_,q12_,q13_,cq,oT] at ht hs
  subst ht
  refine Qcr QaX (y:=(⟨a4,a5⟩:Qav)) hs rfl rfl rfl rfl (fun _=>rfl) (zv:=(agg #[int .u64 0,bool false])) (fun _=>rfl) rfl (by decide) (by decide) rfl ?_
  intro v13 w hs
  show G _ _ _ _ [_,_,_,_,_,_,_,_,_,_,_,_,_,_,_,_,_,_,_,_] _
  have hs:=hs.fill 1 rfl
  refine hk _ _ ⟨v11,v13,v15,O,?_,hs.cast ?_⟩<;>simp only [oT,lq,cq,Nat.reduceBEq,p7_,p8_,p9_,q11_,q12_,q13_]
 ·
  rintro D t w hD hp hcl ⟨v11,v13,v15,O,ht,hs⟩ rest hk
  obtain ⟨p6_,p10_,_,_⟩:=hp
  obtain ⟨p9_,_⟩:=(hcl.get 10 (by decide)) p10_
  obtain ⟨p7_,p8_,_⟩:=(hcl.get 9 (by decide)) p9_
  obtain ⟨p5_,_⟩:=(hcl.get 6 (by decide)) p6_
  obtain ⟨p4_,_⟩:=(hcl.get 5 (by decide)) p5_
  have q12_:=nz hcl 12 2 hD
  have q13_:=nz hcl 13 0 q12_
  simp only [hD,p4_,p5_,p6_,p7_,p8_,p9_,p10_,q12_,q13_,cq,oT] at ht hs
  subst ht
  refine Qci QaX (zv:=(agg #[int .u64 0,bool false])) (B:=16) hs (hs.row 1 rfl) rfl rfl rfl rfl rfl rfl rfl rfl rfl (by decide) rfl rfl (by decide) (by have:=gq11_;omega) ?_
  intro v15 w hs
  show G _ _ _ _ [_,_,_,_,_,_,_,_,_,_,_,_,_,_,_,_,_,_,_,_] _
  have hs:=hs.push 0 (by simp)
  refine hk _ _ ⟨v11,v13,v15,O,?_,hs.cast ?_⟩<;>simp only [oT,lq,cq,Nat.reduceBEq,p4_,p5_,p6_,p7_,p8_,p9_,p10_,q12_,q13_]
 ·
  rintro D t w hD hp hcl ⟨v11,v13,v15,O,ht,hs⟩ rest hk
  obtain ⟨p1_,p3_,p11_,_⟩:=hp
  obtain ⟨p6_,p10_,_,_⟩:=(hcl.get 11 (by decide)) p11_
  obtain ⟨p9_,_⟩:=(hcl.get 10 (by decide)) p10_
  obtain ⟨p7_,p8_,_⟩:=(hcl.get 9 (by decide)) p9_
  obtain ⟨p5_,_⟩:=(hcl.get 6 (by decide)) p6_
  obtain ⟨p4_,_⟩:=(hcl.get 5 (by decide)) p5_
  obtain ⟨p2_,_⟩:=(hcl.get 3 (by decide)) p3_
  obtain ⟨p0_,_⟩:=(hcl.get 1 (by decide)) p1_
  have q13_:=nz hcl 13 0 hD
  simp only [hD,p0_,p1_,p2_,p3_,p4_,p5_,p6_,p7_,p8_,p9_,p10_,p11_,q13_,cq,oT] at ht hs
  subst ht
  refine Qaa (v:=agg (([int .i8 a1.Qac,int .i8 a1.Qae,v15]:List Value)).toArray) rfl rfl (QbB (cs:=(([int .i8 a1.Qac,int .i8 a1.Qae,v15]:List Value))) (segs:=[[int .i8 0],[int .i8 0],[slice none 0 0]]) rfl rfl (fun _=>rfl) ⟨rfl,(fun _=>rfl),rfl,(fun _=>rfl),rfl,(fun _=>rfl),trivial⟩ (by simp only [List.map_cons,List.map_nil,List.forall_mem_cons,List.not_mem_nil,false_implies,implies_true,and_true];exact ⟨⟨_,rfl,rfl⟩,⟨_,rfl,rfl⟩,⟨_,rfl,slSize (hs.row 0 rfl)⟩⟩) (by first|rfl|(simp [ev,encA,slCells (hs.row 0 rfl)];done)|(simp [ev,encA,slCells (hs.row 0 rfl)];rfl))) ?_
  show G _ _ _ _ [_,_,_,_,_,_,_,_,_,_,_,_,_,_,_,_,_,_,_,_] _
  refine hk _ _ ⟨v11,v13,v15,O,?_,hs.cast ?_⟩<;>simp only [oT,lq,cq,Nat.reduceBEq,p0_,p1_,p2_,p3_,p4_,p5_,p6_,p7_,p8_,p9_,p10_,p11_,q13_]
 ·
  rintro D t w hD hp hcl ⟨v11,v13,v15,O,ht,hs⟩ rest hk
  obtain ⟨p12_,p11_,p0_,p1_,p2_,p3_,p4_,p5_,p6_,p7_,p8_,p9_,p10_,_,_,_⟩:=hp
  simp only [hD,p0_,p1_,p2_,p3_,p4_,p5_,p6_,p7_,p8_,p9_,p10_,p11_,p12_,cq,oT] at ht hs
  subst ht
  have hs:St _ [_,_,_,_] _:=hs.pull 2 rfl
  refine QaB (n:=3) hs rfl rfl rfl (vs:=(([int .i8 a1.Qac,int .i8 a1.Qae,v15]:List Value))) rfl rfl rfl (fun _=>rfl) rfl (by intro v hv;simp only [List.mem_append,List.mem_cons,List.not_mem_nil,or_false] at hv;repeat (first|(subst hv;first|rfl|exact slOne (hs.row 1 rfl))|(rcases hv with hv|hv))) ?_
  intro w hs
  show G _ _ _ _ [_,_,_,_,_,_,_,_,_,_,_,_,_,_,_,_,_,_,_,_] _
  have hs:=hs.push 2 (by simp)
  refine hk _ _ ⟨v11,v13,v15,O,?_,hs.cast ?_⟩<;>simp only [oT,lq,cq,Nat.reduceBEq,p0_,p1_,p2_,p3_,p4_,p5_,p6_,p7_,p8_,p9_,p10_,p11_,p12_]
 intro D t w hall hI
 obtain ⟨v11,v13,v15,O,ht,hs⟩:=hI
 have p0_:=hall 0 (by decide)
 have p1_:=hall 1 (by decide)
 have p2_:=hall 2 (by decide)
 have p3_:=hall 3 (by decide)
 have p4_:=hall 4 (by decide)
 have p5_:=hall 5 (by decide)
 have p6_:=hall 6 (by decide)
 have p7_:=hall 7 (by decide)
 have p8_:=hall 8 (by decide)
 have p9_:=hall 9 (by decide)
 have p10_:=hall 10 (by decide)
 have p11_:=hall 11 (by decide)
 have p12_:=hall 12 (by decide)
 have p13_:=hall 13 (by decide)
 simp only [p0_,p1_,p2_,p3_,p4_,p5_,p6_,p7_,p8_,p9_,p10_,p11_,p12_,p13_,cq,oT] at ht hs
 subst ht
 obtain rfl:=QsJ H
 refine Qax Tryz.func37 (v:=agg (([int .i8 a1.Qac,int .i8 a1.Qae,v15]:List Value)).toArray) (resC rfl ⟨⟨_,rfl,(run_loadVar_agg (es:=(([int .i8 a1.Qac,int .i8 a1.Qae,v15]:List Value))) rfl rfl (cells_all (hs.cells 2 rfl)))⟩,trivial⟩) ?_
 have hs:=hs.pull 0 rfl
 have hs:St _ [_] _:=St.take (Γ':=[_,_,_]) hs
 exact ⟨_,rfl,v15,rfl,hs⟩
end Go.Proofs.YtdnipilfcjkfoaaGreatDoorX
