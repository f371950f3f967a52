import Derived.Test.YtgoninfjneepfaaGreatDoorP8
namespace Go.Proofs.YtgoninfjneepfaaGreatDoorX
open Go Go.RowKit Go.Proofs
open Go.Value (int pointer bool agg slice string tuple)
set_option maxHeartbeats 8000000
set_option maxRecDepth 100000
set_option linter.unusedVariables false
set_option linter.unusedSimpArgs false
def QaI.post (w0:World) (r:(Ar Int 4)) (v:Value) (w:World):Prop:=v=agg ((encA (encI .i16)) r).toArray∧St w0 [] w
theorem QaI.calls {N:Nat} {a1:(List Int)} {a3:(Ar Int 4)} {a4:Int} {v2:Value} {w0:World} {r:(Ar Int 4)} (hr0:RdRow (K.int .i16) w0 v2 a1) (H:QaI.f N a1 a3 a4=some r):
 Calls Tryz.prog 28 #[v2,agg ((encA (encI .i16)) a3).toArray,int .u8 a4] w0 fun e w=>∃ v,e= .returned v∧QaI.post w0 r v w:=by
 unfold QaI.f at H
 have hs:St w0 [] w0:=St.refl w0
 refine calls_of_g (n:=28) Tryz.func28 rfl rfl ?_
 show G _ _ _ _ [_,_,_,_,_,_,_,_,_,_,_,_,_,_,_,_,_,_,_,_,_,_,_,_,_,_,_,_,_,_,_] _
 refine Qad (Qag [0,1] rfl ?_)
 refine Qbq hs rfl rfl (cs:=((encA (encI .i16)) a3)) rfl rfl ?_
 intro b5 w hs
 refine Qa8 hs rfl rfl (z:=(agg #[int .i16 0,int .i16 0,int .i16 0,int .i16 0])) (cs:=((encA (encI .i16)) (Ar.rep 4 0))) rfl (fun _=>rfl) rfl ?_
 intro b7 w hs
 refine Qab (Qad (Qad (Qag [0] rfl ?_)))
 refine Qaa (v:=int .i64 0) rfl rfl rfl ?_
 show G _ _ _ _ [_,_,_,_,_,_,_,_,_,_,_,_,_,_,_,_,_,_,_,_,_,_,_,_,_,_,_,_,_,_,_] _
 refine Qab ?_
 obtain ⟨o1_,Ho,Hr1_⟩:=bind_get H
 refine Qax (J:=fun t w=>∃ x14:(Ar Int 4),QaI.a0 N x14=some r∧Fr t (fun O=>([O 0,O 1,O 2,O 3,pointer (some ⟨b5,0,none⟩),O 5,pointer (some ⟨b7,0,none⟩),O 7,O 8,O 9,O 10,O 11,O 12,O 13,O 14,O 15,O 16,O 17,O 18,O 19,O 20,O 21,O 22,O 23,O 24,O 25,O 26,O 27,O 28,O 29,O 30]:List Value))∧St w0 [Cells b5 ((encA (encI .i16)) x14) 28,Cells b7 ((encA (encI .i16)) (Ar.rep 4 0)) 28] w) ?_ ?_
 ·
  rintro t w ⟨x14,H,hf,hs⟩
  obtain ⟨O,rfl⟩:=hf.open
  show G _ _ _ _ [_,_,_,_,_,_,_,_,_,_,_,_,_,_,_,_,_,_,_,_,_,_,_,_,_,_,_,_,_,_,_] _
  unfold QaI.a0 at H
  refine Qad (Qag [0,1] rfl ?_)
  refine QaG rfl rfl (es:=((encA (encI .i16)) x14)) rfl rfl (fun _=>rfl) (n:=4) (fun _=>rfl) ((fkA (n:=4) (he:=(fkI .i16).len) (h1:=(fkI .i16).one)).len _) (cells_all (hs.cells 0 rfl)) ?_
  have hs:St _ [_,_] _:=hs.pull 1 rfl
  refine QaH (n:=4) hs ((fkA (n:=4) (he:=(fkI .i16).len) (h1:=(fkI .i16).one)).len _) rfl rfl (vs:=((encA (encI .i16)) x14)) rfl rfl rfl (fun _=>rfl) ((fkA (n:=4) (he:=(fkI .i16).len) (h1:=(fkI .i16).one)).len _) ((fkA (n:=4) (he:=(fkI .i16).len) (h1:=(fkI .i16).one)).one _) ?_
  intro w hs
  refine Qab ?_
  obtain rfl:=QsJ H
  refine Qas Tryz.func28 (v:=agg ((encA (encI .i16)) x14).toArray) (resC rfl ⟨⟨_,rfl,(run_loadVar_agg (es:=((encA (encI .i16)) x14)) rfl (congrArg (Result.ok · _) ((fkA (n:=4) (he:=(fkI .i16).len) (h1:=(fkI .i16).one)).len _).symm) (cells_all (hs.cells 0 rfl)))⟩,trivial⟩) ?_
  have hs:St _ [] _:=St.take (Γ':=[_,_]) hs
  exact ⟨_,rfl,rfl,hs⟩
 intro ha1_
 have hs:=hs.pull 0 rfl
 have hs:=hs.pull 1 rfl
 have hs:St _ [_,_] _:=St.take (Γ':=[]) hs
 refine QaL (I:=fun n_ t w=>∃ x11:(Ar Int 4),∃ x12:Int,rounds (fun s=>QaI.b0 N a1 a4 s.1 s.2) n_ (x11,x12)=some o1_∧Fr t (fun O=>([v2,O 1,int .u8 a4,O 3,pointer (some ⟨b5,0,none⟩),O 5,pointer (some ⟨b7,0,none⟩),int .i64 x12,O 8,O 9,O 10,O 11,O 12,O 13,O 14,O 15,O 16,O 17,O 18,O 19,O 20,O 21,O 22,O 23,O 24,O 25,O 26,O 27,O 28,O 29,O 30]:List Value))∧St w0 [Cells b5 ((encA (encI .i16)) x11) 28,Cells b7 ((encA (encI .i16)) (Ar.rep 4 0)) 28] w) N ⟨a3,0,Ho,rfl,hs⟩ ?_ ?_
 ·
  rintro _ _ ⟨x11,x12,h,_⟩
  exact rounds_zero h
 intro n_ ih1_
 rintro t w ⟨x11,x12,Ho,hf,hs⟩
 obtain ⟨O,rfl⟩:=hf.open
 show G _ _ _ _ [_,_,_,_,_,_,_,_,_,_,_,_,_,_,_,_,_,_,_,_,_,_,_,_,_,_,_,_,_,_,_] _
 obtain ⟨x11_,H,Hx1_⟩:=rounds_succ Ho
 have H:QaI.b0 N a1 a4 x11 x12=some x11_:=H
 unfold QaI.b0 at H
 refine Qad (Qad (Qag [0,1,2,3] rfl ?_))
 refine Qaa (v:=int .i64 x12) rfl rfl rfl ?_
 refine Qaa (v:=v2) rfl rfl rfl ?_
 refine Qbc (hs.rd hr0) rfl rfl rfl rfl rfl ?_
 refine Qap (B:=decide (x12< (a1.length:Int))) rfl rfl rfl ?_ ?_
 ·
  intro hb
  rw [if_pos (b_dec_t hb)] at H
  show G _ _ _ _ [_,_,_,_,_,_,_,_,_,_,_,_,_,_,_,_,_,_,_,_,_,_,_,_,_,_,_,_,_,_,_] _
  refine Qab (Qah rfl (Qay (Qad ?_)))
  refine Qax (J:=(fun t w=>∃ x13:(Ar Int 4),QaI.j2 N x12 x13=some x11_∧Fr t (fun O=>([v2,O 1,int .u8 a4,O 3,pointer (some ⟨b5,0,none⟩),O 5,pointer (some ⟨b7,0,none⟩),int .i64 x12,O 8,O 9,O 10,O 11,O 12,O 13,O 14,O 15,O 16,O 17,O 18,O 19,O 20,O 21,O 22,O 23,O 24,O 25,O 26,O 27,O 28,O 29,O 30]:List Value))∧St w0 [Cells b5 ((encA (encI .i16)) x13) 28,Cells b7 ((encA (encI .i16)) (Ar.rep 4 0)) 28] w)) ?_ ?_
  ·
   rintro t w ⟨x13,H,hf,hs⟩
   obtain ⟨O,rfl⟩:=hf.open
   show G _ _ _ _ [_,_,_,_,_,_,_,_,_,_,_,_,_,_,_,_,_,_,_,_,_,_,_,_,_,_,_,_,_,_,_] _
   unfold QaI.j2 at H
   refine Qag [0,1,2] rfl ?_
   refine Qaa (v:=int .i64 x12) rfl rfl rfl ?_
   refine Qaa (v:=int .i64 (i64w (x12+1))) rfl rfl rfl ?_
   show G _ _ _ _ [_,_,_,_,_,_,_,_,_,_,_,_,_,_,_,_,_,_,_,_,_,_,_,_,_,_,_,_,_,_,_] _
   refine Qaa (v:=int .i64 (i64w (x12+1))) rfl rfl rfl (Qab ?_)
   obtain rfl:=QsJ H
   have hs:=hs.pull 1 rfl
   have hs:=hs.pull 1 rfl
   have hs:St _ [_,_] _:=St.take (Γ':=[]) hs
   exact ih1_ _ _ ⟨x13,i64w (x12+1),Hx1_,rfl,hs⟩
  intro ha
  refine Qad (Qag [0,1,2,3,4,5] rfl ?_)
  refine Qaa (v:=int .u8 a4) rfl rfl rfl ?_
  refine Qaa (v:=int .i64 x12) rfl rfl rfl ?_
  refine Qaa (v:=int .u64 (u64w x12)) rfl rfl rfl ?_
  obtain ⟨g6,H⟩:=ite_get H
  refine Qaa (v:=int .u8 (shrI .u8 a4 (u64w x12))) rfl rfl (QcC rfl rfl rfl g6) ?_
  refine Qaa (v:=int .u8 ((shrI .u8 a4 (u64w x12)).tmod 2)) rfl rfl rfl ?_
  refine Qap (B:=((shrI .u8 a4 (u64w x12)).tmod 2)==1) rfl rfl rfl ?_ ?_
  ·
   intro hb
   rw [if_pos (b_beq_t hb)] at H
   refine Qab (Qah rfl ?_)
   obtain ⟨gd7,H⟩:=ite_get H
   obtain ⟨ad8_,ad8_N,ad8_C,had8_⟩:=sl_at (hs.rd hr0) gd7.1 gd7.2
   obtain ⟨gd9,H⟩:=ite_get H
   obtain ⟨gd10,H⟩:=ite_get H
   refine Qbe ?_
   intro T hT
   refine QbM (n:=11) rfl [0,1,2,3,4,5,6,7,8,9,10] [0,1,2,3,4,5,6,7,8,9,10] rfl rfl (Inv:=fun D t w=>∃ O:Nat→Value,t=[v2,O 1,int .u8 a4,O 3,pointer (some ⟨b5,0,none⟩),O 5,pointer (some ⟨b7,0,none⟩),int .i64 x12,int .i64 x12,v2,int .i64 (a1.length:Int),bool true,O 12,O 13,int .u8 a4,int .i64 x12,int .u64 (u64w x12),int .u8 (shrI .u8 a4 (u64w x12)),int .u8 ((shrI .u8 a4 (u64w x12)).tmod 2),bool true,cnd (D 0) (int .i64 x12) (O 20),cnd (D 1) v2 (O 21),cnd (D 2) (int .i64 x12) (O 22),cnd (D 3) (pointer (some (ad8_.add (x12.toNat*1)))) (O 23),cnd (D 4) (int .i16 (rdL a1 x12 0)) (O 24),cnd (D 5) (int .i64 x12) (O 25),cnd (D 6) (pointer (some ⟨b5,0+x12.toNat*1,none⟩)) (O 26),cnd (D 7) (int .i16 (x11.get x12 0)) (O 27),cnd (D 8) (int .i16 (i16w ((rdL a1 x12 0) - (x11.get x12 0)))) (O 28),cnd (D 9) (pointer (some ⟨b5,0+x12.toNat*1,none⟩)) (O 29),O 30]∧St w0 [Cells b5 (cnd (D 10) ((encA (encI .i16)) (x11.set x12 (i16w ((rdL a1 x12 0) - (x11.get x12 0))))) ((encA (encI .i16)) x11)) 28,Cells b7 ((encA (encI .i16)) (Ar.rep 4 0)) 28] w) ?_ ⟨⟨⟨⟨⟨⟨⟨⟨⟨⟨⟨trivial,?_⟩,?_⟩,?_⟩,?_⟩,?_⟩,?_⟩,?_⟩,?_⟩,?_⟩,?_⟩,?_⟩ ?_
   ·
    intro w hh hbw
    have hs:=hs.samew hh hbw
    exact ⟨fun i=>T.getD i undef,(by subst hT;rfl),hs⟩
   ·
    rintro D t w hD hp hcl ⟨O,ht,hs⟩ rest hk
    have q9_:=nz hcl 9 0 hD
    have q10_:=nz hcl 10 0 q9_
    simp only [hD,q9_,q10_,cq,oT] at ht hs
    subst ht
    refine Qaa (v:=int .i64 x12) rfl rfl rfl ?_
    show G _ _ _ _ [_,_,_,_,_,_,_,_,_,_,_,_,_,_,_,_,_,_,_,_,_,_,_,_,_,_,_,_,_,_,_] _
    refine hk _ _ ⟨O,?_,hs.cast ?_⟩<;>simp only [oT,lq,cq,Nat.reduceBEq,q9_,q10_]
   ·
    rintro D t w hD hp hcl ⟨O,ht,hs⟩ rest hk
    have q3_:=nz hcl 3 0 hD
    have q4_:=nz hcl 4 0 q3_
    have q8_:=nz hcl 8 0 q4_
    have q9_:=nz hcl 9 2 hD
    have q10_:=nz hcl 10 0 q9_
    simp only [hD,q3_,q4_,q8_,q9_,q10_,cq,oT] at ht hs
    subst ht
    refine Qaa (v:=v2) rfl rfl rfl ?_
    show G _ _ _ _ [_,_,_,_,_,_,_,_,_,_,_,_,_,_,_,_,_,_,_,_,_,_,_,_,_,_,_,_,_,_,_] _
    refine hk _ _ ⟨O,?_,hs.cast ?_⟩<;>simp only [oT,lq,cq,Nat.reduceBEq,q3_,q4_,q8_,q9_,q10_]
   ·
    rintro D t w hD hp hcl ⟨O,ht,hs⟩ rest hk
    have q3_:=nz hcl 3 1 hD
    have q4_:=nz hcl 4 0 q3_
    have q8_:=nz hcl 8 0 q4_
    have q9_:=nz hcl 9 3 hD
    have q10_:=nz hcl 10 0 q9_
    simp only [hD,q3_,q4_,q8_,q9_,q10_,cq,oT] at ht hs
    subst ht
    refine Qaa (v:=int .i64 x12) rfl rfl rfl ?_
    show G _ _ _ _ [_,_,_,_,_,_,_,_,_,_,_,_,_,_,_,_,_,_,_,_,_,_,_,_,_,_,_,_,_,_,_] _
    refine hk _ _ ⟨O,?_,hs.cast ?_⟩<;>simp only [oT,lq,cq,Nat.reduceBEq,q3_,q4_,q8_,q9_,q10_]
   ·
    rintro D t w hD hp hcl ⟨O,ht,hs⟩ rest hk
    obtain ⟨p1_,p2_,_⟩:=hp
    have q4_:=nz hcl 4 0 hD
    have q8_:=nz hcl 8 0 q4_
    have q9_:=nz hcl 9 4 hD
    have q10_:=nz hcl 10 0 q9_
    simp only [hD,p1_,p2_,q4_,q8_,q9_,q10_,cq,oT] at ht hs
    subst ht
    refine Qby (κ:=(K.int .i16)) (m:=1) rfl (hs.rd hr0) rfl (fun _=>rfl) gd7.1 gd7.2 had8_ rfl rfl rfl rfl rfl ?_
    show G _ _ _ _ [_,_,_,_,_,_,_,_,_,_,_,_,_,_,_,_,_,_,_,_,_,_,_,_,_,_,_,_,_,_,_] _
    refine hk _ _ ⟨O,?_,hs.cast ?_⟩<;>simp only [oT,lq,cq,Nat.reduceBEq,p1_,p2_,q4_,q8_,q9_,q10_]
   ·
    rintro D t w hD hp hcl ⟨O,ht,hs⟩ rest hk
    obtain ⟨p3_,_⟩:=hp
    obtain ⟨p1_,p2_,_⟩:=(hcl.get 3 (by decide)) p3_
    have q8_:=nz hcl 8 0 hD
    have q9_:=nz hcl 9 5 hD
    have q10_:=nz hcl 10 0 q9_
    simp only [hD,p1_,p2_,p3_,q8_,q9_,q10_,cq,oT] at ht hs
    subst ht
    refine Qat rfl rfl (v:=int .i16 (rdL a1 x12 0)) rfl rfl (fun _=>rfl) (cellsAt_of (fkI .i16) 0 (hs.rd hr0) had8_ gd7.1 gd7.2) ?_
    show G _ _ _ _ [_,_,_,_,_,_,_,_,_,_,_,_,_,_,_,_,_,_,_,_,_,_,_,_,_,_,_,_,_,_,_] _
    refine hk _ _ ⟨O,?_,hs.cast ?_⟩<;>simp only [oT,lq,cq,Nat.reduceBEq,p1_,p2_,p3_,q8_,q9_,q10_]
   ·
    rintro D t w hD hp hcl ⟨O,ht,hs⟩ rest hk
    have q6_:=nz hcl 6 0 hD
    have q7_:=nz hcl 7 0 q6_
    have q8_:=nz hcl 8 1 q7_
    have q9_:=nz hcl 9 6 hD
    have q10_:=nz hcl 10 0 q9_
    simp only [hD,q6_,q7_,q8_,q9_,q10_,cq,oT] at ht hs
    subst ht
    refine Qaa (v:=int .i64 x12) rfl rfl rfl ?_
    show G _ _ _ _ [_,_,_,_,_,_,_,_,_,_,_,_,_,_,_,_,_,_,_,_,_,_,_,_,_,_,_,_,_,_,_] _
    refine hk _ _ ⟨O,?_,hs.cast ?_⟩<;>simp only [oT,lq,cq,Nat.reduceBEq,q6_,q7_,q8_,q9_,q10_]
   ·
    rintro D t w hD hp hcl ⟨O,ht,hs⟩ rest hk
    obtain ⟨p5_,_⟩:=hp
    have q7_:=nz hcl 7 0 hD
    have q8_:=nz hcl 8 1 q7_
    have q9_:=nz hcl 9 7 hD
    have q10_:=nz hcl 10 0 q9_
    simp only [hD,p5_,q7_,q8_,q9_,q10_,cq,oT] at ht hs
    subst ht
    refine Qbp (n:=x12) (m:=1) rfl (fun _=>rfl) gd9.1 gd9.2 rfl rfl rfl rfl rfl ?_
    show G _ _ _ _ [_,_,_,_,_,_,_,_,_,_,_,_,_,_,_,_,_,_,_,_,_,_,_,_,_,_,_,_,_,_,_] _
    refine hk _ _ ⟨O,?_,hs.cast ?_⟩<;>simp only [oT,lq,cq,Nat.reduceBEq,p5_,q7_,q8_,q9_,q10_]
   ·
    rintro D t w hD hp hcl ⟨O,ht,hs⟩ rest hk
    obtain ⟨p6_,_⟩:=hp
    obtain ⟨p5_,_⟩:=(hcl.get 6 (by decide)) p6_
    have q8_:=nz hcl 8 1 hD
    have q9_:=nz hcl 9 8 hD
    have q10_:=nz hcl 10 0 q9_
    simp only [hD,p5_,p6_,q8_,q9_,q10_,cq,oT] at ht hs
    subst ht
    refine Qat rfl rfl (v:=int .i16 (x11.get x12 0)) rfl rfl (fun _=>rfl) (by rw [Nat.zero_add];exact cells_load (hs.cells 0 rfl) _ _ (encA_at (fkI .i16).len _ _ 0 gd9.1 gd9.2)) ?_
    show G _ _ _ _ [_,_,_,_,_,_,_,_,_,_,_,_,_,_,_,_,_,_,_,_,_,_,_,_,_,_,_,_,_,_,_] _
    refine hk _ _ ⟨O,?_,hs.cast ?_⟩<;>simp only [oT,lq,cq,Nat.reduceBEq,p5_,p6_,q8_,q9_,q10_]
   ·
    rintro D t w hD hp hcl ⟨O,ht,hs⟩ rest hk
    obtain ⟨p4_,p7_,_⟩:=hp
    obtain ⟨p6_,_⟩:=(hcl.get 7 (by decide)) p7_
    obtain ⟨p5_,_⟩:=(hcl.get 6 (by decide)) p6_
    obtain ⟨p3_,_⟩:=(hcl.get 4 (by decide)) p4_
    obtain ⟨p1_,p2_,_⟩:=(hcl.get 3 (by decide)) p3_
    have q9_:=nz hcl 9 9 hD
    have q10_:=nz hcl 10 0 q9_
    simp only [hD,p1_,p2_,p3_,p4_,p5_,p6_,p7_,q9_,q10_,cq,oT] at ht hs
    subst ht
    refine Qaa (v:=int .i16 (i16w ((rdL a1 x12 0) - (x11.get x12 0)))) rfl rfl rfl ?_
    show G _ _ _ _ [_,_,_,_,_,_,_,_,_,_,_,_,_,_,_,_,_,_,_,_,_,_,_,_,_,_,_,_,_,_,_] _
    refine hk _ _ ⟨O,?_,hs.cast ?_⟩<;>simp only [oT,lq,cq,Nat.reduceBEq,p1_,p2_,p3_,p4_,p5_,p6_,p7_,q9_,q10_]
   ·
    rintro D t w hD hp hcl ⟨O,ht,hs⟩ rest hk
    obtain ⟨p0_,_,p1_,p2_,p3_,p4_,p5_,p6_,p7_,p8_,_⟩:=hp
    have q10_:=nz hcl 10 0 hD
    simp only [hD,p0_,p1_,p2_,p3_,p4_,p5_,p6_,p7_,p8_,q10_,cq,oT] at ht hs
    subst ht
    refine Qbp (n:=x12) (m:=1) rfl (fun _=>rfl) gd10.1 gd10.2 rfl rfl rfl rfl rfl ?_
    show G _ _ _ _ [_,_,_,_,_,_,_,_,_,_,_,_,_,_,_,_,_,_,_,_,_,_,_,_,_,_,_,_,_,_,_] _
    refine hk _ _ ⟨O,?_,hs.cast ?_⟩<;>simp only [oT,lq,cq,Nat.reduceBEq,p0_,p1_,p2_,p3_,p4_,p5_,p6_,p7_,p8_,q10_]
   ·
    rintro D t w hD hp hcl ⟨O,ht,hs⟩ rest hk
    obtain ⟨p9_,p8_,p0_,p1_,p2_,p3_,p4_,p5_,p6_,p7_,_,_⟩:=hp
    simp only [hD,p0_,p1_,p2_,p3_,p4_,p5_,p6_,p7_,p8_,p9_,cq,oT] at ht hs
    subst ht
    refine QbN (y:=i16w ((rdL a1 x12 0) - (x11.get x12 0))) (fkI .i16).len (fkI .i16).one gd10.1 gd10.2 hs rfl rfl rfl rfl rfl (fun _=>rfl) ?_
    intro w hs
    show G _ _ _ _ [_,_,_,_,_,_,_,_,_,_,_,_,_,_,_,_,_,_,_,_,_,_,_,_,_,_,_,_,_,_,_] _
    have hs:=hs.push 0 (by simp)
    refine hk _ _ ⟨O,?_,hs.cast ?_⟩<;>simp only [oT,lq,cq,Nat.reduceBEq,p0_,p1_,p2_,p3_,p4_,p5_,p6_,p7_,p8_,p9_]
   intro D t w hall hI
   obtain ⟨O,ht,hs⟩:=hI
   have p0_:=hall 0 (by decide)
   have p1_:=hall 1 (by decide)
   have p2_:=hall 2 (by decide)
   have p3_:=hall 3 (by decide)
   have p4_:=hall 4 (by decide)
   have p5_:=hall 5 (by decide)
   have p6_:=hall 6 (by decide)
   have p7_:=hall 7 (by decide)
   have p8_:=hall 8 (by decide)
   have p9_:=hall 9 (by decide)
   have p10_:=hall 10 (by decide)
   simp only [p0_,p1_,p2_,p3_,p4_,p5_,p6_,p7_,p8_,p9_,p10_,cq,oT] at ht hs
   subst ht
   refine QaE ?_
   have hs:=hs.pull 1 rfl
   have hs:=hs.pull 1 rfl
   have hs:St _ [_,_] _:=St.take (Γ':=[]) hs
   exact ha _ _ ⟨x11.set x12 (i16w ((rdL a1 x12 0) - (x11.get x12 0))),H,rfl,hs⟩
  intro hb
  rw [if_neg (b_beq_f hb)] at H
  show G _ _ _ _ [_,_,_,_,_,_,_,_,_,_,_,_,_,_,_,_,_,_,_,_,_,_,_,_,_,_,_,_,_,_,_] _
  refine Qab (Qal rfl (Qay ?_))
  refine QaE ?_
  have hs:=hs.pull 1 rfl
  have hs:=hs.pull 1 rfl
  have hs:St _ [_,_] _:=St.take (Γ':=[]) hs
  exact ha _ _ ⟨x11,H,rfl,hs⟩
 intro hb
 rw [if_neg (b_dec_f hb)] at H
 refine Qab (Qal rfl ?_)
 obtain rfl:=QsJ H
 subst Hx1_
 have hs:=hs.pull 1 rfl
 have hs:=hs.pull 1 rfl
 have hs:St _ [_,_] _:=St.take (Γ':=[]) hs
 refine Qa7 rfl ?_
 exact ha1_ _ _ ⟨x11,Hr1_,rfl,hs⟩
def Qbo.post (w0:World) (r:((Ar Int 4)×Int)) (v:Value) (w:World):Prop:=v=tuple #[agg ((encA (encI .i16)) r.1).toArray,int .i64 r.2]∧St w0 [] w
theorem Qbo.calls {N:Nat} {a1:(List Int)} {a3:(Ar Int 4)} {a4:Int} {v2:Value} {w0:World} {r:((Ar Int 4)×Int)} (hr0:RdRow (K.int .i16) w0 v2 a1) (H:Qbo.f N a1 a3 a4=some r):
 Calls Tryz.prog 8 #[v2,agg ((encA (encI .i16)) a3).toArray,int .u8 a4] w0 fun e w=>∃ v,e= .returned v∧Qbo.post w0 r v w:=by
 unfold Qbo.f at H
 have hs:St w0 [] w0:=St.refl w0
 refine calls_of_g (n:=20) Tryz.func8 rfl rfl ?_
 show G _ _ _ _ [_,_,_,_,_,_,_,_,_,_,_,_,_,_,_,_,_,_,_,_,_,_,_] _
 refine Qad (Qag [0,1,2] rfl ?_)
 refine Qbq hs rfl rfl (cs:=((encA (encI .i16)) a3)) rfl rfl ?_
 intro b5 w hs
 show G _ _ _ _ [_,_,_,_,_,_,_,_,_,_,_,_,_,_,_,_,_,_,_,_,_,_,_] _
 refine Qa8 hs rfl rfl (z:=(agg #[int .i16 0,int .i16 0,int .i16 0,int .i16 0])) (cs:=((encA (encI .i16)) (Ar.rep 4 0))) rfl (fun _=>rfl) rfl ?_
 intro b7 w hs
 refine Qaa (v:=int .i64 0) rfl rfl rfl (Qab (Qad (Qad (Qag [0,1,2,3] rfl ?_))))
 refine Qaa (v:=v2) rfl rfl rfl ?_
 show G _ _ _ _ [_,_,_,_,_,_,_,_,_,_,_,_,_,_,_,_,_,_,_,_,_,_,_] _
 refine QaG rfl rfl (es:=((encA (encI .i16)) a3)) rfl rfl (fun _=>rfl) (n:=4) (fun _=>rfl) ((fkA (n:=4) (he:=(fkI .i16).len) (h1:=(fkI .i16).one)).len _) (cells_all (hs.cells 1 rfl)) ?_
 obtain ⟨r9,Hr9,H⟩:=bind_get H
 refine QaB (args:=[v2,agg ((encA (encI .i16)) a3).toArray]) rfl rfl (QaC rfl (callFunc_enter Tryz.func26 rfl rfl) rfl) (QaY.calls (a1:=a1) (a3:=a3) (hs.rd hr0) Hr9) ?_
 rintro _ w ⟨rfl,hs2⟩
 have hs:St _ [_,_] _:=hs.call hs2
 cases r9 with
 |true=>
  rw [if_pos rfl] at H
  refine Qaa (v:=bool false) rfl rfl rfl ?_
  show G _ _ _ _ [_,_,_,_,_,_,_,_,_,_,_,_,_,_,_,_,_,_,_,_,_,_,_] _
  refine Qab (Qal rfl (Qay (Qad (Qad (Qag [0,1,2,3,4] rfl ?_)))))
  refine Qaa (v:=int .u8 a4) rfl rfl rfl ?_
  refine Qaa (v:=int .i64 (i64w a4)) rfl rfl rfl ?_
  refine Qaa (v:=v2) rfl rfl rfl ?_
  show G _ _ _ _ [_,_,_,_,_,_,_,_,_,_,_,_,_,_,_,_,_,_,_,_,_,_,_] _
  obtain ⟨r10,Hr10,H⟩:=bind_get H
  refine QaB (args:=[v2]) rfl rfl (QaC rfl (callFunc_enter Tryz.func27 rfl rfl) rfl) (Qbt.calls (a1:=a1) (hs.rd hr0) Hr10) ?_
  rintro _ w ⟨rfl,hs2⟩
  have hs:St _ [_,_] _:=hs.call hs2
  refine Qap (B:=decide ((i64w a4)≥r10)) rfl rfl rfl ?_ ?_
  ·
   intro hb
   rw [if_pos (b_dec_t hb)] at H
   refine Qab (Qah rfl (Qad (Qag [0,1,2] rfl ?_)))
   refine Qaa (v:=agg ((encA (encI .i16)) (Ar.rep 4 0)).toArray) rfl rfl (QbK rfl rfl) ?_
   refine QaH (n:=4) hs ((fkA (n:=4) (he:=(fkI .i16).len) (h1:=(fkI .i16).one)).len _) rfl rfl (vs:=((encA (encI .i16)) (Ar.rep 4 0))) rfl rfl rfl (fun _=>rfl) ((fkA (n:=4) (he:=(fkI .i16).len) (h1:=(fkI .i16).one)).len _) ((fkA (n:=4) (he:=(fkI .i16).len) (h1:=(fkI .i16).one)).one _) ?_
   intro w hs
   refine Qaa (v:=int .i64 2) rfl rfl rfl ?_
   show G _ _ _ _ [_,_,_,_,_,_,_,_,_,_,_,_,_,_,_,_,_,_,_,_,_,_,_] _
   refine Qab ?_
   obtain rfl:=QsJ H
   refine Qas Tryz.func8 (v:=tuple #[agg ((encA (encI .i16)) (Ar.rep 4 0)).toArray,int .i64 2]) (resN (l:=Tryz.f8.results.toList) (vs:=[agg ((encA (encI .i16)) (Ar.rep 4 0)).toArray,int .i64 2]) rfl ⟨⟨_,rfl,(run_loadVar_agg (es:=((encA (encI .i16)) (Ar.rep 4 0))) rfl (congrArg (Result.ok · _) ((fkA (n:=4) (he:=(fkI .i16).len) (h1:=(fkI .i16).one)).len _).symm) (cells_all (hs.cells 0 rfl)))⟩,rfl,trivial⟩ (by simp)) ?_
   have hs:St _ [] _:=St.take (Γ':=[_,_]) hs
   exact ⟨_,rfl,rfl,hs⟩
  intro hb
  rw [if_neg (b_dec_f hb)] at H
  refine Qab (Qal rfl (Qay (Qad (Qag [0,1,2,3,4,5] rfl ?_))))
  refine Qaa (v:=v2) rfl rfl rfl ?_
  show G _ _ _ _ [_,_,_,_,_,_,_,_,_,_,_,_,_,_,_,_,_,_,_,_,_,_,_] _
  refine QaG rfl rfl (es:=((encA (encI .i16)) a3)) rfl rfl (fun _=>rfl) (n:=4) (fun _=>rfl) ((fkA (n:=4) (he:=(fkI .i16).len) (h1:=(fkI .i16).one)).len _) (cells_all (hs.cells 1 rfl)) ?_
  refine Qaa (v:=int .u8 a4) rfl rfl rfl ?_
  obtain ⟨r11,Hr11,H⟩:=bind_get H
  refine QaB (args:=[v2,agg ((encA (encI .i16)) a3).toArray,int .u8 a4]) rfl rfl (QaC rfl (callFunc_enter Tryz.func28 rfl rfl) rfl) (QaI.calls (a1:=a1) (a3:=a3) (a4:=a4) (hs.rd hr0) Hr11) ?_
  rintro _ w ⟨rfl,hs2⟩
  have hs:St _ [_,_] _:=hs.call hs2
  show G _ _ _ _ [_,_,_,_,_,_,_,_,_,_,_,_,_,_,_,_,_,_,_,_,_,_,_] _
  refine QaH (n:=4) hs ((fkA (n:=4) (he:=(fkI .i16).len) (h1:=(fkI .i16).one)).len _) rfl rfl (vs:=((encA (encI .i16)) r11)) rfl rfl rfl (fun _=>rfl) ((fkA (n:=4) (he:=(fkI .i16).len) (h1:=(fkI .i16).one)).len _) ((fkA (n:=4) (he:=(fkI .i16).len) (h1:=(fkI .i16).one)).one _) ?_
  intro w hs
  refine Qaa (v:=int .i64 0) rfl rfl rfl (Qab ?_)
  obtain rfl:=QsJ H
  refine Qas Tryz.func8 (v:=tuple #[agg ((encA (encI .i16)) r11).toArray,int .i64 0]) (resN (l:=Tryz.f8.results.toList) (vs:=[agg ((encA (encI .i16)) r11).toArray,int .i64 0]) rfl ⟨⟨_,rfl,(run_loadVar_agg (es:=((encA (encI .i16)) r11)) rfl (congrArg (Result.ok · _) ((fkA (n:=4) (he:=(fkI .i16).len) (h1:=(fkI .i16).one)).len _).symm) (cells_all (hs.cells 0 rfl)))⟩,rfl,trivial⟩ (by simp)) ?_
  have hs:St _ [] _:=St.take (Γ':=[_,_]) hs
  exact ⟨_,rfl,rfl,hs⟩
 |false=>
  rw [if_neg Bool.false_ne_true] at H
  refine Qaa (v:=bool true) rfl rfl rfl ?_
  show G _ _ _ _ [_,_,_,_,_,_,_,_,_,_,_,_,_,_,_,_,_,_,_,_,_,_,_] _
  refine Qab (Qah rfl (Qad (Qag [0,1,2] rfl ?_)))
  refine Qaa (v:=agg ((encA (encI .i16)) (Ar.rep 4 0)).toArray) rfl rfl (QbK rfl rfl) ?_
  refine QaH (n:=4) hs ((fkA (n:=4) (he:=(fkI .i16).len) (h1:=(fkI .i16).one)).len _) rfl rfl (vs:=((encA (encI .i16)) (Ar.rep 4 0))) rfl rfl rfl (fun _=>rfl) ((fkA (n:=4) (he:=(fkI .i16).len) (h1:=(fkI .i16).one)).len _) ((fkA (n:=4) (he:=(fkI .i16).len) (h1:=(fkI .i16).one)).one _) ?_
  intro w hs
  refine Qaa (v:=int .i64 1) rfl rfl rfl (Qab ?_)
  obtain rfl:=QsJ H
  refine Qas Tryz.func8 (v:=tuple #[agg ((encA (encI .i16)) (Ar.rep 4 0)).toArray,int .i64 1]) (resN (l:=Tryz.f8.results.toList) (vs:=[agg ((encA (encI .i16)) (Ar.rep 4 0)).toArray,int .i64 1]) rfl ⟨⟨_,rfl,(run_loadVar_agg (es:=((encA (encI .i16)) (Ar.rep 4 0))) rfl (congrArg (Result.ok · _) ((fkA (n:=4) (he:=(fkI .i16).len) (h1:=(fkI .i16).one)).len _).symm) (cells_all (hs.cells 0 rfl)))⟩,rfl,trivial⟩ (by simp)) ?_
  have hs:St _ [] _:=St.take (Γ':=[_,_]) hs
  exact ⟨_,rfl,rfl,hs⟩
def strconv_FormatInt.post (w0:World) (r:ByteArray) (v:Value) (w:World):Prop:=v=string r∧St w0 [] w
theorem strconv_FormatInt.calls {N : Nat} {a1 a2 : Int} {w0 : World} {r : ByteArray} (htab : Lib.TabIs Tryz.prog w0 "internal/strconv.uint64pow10" .u64 Lib.pow10Tab) (H : strconv_FormatInt.f N a1 a2 = some r) :
 Calls Tryz.prog 72 #[.int .i64 a1, .int .i64 a2] w0 fun e w=>∃ v,e= .returned v∧strconv_FormatInt.post w0 r v w:=by
 obtain ⟨⟨hg,e10⟩,H2⟩:=ite_get H
 subst e10
 obtain rfl:=QsJ H2
 exact (Tryz.strconv_FormatInt_10 a1 hg.1 hg.2 w0 htab).mono fun e w ⟨he,k,os,hw⟩=>⟨_,he,rfl,St.of_grow hw⟩
def Qbd.post (w0:World) (r:ByteArray) (v:Value) (w:World):Prop:=v=string r∧St w0 [] w
theorem Qbd.calls {N : Nat} {a1 : Int} {w0 : World} {r : ByteArray} (htab : Lib.TabIs Tryz.prog w0 "internal/strconv.uint64pow10" .u64 Lib.pow10Tab) (H : Qbd.f N a1 = some r) :
 Calls Tryz.prog 57 #[int .i64 a1] w0 fun e w=>∃ v,e= .returned v∧Qbd.post w0 r v w:=by
 unfold Qbd.f at H
 have hs:St w0 [] w0:=St.refl w0
 refine calls_of_g (n:=4) Tryz.func57 rfl rfl ?_
 show G _ _ _ _ [_,_,_,_,_] _
 refine Qad (Qag [0] rfl ?_)
 refine Qaa (v:=string (⟨#[]⟩:ByteArray)) rfl rfl rfl (Qab (Qad (Qag [0,1,2] rfl ?_)))
 refine Qaa (v:=int .i64 a1) rfl rfl rfl ?_
 obtain ⟨r2,Hr2,H⟩:=bind_get H
 refine QaB (args:=[int .i64 a1,int .i64 10]) rfl rfl (QaC rfl (callFunc_enter Tryz.func72 rfl rfl) rfl) (strconv_FormatInt.calls (a1:=a1) (a2:=10) (hs.tab htab) Hr2) ?_
 rintro _ w ⟨rfl,hs2⟩
 have hs:St _ [] _:=hs.call hs2
 show G _ _ _ _ [_,_,_,_,_] _
 refine Qaa (v:=string r2) rfl rfl rfl (Qab ?_)
 obtain rfl:=QsJ H
 refine Qas Tryz.func57 (v:=string r2) (res1 rfl rfl) ?_
 have hs:St _ [] _:=St.take (Γ':=[]) hs
 exact ⟨_,rfl,rfl,hs⟩
def QaT.post (w0:World) (r:(List ByteArray)) (v:Value) (w:World):Prop:=St w0 [Row 9 K.str v r] w
theorem QaT.calls {N : Nat} {a1 : (List Int)} {a3 : (List Int)} {v2 : Value} {v4 : Value} {w0 : World} {r : (List ByteArray)} (htab : Lib.TabIs Tryz.prog w0 "internal/strconv.uint64pow10" .u64 Lib.pow10Tab) (hr0 : RdRow (K.int .i16) w0 v2 a1) (hr1 : RdRow (K.int .i16) w0 v4 a3) (H : QaT.f N a1 a3 = some r) :
 Calls Tryz.prog 32 #[v2,v4] w0 fun e w=>∃ v,e= .returned v∧QaT.post w0 r v w:=by
 unfold QaT.f at H
 have hs:St w0 [] w0:=St.refl w0
 refine calls_of_g (n:=30) Tryz.func32 rfl rfl ?_
 show G _ _ _ _ [_,_,_,_,_,_,_,_,_,_,_,_,_,_,_,_,_,_,_,_,_,_,_,_,_,_,_,_,_,_,_,_] _
 refine Qad (Qag [0] rfl ?_)
 refine Qaa (v:=slice none 0 0) rfl rfl rfl (Qab (Qad (Qag [0,1] rfl ?_)))
 refine QbV (κ:=K.str) hs rfl rfl rfl rfl (fun _=>rfl) ?_
 intro v5 w hs
 show G _ _ _ _ [_,_,_,_,_,_,_,_,_,_,_,_,_,_,_,_,_,_,_,_,_,_,_,_,_,_,_,_,_,_,_,_] _
 refine Qaa (v:=v5) rfl rfl rfl (Qab (Qad (Qad (Qag [0,1,2] rfl ?_))))
 refine Qaa (v:=v4) rfl rfl rfl ?_
 refine Qbc (hs.rd hr1) rfl rfl rfl rfl rfl ?_
 refine Qaa (v:=int .i64 0) rfl rfl rfl (Qab ?_)
 obtain ⟨o1_,Ho,Hr1_⟩:=bind_get H
 refine Qax (J:=fun t w=>∃ v19:Value,∃ x20:(List ByteArray),QaT.a0 N x20=some r∧Fr t (fun O=>([O 0,O 1,O 2,O 3,O 4,v19,O 6,O 7,O 8,O 9,O 10,O 11,O 12,O 13,O 14,O 15,O 16,O 17,O 18,O 19,O 20,O 21,O 22,O 23,O 24,O 25,O 26,O 27,O 28,O 29,O 30,O 31]:List Value))∧St w0 [Row 9 K.str v19 x20] w) ?_ ?_
 ·
  rintro t w ⟨v19,x20,H,hf,hs⟩
  obtain ⟨O,rfl⟩:=hf.open
  show G _ _ _ _ [_,_,_,_,_,_,_,_,_,_,_,_,_,_,_,_,_,_,_,_,_,_,_,_,_,_,_,_,_,_,_,_] _
  unfold QaT.a0 at H
  refine Qad (Qag [0,1] rfl ?_)
  refine Qaa (v:=v19) rfl rfl rfl ?_
  refine Qaa (v:=v19) rfl rfl rfl (Qab ?_)
  obtain rfl:=QsJ H
  refine Qas Tryz.func32 (v:=v19) (res1 rfl rfl) ?_
  have hs:=hs.pull 0 rfl
  have hs:St _ [_] _:=St.take (Γ':=[]) hs
  exact ⟨_,rfl,hs⟩
 intro ha1_
 have hs:=hs.pull 0 rfl
 have hs:St _ [_] _:=St.take (Γ':=[]) hs
 refine QaL (I:=fun n_ t w=>∃ v8:Value,∃ x9:(List ByteArray),∃ x10:Int,rounds (fun s=>QaT.b0 N a3 a1 s.1 s.2) n_ (x9,x10)=some o1_∧Fr t (fun O=>([v2,O 1,O 2,O 3,O 4,v8,O 6,O 7,O 8,v4,int .i64 (a3.length:Int),int .i64 x10,O 12,O 13,O 14,O 15,O 16,O 17,O 18,O 19,O 20,O 21,O 22,O 23,O 24,O 25,O 26,O 27,O 28,O 29,O 30,O 31]:List Value))∧St w0 [Row 9 K.str v8 x9] w) N ⟨v5,([]:List ByteArray),0,Ho,rfl,hs⟩ ?_ ?_
 ·
  rintro _ _ ⟨v8,x9,x10,h,_⟩
  exact rounds_zero h
 intro n_ ih1_
 rintro t w ⟨v8,x9,x10,Ho,hf,hs⟩
 obtain ⟨O,rfl⟩:=hf.open
 show G _ _ _ _ [_,_,_,_,_,_,_,_,_,_,_,_,_,_,_,_,_,_,_,_,_,_,_,_,_,_,_,_,_,_,_,_] _
 obtain ⟨x5_,H,Hx1_⟩:=rounds_succ Ho
 have H:QaT.b0 N a3 a1 x9 x10=some x5_:=H
 unfold QaT.b0 at H
 refine Qad (Qag [0] rfl ?_)
 refine Qap (B:=decide (x10< (a3.length:Int))) rfl rfl rfl ?_ ?_
 ·
  intro hb
  rw [if_pos (b_dec_t hb)] at H
  refine Qab (Qad (Qah rfl (Qay (Qad ?_))))
  refine Qbh (Qad (Qag [0,1,2,3,4] rfl ?_))
  refine Qaa (v:=int .i64 x10) rfl rfl rfl ?_
  obtain ⟨g1,H⟩:=ite_get H
  refine Qbb (fkI .i16) 0 (hs.rd hr1) rfl (fun _=>rfl) g1.1 g1.2 rfl rfl rfl rfl rfl ?_
  intro p11 hp11 lp11 op11
  refine Qat rfl rfl (v:=int .i16 (rdL a3 x10 0)) rfl rfl (fun _=>rfl) hp11 ?_
  show G _ _ _ _ [_,_,_,_,_,_,_,_,_,_,_,_,_,_,_,_,_,_,_,_,_,_,_,_,_,_,_,_,_,_,_,_] _
  refine Qaa (v:=int .i64 x10) rfl rfl rfl ?_
  refine Qaa (v:=int .i16 (rdL a3 x10 0)) rfl rfl rfl (Qab (Qag [0,1,2,3,4,5,6,7,8,9,10,11,12,13,14] rfl ?_))
  refine Qaa (v:=v8) rfl rfl rfl ?_
  refine Qaa (v:=v2) rfl rfl rfl ?_
  refine Qaa (v:=int .i64 x10) rfl rfl rfl ?_
  obtain ⟨g2,H⟩:=ite_get H
  refine Qbb (fkI .i16) 0 (hs.rd hr0) rfl (fun _=>rfl) g2.1 g2.2 rfl rfl rfl rfl rfl ?_
  intro p12 hp12 lp12 op12
  show G _ _ _ _ [_,_,_,_,_,_,_,_,_,_,_,_,_,_,_,_,_,_,_,_,_,_,_,_,_,_,_,_,_,_,_,_] _
  refine Qat rfl rfl (v:=int .i16 (rdL a1 x10 0)) rfl rfl (fun _=>rfl) hp12 ?_
  refine Qaa (v:=int .i64 (i64w (rdL a1 x10 0))) rfl rfl rfl ?_
  obtain ⟨r13,Hr13,H⟩:=bind_get H
  refine QaB (args:=[int .i64 (i64w (rdL a1 x10 0))]) rfl rfl (QaC rfl (callFunc_enter Tryz.func57 rfl rfl) rfl) (Qbd.calls (a1:=i64w (rdL a1 x10 0)) (hs.tab htab) Hr13) ?_
  rintro _ w ⟨rfl,hs2⟩
  have hs:St _ [_] _:=hs.call hs2
  obtain ⟨gs3,H⟩:=ite_get H
  refine Qaa (v:=string (r13++(⟨#[47]⟩:ByteArray))) rfl rfl (QcB rfl rfl rfl gs3) ?_
  show G _ _ _ _ [_,_,_,_,_,_,_,_,_,_,_,_,_,_,_,_,_,_,_,_,_,_,_,_,_,_,_,_,_,_,_,_] _
  refine Qaa (v:=int .i16 (rdL a3 x10 0)) rfl rfl rfl ?_
  refine Qaa (v:=int .i64 (i64w (rdL a3 x10 0))) rfl rfl rfl ?_
  obtain ⟨r14,Hr14,H⟩:=bind_get H
  refine QaB (args:=[int .i64 (i64w (rdL a3 x10 0))]) rfl rfl (QaC rfl (callFunc_enter Tryz.func57 rfl rfl) rfl) (Qbd.calls (a1:=i64w (rdL a3 x10 0)) (hs.tab htab) Hr14) ?_
  rintro _ w ⟨rfl,hs2⟩
  have hs:St _ [_] _:=hs.call hs2
  obtain ⟨gs4,H⟩:=ite_get H
  refine Qaa (v:=string ((r13++(⟨#[47]⟩:ByteArray))++r14)) rfl rfl (QcB rfl rfl rfl gs4) ?_
  show G _ _ _ _ [_,_,_,_,_,_,_,_,_,_,_,_,_,_,_,_,_,_,_,_,_,_,_,_,_,_,_,_,_,_,_,_] _
  refine QbZ fkS (y:=(r13++(⟨#[47]⟩:ByteArray))++r14) hs rfl rfl rfl rfl (fun _=>rfl) (zv:=(string ⟨#[]⟩)) (fun _=>rfl) rfl (by decide) (by decide) rfl ?_
  intro v15 w hs
  show G _ _ _ _ [_,_,_,_,_,_,_,_,_,_,_,_,_,_,_,_,_,_,_,_,_,_,_,_,_,_,_,_,_,_,_,_] _
  have hs:St _ [_,_] _:=hs.pull 1 rfl
  obtain ⟨g,H⟩:=ite_get H
  refine QbU fkS (zv:=(string ⟨#[]⟩)) (B:=16) hs (hs.row 1 rfl) rfl rfl rfl rfl rfl rfl rfl rfl rfl (by decide) rfl rfl (by decide) (by omega) ?_
  intro v17 w hs
  refine Qaa (v:=v17) rfl rfl rfl (Qab ?_)
  refine QaE (Qag [0,1] rfl ?_)
  refine Qaa (v:=int .i64 (i64w (x10+1))) rfl rfl rfl ?_
  show G _ _ _ _ [_,_,_,_,_,_,_,_,_,_,_,_,_,_,_,_,_,_,_,_,_,_,_,_,_,_,_,_,_,_,_,_] _
  refine Qaa (v:=int .i64 (i64w (x10+1))) rfl rfl rfl (Qab ?_)
  obtain rfl:=QsJ H
  have hs:=hs.pull 0 rfl
  have hs:St _ [_] _:=St.take (Γ':=[_]) hs
  exact ih1_ _ _ ⟨v17,x9++([(r13++(⟨#[47]⟩:ByteArray))++r14]),i64w (x10+1),Hx1_,rfl,hs⟩
 intro hb
 rw [if_neg (b_dec_f hb)] at H
 show G _ _ _ _ [_,_,_,_,_,_,_,_,_,_,_,_,_,_,_,_,_,_,_,_,_,_,_,_,_,_,_,_,_,_,_,_] _
 refine Qab (Qad (Qal rfl ?_))
 obtain rfl:=QsJ H
 subst Hx1_
 have hs:=hs.pull 0 rfl
 have hs:St _ [_] _:=St.take (Γ':=[]) hs
 refine Qa7 rfl ?_
 exact ha1_ _ _ ⟨v8,x9,Hr1_,rfl,hs⟩
def strings_Join.post (w0:World) (r:ByteArray) (v:Value) (w:World):Prop:=v=string r∧St w0 [] w
theorem strings_Join.calls {N:Nat} {a1:List ByteArray} {a2:ByteArray} {v:Value} {w0:World} {r:ByteArray} (h:Rd0 w0 v a1) (H:strings_Join.f N a1 a2=some r):
 Calls Tryz.prog 31 #[v, .string a2] w0 fun e w=>∃ v,e= .returned v∧strings_Join.post w0 r v w:=by
 obtain ⟨hg,H⟩:=ite_get H
 obtain rfl:=QsJ H
 rcases h with ⟨rfl,rfl⟩|⟨b,cap,rfl,hlt,hcap,hcells⟩
 ·exact (Tryz.strings_Join_none none 0 a2 w0).mono fun e w ⟨he,hw⟩=>⟨_,he,rfl,by rw [hw];exact St.refl _⟩
 ·exact (Tryz.strings_Join b 0 cap a1 a2 w0 hcells hlt hg.1 hcap hg.2).mono fun e w ⟨he,hw⟩=>⟨_,he,rfl,St.of_below hw⟩
def Qbi.post (w0:World) (r:ByteArray) (v:Value) (w:World):Prop:=v=string r∧St w0 [] w
theorem Qbi.calls {N : Nat} {a1 : (List Int)} {a3 : (Ar Int 4)} {v2 : Value} {w0 : World} {r : ByteArray} (htab : Lib.TabIs Tryz.prog w0 "internal/strconv.uint64pow10" .u64 Lib.pow10Tab) (hr0 : RdRow (K.int .i16) w0 v2 a1) (H : Qbi.f N a1 a3 = some r) :
 Calls Tryz.prog 10 #[v2,agg ((encA (encI .i16)) a3).toArray] w0 fun e w=>∃ v,e= .returned v∧Qbi.post w0 r v w:=by
 unfold Qbi.f at H
 have hs:St w0 [] w0:=St.refl w0
 refine calls_of_g (n:=11) Tryz.func10 rfl rfl ?_
 show G _ _ _ _ [_,_,_,_,_,_,_,_,_,_,_,_,_] _
 refine Qad (Qag [0,1] rfl ?_)
 refine Qbq hs rfl rfl (cs:=((encA (encI .i16)) a3)) rfl rfl ?_
 intro b4 w hs
 show G _ _ _ _ [_,_,_,_,_,_,_,_,_,_,_,_,_] _
 refine Qaa (v:=string (⟨#[]⟩:ByteArray)) rfl rfl rfl (Qab (Qad (Qad (Qag [0,1,2,3] rfl ?_))))
 refine Qaa (v:=v2) rfl rfl rfl ?_
 refine QaG rfl rfl (es:=((encA (encI .i16)) a3)) rfl rfl (fun _=>rfl) (n:=4) (fun _=>rfl) ((fkA (n:=4) (he:=(fkI .i16).len) (h1:=(fkI .i16).one)).len _) (cells_all (hs.cells 0 rfl)) ?_
 show G _ _ _ _ [_,_,_,_,_,_,_,_,_,_,_,_,_] _
 obtain ⟨r6,Hr6,H⟩:=bind_get H
 refine QaB (args:=[v2,agg ((encA (encI .i16)) a3).toArray]) rfl rfl (QaC rfl (callFunc_enter Tryz.func12 rfl rfl) rfl) (QaM.calls (a1:=a1) (a3:=a3) (hs.rd hr0) Hr6) ?_
 rintro _ w ⟨rfl,hs2⟩
 have hs:St _ [_] _:=hs.call hs2
 cases r6 with
 |true=>
  rw [if_pos rfl] at H
  refine Qaa (v:=bool false) rfl rfl rfl ?_
  show G _ _ _ _ [_,_,_,_,_,_,_,_,_,_,_,_,_] _
  refine Qab (Qal rfl (Qay (Qad (Qag [0,1,2,3,4] rfl ?_))))
  refine Qaa (v:=slice (some ⟨b4,0,none⟩) 4 4) rfl rfl (Qch rfl rfl (fun _=>⟨_,rfl⟩) rfl) ?_
  refine Qaa (v:=v2) rfl rfl rfl ?_
  obtain ⟨r7,Hr7,H⟩:=bind_get H
  refine QaB (args:=[slice (some ⟨b4,0,none⟩) 4 4,v2]) rfl rfl (QaC rfl (callFunc_enter Tryz.func32 rfl rfl) rfl) (QaT.calls (a1:=a3.l) (a3:=a1) (hs.tab htab) (rdBox (fkI .i16) (hs.cells 0 rfl)) (hs.rd hr0) Hr7) ?_
  intro v8 w hs2
  have hs:St _ [_,_] _:=hs.call hs2
  show G _ _ _ _ [_,_,_,_,_,_,_,_,_,_,_,_,_] _
  obtain ⟨r10,Hr10,H⟩:=bind_get H
  refine QaB (args:=[v8,string (⟨#[32]⟩:ByteArray)]) rfl rfl (QaC rfl (callFunc_enter Tryz.func31 rfl rfl) rfl) (strings_Join.calls (a1:=r7) (a2:=(⟨#[32]⟩:ByteArray)) (hs.row0 0 rfl) Hr10) ?_
  rintro _ w ⟨rfl,hs2⟩
  have hs:St _ [_,_] _:=hs.call hs2
  refine Qaa (v:=string r10) rfl rfl rfl (Qab ?_)
  obtain rfl:=QsJ H
  refine Qas Tryz.func10 (v:=string r10) (res1 rfl rfl) ?_
  have hs:St _ [] _:=St.take (Γ':=[_,_]) hs
  exact ⟨_,rfl,rfl,hs⟩
 |false=>
  rw [if_neg Bool.false_ne_true] at H
  refine Qaa (v:=bool true) rfl rfl rfl (Qab (Qah rfl (Qad (Qag [0] rfl ?_))))
  refine Qaa (v:=string (⟨#[]⟩:ByteArray)) rfl rfl rfl ?_
  show G _ _ _ _ [_,_,_,_,_,_,_,_,_,_,_,_,_] _
  refine Qab ?_
  obtain rfl:=QsJ H
  refine Qas Tryz.func10 (v:=string (⟨#[]⟩:ByteArray)) (res1 rfl rfl) ?_
  have hs:St _ [] _:=St.take (Γ':=[_]) hs
  exact ⟨_,rfl,rfl,hs⟩
def strings_Split.post (w0:World) (r:(List ByteArray)) (v:Value) (w:World):Prop:=St w0 [Row 9 K.str v r] w
theorem strings_Split.calls {N:Nat} {a1 a2:ByteArray} {w0:World} {r:(List ByteArray)} (hmax:CellI w0 0) (H:strings_Split.f N a1 a2=some r):
 Calls Tryz.prog 30 #[.string a1, .string a2] w0 fun e w=>∃ v,e= .returned v∧strings_Split.post w0 r v w:=by
 obtain ⟨hg,H⟩:=ite_get H
 obtain rfl:=QsJ H
 obtain ⟨m,hm⟩:=hmax
 exact (Tryz.strings_Split a1 a2 m w0 hg.1 hm hg.2).mono fun e w ⟨he,hw⟩=>⟨_,he,split_row (Lib.splitB_all a2 hg.2 0 _ a1 rfl) (by have:=Lib.countB_le a2 hg.2 a1.size a1 (Nat.le_refl _);omega) hw⟩
def strings_Cut.post (w0:World) (r:(ByteArray×ByteArray×Bool)) (v:Value) (w:World):Prop:=v=tuple #[string r.1,string r.2.1,bool r.2.2]∧St w0 [] w
theorem strings_Cut.calls {N:Nat} {a1 a2:ByteArray} {w0:World} {r:(ByteArray×ByteArray×Bool)} (hmax:CellI w0 0) (H:strings_Cut.f N a1 a2=some r):
 Calls Tryz.prog 51 #[.string a1, .string a2] w0 fun e w=>∃ v,e= .returned v∧strings_Cut.post w0 r v w:=by
 obtain ⟨hg,H⟩:=ite_get H
 obtain rfl:=QsJ H
 obtain ⟨m,hm⟩:=hmax
 exact (Tryz.strings_Cut a1 a2 m w0 hg hm).mono fun e w ⟨he,n,hw⟩=>⟨_,he,rfl,St.of_drew hw⟩
def strconv_ParseInt.post (w0:World) (r:(Int×Bool)) (v:Value) (w:World):Prop:=∃ u1:Value,v=tuple #[int .i64 r.1,u1]∧ErrIs u1 r.2∧St w0 [] w
theorem strconv_ParseInt.calls {N:Nat} {a1:ByteArray} {a2 a3:Int} {w0:World} {r:(Int×Bool)} (hsyn:CellE w0 1) (hrng:CellE w0 2) (H:strconv_ParseInt.f N a1 a2 a3=some r):
 Calls Tryz.prog 66 #[.string a1, .int .i64 a2, .int .i64 a3] w0 fun e w=>∃ v,e= .returned v∧strconv_ParseInt.post w0 r v w:=by
 obtain ⟨⟨hg,e2,e3⟩,H2⟩:=ite_get H
 subst e2 e3
 obtain rfl:=QsJ H2
 unfold strconv_ParseInt.post parsed
 have h9:a1.size≤9223372036854775806:=by omega
 cases hp:Lib.parseIntB 64 a1.data.toList with
 |ok v=>exact (Tryz.strconv_ParseInt_10_at64_ok a1 h9 _ hp w0).mono fun e w ⟨he,hw⟩=>⟨_,he,_,rfl, .inl ⟨rfl,rfl⟩,St.of_bytes hw⟩
 |range=>
  obtain ⟨ev,h1,h2⟩:=hrng
  exact (Tryz.strconv_ParseInt_10_at64_range a1 hg hp ev w0 h1 h2).mono fun e w ⟨n,he,_,_,hb⟩=>⟨_,he,_,rfl, .inr ⟨rfl,_,_,rfl⟩,St.of_below hb⟩
 |_=>
  obtain ⟨ev,h1,h2⟩:=hsyn
  exact (Tryz.QbO a1 hg (by rw [hp];intro v g;cases g) (by rw [hp];intro g;cases g) ev w0 h1 h2).mono fun e w ⟨n,he,_,_,hb⟩=>⟨_,he,_,rfl, .inr ⟨rfl,_,_,rfl⟩,St.of_below hb⟩
def Qbx.post (w0:World) (r:(Int×Bool)) (v:Value) (w:World):Prop:=v=tuple #[int .i64 r.1,bool r.2]∧St w0 [] w
theorem Qbx.calls {N : Nat} {a1 : ByteArray} {a2 : Int} {w0 : World} {r : (Int × Bool)} (htab : Lib.TabIs Tryz.prog w0 "internal/strconv.uint64pow10" .u64 Lib.pow10Tab) (hsyn : CellE w0 1) (hrng : CellE w0 2) (H : Qbx.f N a1 a2 = some r) :
 Calls Tryz.prog 52 #[string a1,int .i64 a2] w0 fun e w=>∃ v,e= .returned v∧Qbx.post w0 r v w:=by
 unfold Qbx.f at H
 have hs:St w0 [] w0:=St.refl w0
 refine calls_of_g (n:=26) Tryz.func52 rfl rfl ?_
 show G _ _ _ _ [_,_,_,_,_,_,_,_,_,_,_,_,_,_,_,_,_,_,_,_,_,_,_,_,_,_,_,_] _
 refine Qad (Qag [0,1] rfl ?_)
 refine Qaa (v:=int .i64 0) rfl rfl rfl ?_
 refine Qaa (v:=bool false) rfl rfl rfl (Qab (Qad (Qag [0,1,2,3,4,5,6] rfl ?_)))
 refine Qaa (v:=string a1) rfl rfl rfl ?_
 obtain ⟨r3,Hr3,H⟩:=bind_get H
 refine QaB (args:=[string a1,int .i64 10,int .i64 64]) rfl rfl (QaC rfl (callFunc_enter Tryz.func66 rfl rfl) rfl) (strconv_ParseInt.calls (a1:=a1) (a2:=10) (a3:=64) (hs.cellE hsyn) (hs.cellE hrng) Hr3) ?_
 rintro _ w ⟨v4,rfl,hEv4,hs2⟩
 have hs:St _ [] _:=hs.call hs2
 show G _ _ _ _ [_,_,_,_,_,_,_,_,_,_,_,_,_,_,_,_,_,_,_,_,_,_,_,_,_,_,_,_] _
 refine Qaa (v:=tuple #[int .i64 r3.1,v4]) rfl rfl rfl ?_
 refine Qaa (v:=int .i64 r3.1) rfl rfl rfl ?_
 refine Qaa (v:=v4) rfl rfl rfl ?_
 refine Qaa (v:=int .i64 r3.1) rfl rfl rfl ?_
 refine Qaa (v:=v4) rfl rfl rfl (Qab (Qad (Qad (Qag [0,1,2,3,4,5,6,7,8,9,10,11,12,13] rfl ?_))))
 refine Qaa (v:=v4) rfl rfl rfl ?_
 refine Qap (B:=r3.2) rfl rfl (QcI rfl (by kernel_rfl) rfl hEv4) ?_ ?_
 ·
  intro hb
  rw [if_pos (b_var_t hb)] at H
  refine Qaa (v:=bool true) rfl rfl rfl (Qac rfl rfl (Qac rfl rfl (Qac rfl rfl (Qac rfl rfl ?_))))
  show G _ _ _ _ [_,_,_,_,_,_,_,_,_,_,_,_,_,_,_,_,_,_,_,_,_,_,_,_,_,_,_,_] _
  refine Qaa (v:=bool true) rfl rfl rfl ?_
  refine Qaa (v:=bool true) rfl rfl rfl (Qac rfl rfl (Qac rfl rfl (Qac rfl rfl (Qac rfl rfl ?_))))
  show G _ _ _ _ [_,_,_,_,_,_,_,_,_,_,_,_,_,_,_,_,_,_,_,_,_,_,_,_,_,_,_,_] _
  refine Qaa (v:=bool true) rfl rfl rfl (Qab (Qah rfl (Qad (Qag [0,1] rfl ?_))))
  refine Qaa (v:=int .i64 0) rfl rfl rfl ?_
  refine Qaa (v:=bool false) rfl rfl rfl ?_
  show G _ _ _ _ [_,_,_,_,_,_,_,_,_,_,_,_,_,_,_,_,_,_,_,_,_,_,_,_,_,_,_,_] _
  refine Qab ?_
  obtain rfl:=QsJ H
  refine Qas Tryz.func52 (v:=tuple #[int .i64 0,bool false]) (resN (l:=Tryz.f52.results.toList) (vs:=[int .i64 0,bool false]) rfl ⟨rfl,rfl,trivial⟩ (by simp)) ?_
  have hs:St _ [] _:=St.take (Γ':=[]) hs
  exact ⟨_,rfl,rfl,hs⟩
 intro hb
 rw [if_neg (b_var_f hb)] at H
 show G _ _ _ _ [_,_,_,_,_,_,_,_,_,_,_,_,_,_,_,_,_,_,_,_,_,_,_,_,_,_,_,_] _
 refine Qaa (v:=bool false) rfl rfl rfl ?_
 refine Qaa (v:=int .i64 r3.1) rfl rfl rfl ?_
 obtain ⟨r5,Hr5,H⟩:=bind_get H
 refine QaB (args:=[int .i64 r3.1]) rfl rfl (QaC rfl (callFunc_enter Tryz.func57 rfl rfl) rfl) (Qbd.calls (a1:=r3.1) (hs.tab htab) Hr5) ?_
 rintro _ w ⟨rfl,hs2⟩
 have hs:St _ [] _:=hs.call hs2
 refine Qaa (v:=string a1) rfl rfl rfl ?_
 refine Qaa (v:=bool (!(r5.toList==a1.toList))) rfl rfl rfl ?_
 refine Qap (B:=!(r5.toList==a1.toList)) rfl rfl rfl ?_ ?_
 ·
  intro hb
  rw [if_neg (b_nbeq_t hb)] at H
  refine Qaa (v:=bool true) rfl rfl rfl (Qac rfl rfl (Qac rfl rfl (Qac rfl rfl (Qac rfl rfl ?_))))
  show G _ _ _ _ [_,_,_,_,_,_,_,_,_,_,_,_,_,_,_,_,_,_,_,_,_,_,_,_,_,_,_,_] _
  refine Qaa (v:=bool true) rfl rfl rfl (Qab (Qah rfl (Qad (Qag [0,1] rfl ?_))))
  refine Qaa (v:=int .i64 0) rfl rfl rfl ?_
  refine Qaa (v:=bool false) rfl rfl rfl ?_
  show G _ _ _ _ [_,_,_,_,_,_,_,_,_,_,_,_,_,_,_,_,_,_,_,_,_,_,_,_,_,_,_,_] _
  refine Qab ?_
  obtain rfl:=QsJ H
  refine Qas Tryz.func52 (v:=tuple #[int .i64 0,bool false]) (resN (l:=Tryz.f52.results.toList) (vs:=[int .i64 0,bool false]) rfl ⟨rfl,rfl,trivial⟩ (by simp)) ?_
  have hs:St _ [] _:=St.take (Γ':=[]) hs
  exact ⟨_,rfl,rfl,hs⟩
 intro hb
 rw [if_pos (b_nbeq_f hb)] at H
 show G _ _ _ _ [_,_,_,_,_,_,_,_,_,_,_,_,_,_,_,_,_,_,_,_,_,_,_,_,_,_,_,_] _
 refine Qaa (v:=bool false) rfl rfl rfl ?_
 refine Qaa (v:=int .i64 r3.1) rfl rfl rfl ?_
 refine Qaa (v:=int .i64 a2) rfl rfl rfl ?_
 obtain ⟨r6,Hr6,H⟩:=bind_get H
 refine QaB (args:=[int .i64 r3.1,int .i64 0,int .i64 a2]) rfl rfl (QaC rfl (callFunc_enter Tryz.func33 rfl rfl) rfl) (Qbl.calls (a1:=r3.1) (a2:=0) (a3:=a2) Hr6) ?_
 rintro _ w ⟨rfl,hs2⟩
 have hs:St _ [] _:=hs.call hs2
 cases r6 with
 |true=>
  rw [if_pos rfl] at H
  show G _ _ _ _ [_,_,_,_,_,_,_,_,_,_,_,_,_,_,_,_,_,_,_,_,_,_,_,_,_,_,_,_] _
  refine Qaa (v:=bool false) rfl rfl rfl ?_
  refine Qaa (v:=bool false) rfl rfl rfl (Qab (Qal rfl (Qay (Qad (Qag [0,1,2] rfl ?_)))))
  refine Qaa (v:=int .i64 r3.1) rfl rfl rfl ?_
  refine Qaa (v:=int .i64 r3.1) rfl rfl rfl ?_
  show G _ _ _ _ [_,_,_,_,_,_,_,_,_,_,_,_,_,_,_,_,_,_,_,_,_,_,_,_,_,_,_,_] _
  refine Qaa (v:=bool true) rfl rfl rfl (Qab ?_)
  obtain rfl:=QsJ H
  refine Qas Tryz.func52 (v:=tuple #[int .i64 r3.1,bool true]) (resN (l:=Tryz.f52.results.toList) (vs:=[int .i64 r3.1,bool true]) rfl ⟨rfl,rfl,trivial⟩ (by simp)) ?_
  have hs:St _ [] _:=St.take (Γ':=[]) hs
  exact ⟨_,rfl,rfl,hs⟩
 |false=>
  rw [if_neg Bool.false_ne_true] at H
  refine Qaa (v:=bool true) rfl rfl rfl ?_
  refine Qaa (v:=bool true) rfl rfl rfl ?_
  show G _ _ _ _ [_,_,_,_,_,_,_,_,_,_,_,_,_,_,_,_,_,_,_,_,_,_,_,_,_,_,_,_] _
  refine Qab (Qah rfl (Qad (Qag [0,1] rfl ?_)))
  refine Qaa (v:=int .i64 0) rfl rfl rfl ?_
  refine Qaa (v:=bool false) rfl rfl rfl (Qab ?_)
  obtain rfl:=QsJ H
  refine Qas Tryz.func52 (v:=tuple #[int .i64 0,bool false]) (resN (l:=Tryz.f52.results.toList) (vs:=[int .i64 0,bool false]) rfl ⟨rfl,rfl,trivial⟩ (by simp)) ?_
  have hs:St _ [] _:=St.take (Γ':=[]) hs
  exact ⟨_,rfl,rfl,hs⟩
def QaQ.post (w0:World) (r:((Ar Int 4)×(List Int)×Bool)) (v:Value) (w:World):Prop:=∃ u1:Value,v=tuple #[agg ((encA (encI .i16)) r.1).toArray,u1,bool r.2.2]∧St w0 [Row 26 (K.int .i16) u1 r.2.1] w
theorem QaQ.calls {N : Nat} {a1 : (List ByteArray)} {a3 : Int} {v2 : Value} {w0 : World} {r : ((Ar Int 4) × (List Int) × Bool)} (htab : Lib.TabIs Tryz.prog w0 "internal/strconv.uint64pow10" .u64 Lib.pow10Tab) (hmax : CellI w0 0) (hsyn : CellE w0 1) (hrng : CellE w0 2) (hr0 : RdRow K.str w0 v2 a1) (H : QaQ.f N a1 a3 = some r) :
 Calls Tryz.prog 29 #[v2,int .i64 a3] w0 fun e w=>∃ v,e= .returned v∧QaQ.post w0 r v w:=by
 unfold QaQ.f at H
 have hs:St w0 [] w0:=St.refl w0
 refine calls_of_g (n:=70) Tryz.func29 rfl rfl ?_
 show G _ _ _ _ (_::_::_::_::_::_::_::_::_::_::_::_::_::_::_::_::_::_::_::_::_::_::_::_::_::_::_::_::_::_::_::_::_::_::_::_::_::_::_::_::_::_::_::_::_::_::_::_::_::_::_::_::_::_::_::_::_::_::_::_::_::_::_::_::_::_::_::_::_::_::_::_::[]) _
 refine Qad (Qag [0,1,2] rfl ?_)
 refine Qa8 hs rfl rfl (z:=(agg #[int .i16 0,int .i16 0,int .i16 0,int .i16 0])) (cs:=((encA (encI .i16)) (Ar.rep 4 0))) rfl (fun _=>rfl) rfl ?_
 intro b4 w hs
 refine g_d rfl ?_
 refine Qaa (v:=slice none 0 0) rfl rfl rfl (g_d rfl ?_)
 try dsimp only [Qae,Qaf]
 refine Qaa (v:=bool false) rfl rfl rfl (g_d rfl (Qab (Qad (Qag [0,1,2,3,4] rfl ?_))))
 refine Qaa (v:=agg ((encA (encI .i16)) (Ar.rep 4 0)).toArray) rfl rfl (QbK rfl rfl) (g_d rfl ?_)
 try dsimp only [Qae,Qaf]
 refine QbV (κ:=(K.int .i16)) hs rfl rfl rfl rfl (fun _=>rfl) ?_
 intro v6 w hs
 refine g_d rfl ?_
 refine Qa8 hs rfl rfl (z:=(agg #[int .i16 0,int .i16 0,int .i16 0,int .i16 0])) (cs:=((encA (encI .i16)) (Ar.rep 4 0))) rfl (fun _=>rfl) rfl ?_
 intro b8 w hs
 refine g_d rfl ?_
 try dsimp only [Qae,Qaf]
 refine QaH (n:=4) hs ((fkA (n:=4) (he:=(fkI .i16).len) (h1:=(fkI .i16).one)).len _) rfl rfl (vs:=((encA (encI .i16)) (Ar.rep 4 0))) rfl rfl rfl (fun _=>rfl) ((fkA (n:=4) (he:=(fkI .i16).len) (h1:=(fkI .i16).one)).len _) ((fkA (n:=4) (he:=(fkI .i16).len) (h1:=(fkI .i16).one)).one _) ?_
 intro w hs
 refine g_n rfl ?_
 refine Qaa (v:=v6) rfl rfl rfl (g_d rfl (Qab (Qad (Qad (Qag [0,1,2] rfl ?_)))))
 refine Qaa (v:=v2) rfl rfl rfl (g_d rfl ?_)
 refine Qbc (hs.rd hr0) rfl rfl rfl rfl rfl (g_d rfl ?_)
 try dsimp only [Qae,Qaf]
 refine Qaa (v:=int .i64 0) rfl rfl rfl (g_d rfl (Qab ?_))
 obtain ⟨o1_,Ho,Hr1_⟩:=bind_get H
 refine Qax (J:=fun t w=>∃ x39:(Ar Int 4),∃ v40:Value,∃ x41:(List Int),QaQ.a0 N x39 x41=some r∧Fr t (fun O=>(O 0::O 1::O 2::O 3::pointer (some ⟨b4,0,none⟩)::O 5::O 6::pointer (some ⟨b8,0,none⟩)::v40::O 9::oT O 1 (oT O 2 (oT O 3 (oT O 4 (oT O 5 (oT O 6 (O 70::O 71::[])))))):List Value))∧St w0 [Cells b4 ((encA (encI .i16)) (Ar.rep 4 0)) 27,Cells b8 ((encA (encI .i16)) x39) 27,Row 26 (K.int .i16) v40 x41] w) ?_ ?_
 ·
  rintro t w ⟨x39,v40,x41,H,hf,hs⟩
  obtain ⟨O,rfl⟩:=hf.open
  try dsimp only [oT]
  unfold QaQ.a0 at H
  refine Qad (Qag [0,1,2,3,4] rfl ?_)
  refine QaG rfl rfl (es:=((encA (encI .i16)) x39)) rfl rfl (fun _=>rfl) (n:=4) (fun _=>rfl) ((fkA (n:=4) (he:=(fkI .i16).len) (h1:=(fkI .i16).one)).len _) (cells_all (hs.cells 1 rfl)) (g_d rfl ?_)
  try dsimp only [Qae,Qaf]
  refine Qaa (v:=v40) rfl rfl rfl (g_d rfl ?_)
  refine QaH (n:=4) hs ((fkA (n:=4) (he:=(fkI .i16).len) (h1:=(fkI .i16).one)).len _) rfl rfl (vs:=((encA (encI .i16)) x39)) rfl rfl rfl (fun _=>rfl) ((fkA (n:=4) (he:=(fkI .i16).len) (h1:=(fkI .i16).one)).len _) ((fkA (n:=4) (he:=(fkI .i16).len) (h1:=(fkI .i16).one)).one _) ?_
  intro w hs
  refine g_n rfl ?_
  refine Qaa (v:=v40) rfl rfl rfl (g_d rfl ?_)
  refine Qaa (v:=bool true) rfl rfl rfl (g_d rfl ?_)
  try dsimp only [Qae,Qaf]
  refine Qab ?_
  obtain rfl:=QsJ H
  refine Qas Tryz.func29 (v:=tuple #[agg ((encA (encI .i16)) x39).toArray,v40,bool true]) (resN (l:=Tryz.f29.results.toList) (vs:=[agg ((encA (encI .i16)) x39).toArray,v40,bool true]) rfl ⟨⟨_,rfl,(run_loadVar_agg (es:=((encA (encI .i16)) x39)) rfl (congrArg (Result.ok · _) ((fkA (n:=4) (he:=(fkI .i16).len) (h1:=(fkI .i16).one)).len _).symm) (cells_all (hs.cells 0 rfl)))⟩,rfl,rfl,trivial⟩ (by simp)) ?_
  have hs:=hs.pull 2 rfl
  have hs:St _ [_] _:=St.take (Γ':=[_,_]) hs
  exact ⟨_,rfl,v40,rfl,hs⟩
 intro ha1_
 have hs:=hs.pull 1 rfl
 have hs:=hs.pull 1 rfl
 have hs:=hs.pull 2 rfl
 have hs:St _ [_,_,_] _:=St.take (Γ':=[]) hs
 refine QaL (I:=fun n_ t w=>∃ x24:(Ar Int 4),∃ v26:Value,∃ x27:(List Int),∃ x28:Int,rounds (fun s=>QaQ.b0 N a1 a3 s.1 s.2.1 s.2.2) n_ (x24,x27,x28)=some o1_∧Fr t (fun O=>(O 0::int .i64 a3::O 2::O 3::pointer (some ⟨b4,0,none⟩)::O 5::O 6::pointer (some ⟨b8,0,none⟩)::v26::O 9::oT O 1 (v2::int .i64 (a1.length:Int)::int .i64 x28::O 23::O 24::O 25::O 26::O 27::O 28::O 29::oT O 3 (oT O 4 (oT O 5 (oT O 6 (O 70::O 71::[]))))):List Value))∧St w0 [Cells b4 ((encA (encI .i16)) (Ar.rep 4 0)) 27,Cells b8 ((encA (encI .i16)) x24) 27,Row 26 (K.int .i16) v26 x27] w) N ⟨(Ar.rep 4 0),v6,([]:List Int),0,Ho,rfl,hs⟩ ?_ ?_
 ·
  rintro _ _ ⟨x24,v26,x27,x28,h,_⟩
  exact rounds_zero h
 intro n_ ih1_
 rintro t w ⟨x24,v26,x27,x28,Ho,hf,hs⟩
 obtain ⟨O,rfl⟩:=hf.open
 try dsimp only [oT]
 obtain ⟨x5_,H,Hx1_⟩:=rounds_succ Ho
 have H:QaQ.b0 N a1 a3 x24 x27 x28=some x5_:=H
 unfold QaQ.b0 at H
 refine Qad (Qag [0] rfl ?_)
 refine Qap (B:=decide (x28< (a1.length:Int))) rfl rfl rfl ?_ ?_
 ·
  intro hb
  rw [if_pos (b_dec_t hb)] at H
  refine g_d rfl ?_
  try dsimp only [Qae,Qaf]
  refine Qab (Qad (Qah rfl (Qay (Qad ?_))))
  refine Qbh (Qad (Qag [0,1,2,3,4] rfl ?_))
  refine Qaa (v:=int .i64 x28) rfl rfl rfl (g_d rfl ?_)
  obtain ⟨g3,H⟩:=ite_get H
  refine Qbb fkS (⟨#[]⟩:ByteArray) (hs.rd hr0) rfl (fun _=>rfl) g3.1 g3.2 rfl rfl rfl rfl rfl ?_
  intro p29 hp29 lp29 op29
  refine g_d rfl ?_
  refine Qat rfl rfl (v:=string (rdL a1 x28 (⟨#[]⟩:ByteArray))) rfl rfl (fun _=>rfl) hp29 (g_d rfl ?_)
  try dsimp only [Qae,Qaf]
  refine Qaa (v:=int .i64 x28) rfl rfl rfl (g_d rfl ?_)
  refine Qaa (v:=string (rdL a1 x28 (⟨#[]⟩:ByteArray))) rfl rfl rfl (g_d rfl ?_)
  try dsimp only [Qae,Qaf]
  refine Qab (Qad (Qag [0,1,2,3,4,5,6,7,8] rfl ?_))
  refine Qaa (v:=string (rdL a1 x28 (⟨#[]⟩:ByteArray))) rfl rfl rfl (g_d rfl ?_)
  obtain ⟨r30,Hr30,H⟩:=bind_get H
  refine QaB (args:=[string (rdL a1 x28 (⟨#[]⟩:ByteArray)),string (⟨#[47]⟩:ByteArray)]) rfl rfl (QaC rfl (callFunc_enter Tryz.func51 rfl rfl) rfl) (strings_Cut.calls (a1:=rdL a1 x28 (⟨#[]⟩:ByteArray)) (a2:=(⟨#[47]⟩:ByteArray)) (hs.cellI hmax) Hr30) ?_
  rintro _ w ⟨rfl,hs2⟩
  have hs:St _ [_,_,_] _:=hs.call hs2
  refine g_d rfl ?_
  refine Qaa (v:=tuple #[string r30.1,string r30.2.1,bool r30.2.2]) rfl rfl rfl (g_d rfl ?_)
  refine Qaa (v:=string r30.1) rfl rfl rfl (g_d rfl ?_)
  refine Qaa (v:=string r30.2.1) rfl rfl rfl (g_d rfl ?_)
  refine Qaa (v:=bool r30.2.2) rfl rfl rfl (g_d rfl ?_)
  refine Qaa (v:=string r30.1) rfl rfl rfl (g_d rfl ?_)
  try dsimp only [Qae,Qaf]
  refine Qaa (v:=string r30.2.1) rfl rfl rfl (g_d rfl ?_)
  refine Qaa (v:=bool r30.2.2) rfl rfl rfl (g_d rfl ?_)
  try dsimp only [Qae,Qaf]
  refine Qab (Qad (Qag [0,1,2,3,4,5,6,7] rfl ?_))
  refine Qaa (v:=string r30.1) rfl rfl rfl (g_d rfl ?_)
  refine Qaa (v:=int .i64 a3) rfl rfl rfl (g_d rfl ?_)
  obtain ⟨r31,Hr31,H⟩:=bind_get H
  refine QaB (args:=[string r30.1,int .i64 a3]) rfl rfl (QaC rfl (callFunc_enter Tryz.func52 rfl rfl) rfl) (Qbx.calls (a1:=r30.1) (a2:=a3) (hs.tab htab) (hs.cellE hsyn) (hs.cellE hrng) Hr31) ?_
  rintro _ w ⟨rfl,hs2⟩
  have hs:St _ [_,_,_] _:=hs.call hs2
  refine g_d rfl ?_
  refine Qaa (v:=tuple #[int .i64 r31.1,bool r31.2]) rfl rfl rfl (g_d rfl ?_)
  refine Qaa (v:=int .i64 r31.1) rfl rfl rfl (g_d rfl ?_)
  refine Qaa (v:=bool r31.2) rfl rfl rfl (g_d rfl ?_)
  refine Qaa (v:=int .i64 r31.1) rfl rfl rfl (g_d rfl ?_)
  try dsimp only [Qae,Qaf]
  refine Qaa (v:=bool r31.2) rfl rfl rfl (g_d rfl (Qab (Qad (Qag [0,1,2,3,4,5,6,7] rfl ?_))))
  refine Qaa (v:=string r30.2.1) rfl rfl rfl (g_d rfl ?_)
  refine Qaa (v:=int .i64 a3) rfl rfl rfl (g_d rfl ?_)
  obtain ⟨r32,Hr32,H⟩:=bind_get H
  refine QaB (args:=[string r30.2.1,int .i64 a3]) rfl rfl (QaC rfl (callFunc_enter Tryz.func52 rfl rfl) rfl) (Qbx.calls (a1:=r30.2.1) (a2:=a3) (hs.tab htab) (hs.cellE hsyn) (hs.cellE hrng) Hr32) ?_
  rintro _ w ⟨rfl,hs2⟩
  have hs:St _ [_,_,_] _:=hs.call hs2
  refine g_d rfl ?_
  try dsimp only [Qae,Qaf]
  refine Qaa (v:=tuple #[int .i64 r32.1,bool r32.2]) rfl rfl rfl (g_d rfl ?_)
  refine Qaa (v:=int .i64 r32.1) rfl rfl rfl (g_d rfl ?_)
  refine Qaa (v:=bool r32.2) rfl rfl rfl (g_d rfl ?_)
  refine Qaa (v:=int .i64 r32.1) rfl rfl rfl (g_d rfl ?_)
  refine Qaa (v:=bool r32.2) rfl rfl rfl (g_d rfl ?_)
  try dsimp only [Qae,Qaf]
  refine Qab (Qad (Qad (Qag [0,1,2,3,4,5,6,7,8,9,10,11,12,13] rfl ?_)))
  refine Qap (B:=r30.2.2) rfl rfl rfl ?_ ?_
  ·
   intro hb
   rw [if_pos (b_var_t hb)] at H
   refine g_d rfl ?_
   refine Qaa (v:=bool false) rfl rfl rfl (g_d rfl ?_)
   refine Qaa (v:=bool false) rfl rfl rfl (g_d rfl ?_)
   refine Qaa (v:=bool r31.2) rfl rfl rfl (g_d rfl ?_)
   refine Qaa (v:=bool (!r31.2)) rfl rfl rfl (g_d rfl ?_)
   try dsimp only [Qae,Qaf]
   refine Qap (B:=!r31.2) rfl rfl rfl ?_ ?_
   ·
    intro hb
    rw [if_neg (b_not_t hb)] at H
    refine g_d rfl ?_
    try dsimp only [Qae,Qaf]
    refine Qaa (v:=bool true) rfl rfl rfl (g_d rfl (Qac rfl rfl (g_d rfl (Qac rfl rfl (g_d rfl ?_)))))
    refine Qaa (v:=bool true) rfl rfl rfl (g_d rfl ?_)
    try dsimp only [Qae,Qaf]
    refine Qaa (v:=bool true) rfl rfl rfl (g_d rfl (Qac rfl rfl (g_d rfl (Qac rfl rfl (g_d rfl ?_)))))
    refine Qaa (v:=bool true) rfl rfl rfl (g_d rfl ?_)
    try dsimp only [Qae,Qaf]
    refine Qab (Qah rfl (Qad (Qag [0,1,2,3] rfl ?_)))
    refine QaG rfl rfl (es:=((encA (encI .i16)) x24)) rfl rfl (fun _=>rfl) (n:=4) (fun _=>rfl) ((fkA (n:=4) (he:=(fkI .i16).len) (h1:=(fkI .i16).one)).len _) (cells_all (hs.cells 1 rfl)) (g_d rfl ?_)
    refine QaH (n:=4) hs ((fkA (n:=4) (he:=(fkI .i16).len) (h1:=(fkI .i16).one)).len _) rfl rfl (vs:=((encA (encI .i16)) x24)) rfl rfl rfl (fun _=>rfl) ((fkA (n:=4) (he:=(fkI .i16).len) (h1:=(fkI .i16).one)).len _) ((fkA (n:=4) (he:=(fkI .i16).len) (h1:=(fkI .i16).one)).one _) ?_
    intro w hs
    refine g_n rfl ?_
    refine Qaa (v:=slice none 0 0) rfl rfl rfl (g_d rfl ?_)
    try dsimp only [Qae,Qaf]
    refine Qaa (v:=bool false) rfl rfl rfl (g_d rfl (Qab ?_))
    obtain rfl:=QsJ H
    subst Hx1_
    have H:=QsJ Hr1_
    subst H
    refine Qas Tryz.func29 (v:=tuple #[agg ((encA (encI .i16)) x24).toArray,slice none 0 0,bool false]) (resN (l:=Tryz.f29.results.toList) (vs:=[agg ((encA (encI .i16)) x24).toArray,slice none 0 0,bool false]) rfl ⟨⟨_,rfl,(run_loadVar_agg (es:=((encA (encI .i16)) x24)) rfl (congrArg (Result.ok · _) ((fkA (n:=4) (he:=(fkI .i16).len) (h1:=(fkI .i16).one)).len _).symm) (cells_all (hs.cells 0 rfl)))⟩,rfl,rfl,trivial⟩ (by simp)) ?_
    have hs:=hs.nil 26 (K.int .i16)
    have hs:=hs.pull 0 rfl
    have hs:St _ [_] _:=St.take (Γ':=[_,_,_]) hs
    exact ⟨_,rfl,(slice none 0 0),rfl,hs⟩
   intro hb
   rw [if_pos (b_not_f hb)] at H
   refine g_d rfl ?_
   refine Qaa (v:=bool false) rfl rfl rfl (g_d rfl ?_)
   refine Qaa (v:=bool r32.2) rfl rfl rfl (g_d rfl ?_)
   refine Qaa (v:=bool (!r32.2)) rfl rfl rfl (g_d rfl ?_)
   try dsimp only [Qae,Qaf]
   refine Qap (B:=!r32.2) rfl rfl rfl ?_ ?_
   ·
    intro hb
    rw [if_neg (b_not_t hb)] at H
    refine g_d rfl ?_
    try dsimp only [Qae,Qaf]
    refine Qaa (v:=bool true) rfl rfl rfl (g_d rfl (Qac rfl rfl (g_d rfl (Qac rfl rfl (g_d rfl ?_)))))
    refine Qaa (v:=bool true) rfl rfl rfl (g_d rfl ?_)
    try dsimp only [Qae,Qaf]
    refine Qab (Qah rfl (Qad (Qag [0,1,2,3] rfl ?_)))
    refine QaG rfl rfl (es:=((encA (encI .i16)) x24)) rfl rfl (fun _=>rfl) (n:=4) (fun _=>rfl) ((fkA (n:=4) (he:=(fkI .i16).len) (h1:=(fkI .i16).one)).len _) (cells_all (hs.cells 1 rfl)) (g_d rfl ?_)
    refine QaH (n:=4) hs ((fkA (n:=4) (he:=(fkI .i16).len) (h1:=(fkI .i16).one)).len _) rfl rfl (vs:=((encA (encI .i16)) x24)) rfl rfl rfl (fun _=>rfl) ((fkA (n:=4) (he:=(fkI .i16).len) (h1:=(fkI .i16).one)).len _) ((fkA (n:=4) (he:=(fkI .i16).len) (h1:=(fkI .i16).one)).one _) ?_
    intro w hs
    refine g_n rfl ?_
    refine Qaa (v:=slice none 0 0) rfl rfl rfl (g_d rfl ?_)
    try dsimp only [Qae,Qaf]
    refine Qaa (v:=bool false) rfl rfl rfl (g_d rfl (Qab ?_))
    obtain rfl:=QsJ H
    subst Hx1_
    have H:=QsJ Hr1_
    subst H
    refine Qas Tryz.func29 (v:=tuple #[agg ((encA (encI .i16)) x24).toArray,slice none 0 0,bool false]) (resN (l:=Tryz.f29.results.toList) (vs:=[agg ((encA (encI .i16)) x24).toArray,slice none 0 0,bool false]) rfl ⟨⟨_,rfl,(run_loadVar_agg (es:=((encA (encI .i16)) x24)) rfl (congrArg (Result.ok · _) ((fkA (n:=4) (he:=(fkI .i16).len) (h1:=(fkI .i16).one)).len _).symm) (cells_all (hs.cells 0 rfl)))⟩,rfl,rfl,trivial⟩ (by simp)) ?_
    have hs:=hs.nil 26 (K.int .i16)
    have hs:=hs.pull 0 rfl
    have hs:St _ [_] _:=St.take (Γ':=[_,_,_]) hs
    exact ⟨_,rfl,(slice none 0 0),rfl,hs⟩
   intro hb
   rw [if_pos (b_not_f hb)] at H
   refine g_d rfl ?_
   refine Qaa (v:=bool false) rfl rfl rfl (g_d rfl ?_)
   refine Qaa (v:=int .i64 x28) rfl rfl rfl (g_d rfl ?_)
   refine Qap (B:=decide (x28≥4)) rfl rfl rfl ?_ ?_
   ·
    intro hb
    rw [if_pos (b_dec_t hb)] at H
    refine g_d rfl ?_
    refine Qaa (v:=bool true) rfl rfl rfl (g_d rfl ?_)
    try dsimp only [Qae,Qaf]
    refine Qab (Qah rfl (Qad (Qag [0,1,2,3] rfl ?_)))
    refine QaG rfl rfl (es:=((encA (encI .i16)) x24)) rfl rfl (fun _=>rfl) (n:=4) (fun _=>rfl) ((fkA (n:=4) (he:=(fkI .i16).len) (h1:=(fkI .i16).one)).len _) (cells_all (hs.cells 1 rfl)) (g_d rfl ?_)
    refine QaH (n:=4) hs ((fkA (n:=4) (he:=(fkI .i16).len) (h1:=(fkI .i16).one)).len _) rfl rfl (vs:=((encA (encI .i16)) x24)) rfl rfl rfl (fun _=>rfl) ((fkA (n:=4) (he:=(fkI .i16).len) (h1:=(fkI .i16).one)).len _) ((fkA (n:=4) (he:=(fkI .i16).len) (h1:=(fkI .i16).one)).one _) ?_
    intro w hs
    refine g_n rfl ?_
    refine Qaa (v:=slice none 0 0) rfl rfl rfl (g_d rfl ?_)
    try dsimp only [Qae,Qaf]
    refine Qaa (v:=bool false) rfl rfl rfl (g_d rfl (Qab ?_))
    obtain rfl:=QsJ H
    subst Hx1_
    have H:=QsJ Hr1_
    subst H
    refine Qas Tryz.func29 (v:=tuple #[agg ((encA (encI .i16)) x24).toArray,slice none 0 0,bool false]) (resN (l:=Tryz.f29.results.toList) (vs:=[agg ((encA (encI .i16)) x24).toArray,slice none 0 0,bool false]) rfl ⟨⟨_,rfl,(run_loadVar_agg (es:=((encA (encI .i16)) x24)) rfl (congrArg (Result.ok · _) ((fkA (n:=4) (he:=(fkI .i16).len) (h1:=(fkI .i16).one)).len _).symm) (cells_all (hs.cells 0 rfl)))⟩,rfl,rfl,trivial⟩ (by simp)) ?_
    have hs:=hs.nil 26 (K.int .i16)
    have hs:=hs.pull 0 rfl
    have hs:St _ [_] _:=St.take (Γ':=[_,_,_]) hs
    exact ⟨_,rfl,(slice none 0 0),rfl,hs⟩
   intro hb
   rw [if_neg (b_dec_f hb)] at H
   refine g_d rfl ?_
   try dsimp only [Qae,Qaf]
   refine Qaa (v:=bool false) rfl rfl rfl (g_d rfl (Qab (Qal rfl (Qay ?_))))
   obtain ⟨gq7_,H⟩:=ite_get H
   obtain ⟨gd4,H⟩:=ite_get H
   refine Qbe ?_
   intro T hT
   refine QbM (n:=11) rfl [0,1,2,3,4,5,6,7,8,9,10] [0,1,2,3,4,5,6,7,8,9,10] rfl rfl (Inv:=fun D t w=>∃ v33:Value,∃ v35:Value,∃ O:Nat→Value,t=(O 0::int .i64 a3::O 2::O 3::pointer (some ⟨b4,0,none⟩)::O 5::O 6::pointer (some ⟨b8,0,none⟩)::cnd (D 10) v35 v26::int .i64 x28::string (rdL a1 x28 (⟨#[]⟩:ByteArray))::string r30.1::string r30.2.1::bool r30.2.2::int .i64 r31.1::bool r31.2::int .i64 r32.1::bool r32.2::O 18::O 19::v2::int .i64 (a1.length:Int)::int .i64 x28::bool true::int .i64 x28::pointer (some p29)::string (rdL a1 x28 (⟨#[]⟩:ByteArray))::tuple #[string r30.1,string r30.2.1,bool r30.2.2]::string (rdL a1 x28 (⟨#[]⟩:ByteArray))::tuple #[string r30.1,string r30.2.1,bool r30.2.2]::string r30.1::string r30.2.1::bool r30.2.2::tuple #[int .i64 r31.1,bool r31.2]::string r30.1::int .i64 a3::tuple #[int .i64 r31.1,bool r31.2]::int .i64 r31.1::bool r31.2::tuple #[int .i64 r32.1,bool r32.2]::string r30.2.1::int .i64 a3::tuple #[int .i64 r32.1,bool r32.2]::int .i64 r32.1::bool r32.2::bool true::bool false::bool false::bool r31.2::bool (!r31.2)::bool false::bool false::bool r32.2::bool (!r32.2)::bool false::bool false::int .i64 x28::bool false::bool false::O 59::cnd (D 0) (int .i64 x28) (O 60)::cnd (D 1) (int .i64 r31.1) (O 61)::cnd (D 2) (int .i16 (i16w r31.1)) (O 62)::cnd (D 3) v26 (O 63)::cnd (D 4) (int .i64 r32.1) (O 64)::cnd (D 5) (int .i16 (i16w r32.1)) (O 65)::cnd (D 6) v33 (O 66)::cnd (D 7) v35 (O 67)::cnd (D 8) (pointer (some ⟨b8,0+x28.toNat*1,none⟩)) (O 68)::O 69::O 70::O 71::[])∧St w0 [Asc (D 6) (Row 26 (K.int .i16) v33 ([i16w r32.1])),Cells b4 ((encA (encI .i16)) (Ar.rep 4 0)) 27,Cells b8 (cnd (D 9) ((encA (encI .i16)) (x24.set x28 (i16w r31.1))) ((encA (encI .i16)) x24)) 27,Row 26 (K.int .i16) (cnd (D 7) v35 v26) (cnd (D 7) (x27++([i16w r32.1])) x27)] w) ?_ ⟨⟨⟨⟨⟨⟨⟨⟨⟨⟨⟨trivial,?_⟩,?_⟩,?_⟩,?_⟩,?_⟩,?_⟩,?_⟩,?_⟩,?_⟩,?_⟩,?_⟩ ?_
   ·
    intro w hh hbw
    have hs:=hs.samew hh hbw
    have hs:=hs.emp
    exact ⟨undef,undef,fun i=>T.getD i undef,(by subst hT;rfl),hs⟩
   ·
    rintro D t w hD hp hcl ⟨v33,v35,O,ht,hs⟩ rest hk
    have q8_:=nz hcl 8 0 hD
    have q9_:=nz hcl 9 0 q8_
    have q10_:=nz hcl 10 1 q9_
    simp only [hD,q8_,q9_,q10_,cq,oT] at ht hs
    subst ht
    refine Qaa (v:=int .i64 x28) rfl rfl rfl (g_d rfl ?_)
    try dsimp only [Qae,Qaf]
    refine hk _ _ ⟨v33,v35,O,?_,hs.cast ?_⟩<;>simp only [oT,lq,cq,Nat.reduceBEq,q8_,q9_,q10_]
   ·
    rintro D t w hD hp hcl ⟨v33,v35,O,ht,hs⟩ rest hk
    have q2_:=nz hcl 2 0 hD
    have q8_:=nz hcl 8 2 hD
    have q9_:=nz hcl 9 0 q8_
    have q10_:=nz hcl 10 1 q9_
    simp only [hD,q2_,q8_,q9_,q10_,cq,oT] at ht hs
    subst ht
    refine Qaa (v:=int .i64 r31.1) rfl rfl rfl (g_d rfl ?_)
    try dsimp only [Qae,Qaf]
    refine hk _ _ ⟨v33,v35,O,?_,hs.cast ?_⟩<;>simp only [oT,lq,cq,Nat.reduceBEq,q2_,q8_,q9_,q10_]
   ·
    rintro D t w hD hp hcl ⟨v33,v35,O,ht,hs⟩ rest hk
    obtain ⟨p1_,_⟩:=hp
    have q8_:=nz hcl 8 3 hD
    have q9_:=nz hcl 9 0 q8_
    have q10_:=nz hcl 10 1 q9_
    simp only [hD,p1_,q8_,q9_,q10_,cq,oT] at ht hs
    subst ht
    refine Qaa (v:=int .i16 (i16w r31.1)) rfl rfl rfl (g_d rfl ?_)
    try dsimp only [Qae,Qaf]
    refine hk _ _ ⟨v33,v35,O,?_,hs.cast ?_⟩<;>simp only [oT,lq,cq,Nat.reduceBEq,p1_,q8_,q9_,q10_]
   ·
    rintro D t w hD hp hcl ⟨v33,v35,O,ht,hs⟩ rest hk
    have q7_:=nz hcl 7 0 hD
    have q9_:=nz hcl 9 2 q7_
    have q10_:=nz hcl 10 0 q7_
    simp only [hD,q7_,q9_,q10_,cq,oT] at ht hs
    subst ht
    refine Qaa (v:=v26) rfl rfl rfl (g_d rfl ?_)
    try dsimp only [Qae,Qaf]
    refine hk _ _ ⟨v33,v35,O,?_,hs.cast ?_⟩<;>simp only [oT,lq,cq,Nat.reduceBEq,q7_,q9_,q10_]
   ·
    rintro D t w hD hp hcl ⟨v33,v35,O,ht,hs⟩ rest hk
    have q5_:=nz hcl 5 0 hD
    have q6_:=nz hcl 6 0 q5_
    have q7_:=nz hcl 7 1 q6_
    have q9_:=nz hcl 9 2 q7_
    have q10_:=nz hcl 10 0 q7_
    simp only [hD,q5_,q6_,q7_,q9_,q10_,cq,oT] at ht hs
    subst ht
    refine Qaa (v:=int .i64 r32.1) rfl rfl rfl (g_d rfl ?_)
    try dsimp only [Qae,Qaf]
    refine hk _ _ ⟨v33,v35,O,?_,hs.cast ?_⟩<;>simp only [oT,lq,cq,Nat.reduceBEq,q5_,q6_,q7_,q9_,q10_]
   ·
    rintro D t w hD hp hcl ⟨v33,v35,O,ht,hs⟩ rest hk
    obtain ⟨p4_,_⟩:=hp
    have q6_:=nz hcl 6 0 hD
    have q7_:=nz hcl 7 1 q6_
    have q9_:=nz hcl 9 2 q7_
    have q10_:=nz hcl 10 0 q7_
    simp only [hD,p4_,q6_,q7_,q9_,q10_,cq,oT] at ht hs
    subst ht
    refine Qaa (v:=int .i16 (i16w r32.1)) rfl rfl rfl (g_d rfl ?_)
    try dsimp only [Qae,Qaf]
    refine hk _ _ ⟨v33,v35,O,?_,hs.cast ?_⟩<;>simp only [oT,lq,cq,Nat.reduceBEq,p4_,q6_,q7_,q9_,q10_]
   ·
    rintro D t w hD hp hcl ⟨v33,v35,O,ht,hs⟩ rest hk
    obtain ⟨p5_,_⟩:=hp
    obtain ⟨p4_,_⟩:=(hcl.get 5 (by decide)) p5_
    have q7_:=nz hcl 7 1 hD
    have q9_:=nz hcl 9 2 q7_
    have q10_:=nz hcl 10 0 q7_
    simp only [hD,p4_,p5_,q7_,q9_,q10_,cq,oT] at ht hs
    subst ht
    refine QbZ (fkI .i16) (y:=i16w r32.1) hs rfl rfl rfl rfl (fun _=>rfl) (zv:=(int .i16 0)) (fun _=>rfl) rfl (by decide) (by decide) rfl ?_
    intro v33 w hs
    refine g_d rfl ?_
    try dsimp only [Qae,Qaf]
    have hs:=hs.fill 0 rfl
    refine hk _ _ ⟨v33,v35,O,?_,hs.cast ?_⟩<;>simp only [oT,lq,cq,Nat.reduceBEq,p4_,p5_,q7_,q9_,q10_]
   ·
    rintro D t w hD hp hcl ⟨v33,v35,O,ht,hs⟩ rest hk
    obtain ⟨p3_,p6_,_⟩:=hp
    obtain ⟨p5_,_⟩:=(hcl.get 6 (by decide)) p6_
    obtain ⟨p4_,_⟩:=(hcl.get 5 (by decide)) p5_
    have q9_:=nz hcl 9 2 hD
    have q10_:=nz hcl 10 0 hD
    simp only [hD,p3_,p4_,p5_,p6_,q9_,q10_,cq,oT] at ht hs
    subst ht
    have hs:St _ [_,_,_,_] _:=hs.pull 3 rfl
    refine QbU (fkI .i16) (zv:=(int .i16 0)) (B:=2) hs (hs.row 1 rfl) rfl rfl rfl rfl rfl rfl rfl rfl rfl (by decide) rfl rfl (by decide) (by have:=gq7_;omega) ?_
    intro v35 w hs
    refine g_d rfl ?_
    try dsimp only [Qae,Qaf]
    have hs:=hs.push 3 (by simp)
    refine hk _ _ ⟨v33,v35,O,?_,hs.cast ?_⟩<;>simp only [oT,lq,cq,Nat.reduceBEq,p3_,p4_,p5_,p6_,q9_,q10_]
   ·
    rintro D t w hD hp hcl ⟨v33,v35,O,ht,hs⟩ rest hk
    obtain ⟨p0_,_,p1_,p2_,_⟩:=hp
    have q9_:=nz hcl 9 0 hD
    have q10_:=nz hcl 10 1 q9_
    simp only [hD,p0_,p1_,p2_,q9_,q10_,cq,oT] at ht hs
    subst ht
    refine Qbp (n:=x28) (m:=1) rfl (fun _=>rfl) gd4.1 gd4.2 rfl rfl rfl rfl rfl (g_d rfl ?_)
    try dsimp only [Qae,Qaf]
    refine hk _ _ ⟨v33,v35,O,?_,hs.cast ?_⟩<;>simp only [oT,lq,cq,Nat.reduceBEq,p0_,p1_,p2_,q9_,q10_]
   ·
    rintro D t w hD hp hcl ⟨v33,v35,O,ht,hs⟩ rest hk
    obtain ⟨p8_,p2_,p7_,p0_,p1_,_,_⟩:=hp
    obtain ⟨p3_,p6_,_⟩:=(hcl.get 7 (by decide)) p7_
    obtain ⟨p5_,_⟩:=(hcl.get 6 (by decide)) p6_
    obtain ⟨p4_,_⟩:=(hcl.get 5 (by decide)) p5_
    have q10_:=nz hcl 10 1 hD
    simp only [hD,p0_,p1_,p2_,p3_,p4_,p5_,p6_,p7_,p8_,q10_,cq,oT] at ht hs
    subst ht
    have hs:St _ [_,_,_,_] _:=hs.pull 2 rfl
    refine QbN (y:=i16w r31.1) (fkI .i16).len (fkI .i16).one gd4.1 gd4.2 hs rfl rfl rfl rfl rfl (fun _=>rfl) ?_
    intro w hs
    refine g_n rfl ?_
    try dsimp only [Qae,Qaf]
    have hs:=hs.push 2 (by simp)
    refine hk _ _ ⟨v33,v35,O,?_,hs.cast ?_⟩<;>simp only [oT,lq,cq,Nat.reduceBEq,p0_,p1_,p2_,p3_,p4_,p5_,p6_,p7_,p8_,q10_]
   ·
    rintro D t w hD hp hcl ⟨v33,v35,O,ht,hs⟩ rest hk
    obtain ⟨p7_,p9_,p0_,p1_,p2_,p3_,p4_,p5_,p6_,_,p8_,_,_⟩:=hp
    simp only [hD,p0_,p1_,p2_,p3_,p4_,p5_,p6_,p7_,p8_,p9_,cq,oT] at ht hs
    subst ht
    refine Qaa (v:=v35) rfl rfl rfl (g_d rfl ?_)
    try dsimp only [Qae,Qaf]
    refine hk _ _ ⟨v33,v35,O,?_,hs.cast ?_⟩<;>simp only [oT,lq,cq,Nat.reduceBEq,p0_,p1_,p2_,p3_,p4_,p5_,p6_,p7_,p8_,p9_]
   intro D t w hall hI
   obtain ⟨v33,v35,O,ht,hs⟩:=hI
   have p0_:=hall 0 (by decide)
   have p1_:=hall 1 (by decide)
   have p2_:=hall 2 (by decide)
   have p3_:=hall 3 (by decide)
   have p4_:=hall 4 (by decide)
   have p5_:=hall 5 (by decide)
   have p6_:=hall 6 (by decide)
   have p7_:=hall 7 (by decide)
   have p8_:=hall 8 (by decide)
   have p9_:=hall 9 (by decide)
   have p10_:=hall 10 (by decide)
   simp only [p0_,p1_,p2_,p3_,p4_,p5_,p6_,p7_,p8_,p9_,p10_,cq,oT] at ht hs
   subst ht
   refine QaE (Qag [0,1] rfl ?_)
   refine Qaa (v:=int .i64 (i64w (x28+1))) rfl rfl rfl (g_d rfl ?_)
   try dsimp only [Qae,Qaf]
   refine Qaa (v:=int .i64 (i64w (x28+1))) rfl rfl rfl (g_d rfl (Qab ?_))
   obtain rfl:=QsJ H
   have hs:=hs.pull 3 rfl
   have hs:=hs.pull 3 rfl
   have hs:=hs.pull 3 rfl
   have hs:St _ [_,_,_] _:=St.take (Γ':=[_]) hs
   exact ih1_ _ _ ⟨x24.set x28 (i16w r31.1),v35,x27++([i16w r32.1]),i64w (x28+1),Hx1_,rfl,hs⟩
  intro hb
  rw [if_neg (b_var_f hb)] at H
  refine g_d rfl ?_
  refine Qaa (v:=bool true) rfl rfl rfl (g_d rfl ?_)
  refine Qaa (v:=bool true) rfl rfl rfl (g_d rfl (Qac rfl rfl (g_d rfl (Qac rfl rfl (g_d rfl ?_)))))
  try dsimp only [Qae,Qaf]
  refine Qaa (v:=bool true) rfl rfl rfl (g_d rfl ?_)
  refine Qaa (v:=bool true) rfl rfl rfl (g_d rfl (Qac rfl rfl (g_d rfl (Qac rfl rfl (g_d rfl ?_)))))
  try dsimp only [Qae,Qaf]
  refine Qaa (v:=bool true) rfl rfl rfl (g_d rfl ?_)
  refine Qaa (v:=bool true) rfl rfl rfl (g_d rfl (Qac rfl rfl (g_d rfl (Qac rfl rfl (g_d rfl ?_)))))
  try dsimp only [Qae,Qaf]
  refine Qaa (v:=bool true) rfl rfl rfl (g_d rfl (Qab (Qah rfl (Qad (Qag [0,1,2,3] rfl ?_)))))
  refine QaG rfl rfl (es:=((encA (encI .i16)) x24)) rfl rfl (fun _=>rfl) (n:=4) (fun _=>rfl) ((fkA (n:=4) (he:=(fkI .i16).len) (h1:=(fkI .i16).one)).len _) (cells_all (hs.cells 1 rfl)) (g_d rfl ?_)
  try dsimp only [Qae,Qaf]
  refine QaH (n:=4) hs ((fkA (n:=4) (he:=(fkI .i16).len) (h1:=(fkI .i16).one)).len _) rfl rfl (vs:=((encA (encI .i16)) x24)) rfl rfl rfl (fun _=>rfl) ((fkA (n:=4) (he:=(fkI .i16).len) (h1:=(fkI .i16).one)).len _) ((fkA (n:=4) (he:=(fkI .i16).len) (h1:=(fkI .i16).one)).one _) ?_
  intro w hs
  refine g_n rfl ?_
  refine Qaa (v:=slice none 0 0) rfl rfl rfl (g_d rfl ?_)
  refine Qaa (v:=bool false) rfl rfl rfl (g_d rfl ?_)
  try dsimp only [Qae,Qaf]
  refine Qab ?_
  obtain rfl:=QsJ H
  subst Hx1_
  have H:=QsJ Hr1_
  subst H
  refine Qas Tryz.func29 (v:=tuple #[agg ((encA (encI .i16)) x24).toArray,slice none 0 0,bool false]) (resN (l:=Tryz.f29.results.toList) (vs:=[agg ((encA (encI .i16)) x24).toArray,slice none 0 0,bool false]) rfl ⟨⟨_,rfl,(run_loadVar_agg (es:=((encA (encI .i16)) x24)) rfl (congrArg (Result.ok · _) ((fkA (n:=4) (he:=(fkI .i16).len) (h1:=(fkI .i16).one)).len _).symm) (cells_all (hs.cells 0 rfl)))⟩,rfl,rfl,trivial⟩ (by simp)) ?_
  have hs:=hs.nil 26 (K.int .i16)
  have hs:=hs.pull 0 rfl
  have hs:St _ [_] _:=St.take (Γ':=[_,_,_]) hs
  exact ⟨_,rfl,(slice none 0 0),rfl,hs⟩
 intro hb
 rw [if_neg (b_dec_f hb)] at H
 refine g_d rfl (Qab (Qad (Qal rfl ?_)))
 obtain rfl:=QsJ H
 subst Hx1_
 have hs:=hs.pull 2 rfl
 have hs:=hs.pull 2 rfl
 have hs:=hs.pull 2 rfl
 have hs:St _ [_,_,_] _:=St.take (Γ':=[]) hs
 refine Qa7 rfl ?_
 exact ha1_ _ _ ⟨x24,v26,x27,Hr1_,rfl,hs⟩
end Go.Proofs.YtgoninfjneepfaaGreatDoorX
