import Derived.Test.YtljkpeeabpdalaaDoorP6
namespace Go.Proofs.YtljkpeeabpdalaaDoorX
open Go Go.RowKit Go.Proofs
open Go.Value (int pointer bool agg slice string tuple)
set_option maxHeartbeats 8000000
set_option maxRecDepth 100000
set_option linter.unusedVariables false
set_option linter.unusedSimpArgs false
def QaM.post (w0:World) (r:ByteArray) (v:Value) (w:World):Prop:=v=string r∧St w0 [] w
theorem QaM.calls {N:Nat} {a1:Int} {w0:World} {r:ByteArray} (H:QaM.f N a1=some r):
 Calls Tryd.prog 37 #[int .u64 a1] w0 fun e w=>∃ v,e= .returned v∧QaM.post w0 r v w:=by
 unfold QaM.f at H
 have hs:St w0 [] w0:=St.refl w0
 refine calls_of_g (n:=22) Tryd.func37 rfl rfl ?_
 show G _ _ _ _ [_,_,_,_,_,_,_,_,_,_,_,_,_,_,_,_,_,_,_,_,_,_,_] _
 refine Qad (Qaj [0] rfl ?_)
 refine Qaa (v:=string (⟨#[]⟩:ByteArray)) rfl rfl rfl (Qab (Qad (Qaj [0] rfl ?_)))
 refine Qaa (v:=string (⟨#[48,49,50,51,52,53,54,55,56,57,97,98,99,100,101,102]⟩:ByteArray)) rfl rfl rfl (Qab (Qad (Qaj [0,1] rfl ?_)))
 refine Qb0 (κ:=(K.int .u8)) hs rfl rfl rfl rfl (fun _=>rfl) ?_
 intro v2 w hs
 show G _ _ _ _ [_,_,_,_,_,_,_,_,_,_,_,_,_,_,_,_,_,_,_,_,_,_,_] _
 refine Qaa (v:=v2) rfl rfl rfl (Qab (Qad (Qad (Qaj [0] rfl ?_))))
 refine Qaa (v:=int .i64 60) rfl rfl rfl (Qab ?_)
 obtain ⟨o1_,Ho,Hr1_⟩:=bind_get H
 refine QaT (J:=fun t w=>∃ v12:Value,∃ x13:(List Int),QaM.a0 N x13=some r∧Fr t (fun O=>([O 0,O 1,O 2,O 3,v12,O 5,O 6,O 7,O 8,O 9,O 10,O 11,O 12,O 13,O 14,O 15,O 16,O 17,O 18,O 19,O 20,O 21,O 22]:List Value))∧St w0 [Row 5 (K.int .u8) v12 x13] w) ?_ ?_
 ·
  rintro t w ⟨v12,x13,H,hf,hs⟩
  obtain ⟨O,rfl⟩:=hf.open
  show G _ _ _ _ [_,_,_,_,_,_,_,_,_,_,_,_,_,_,_,_,_,_,_,_,_,_,_] _
  unfold QaM.a0 at H
  refine Qad (Qaj [0,1,2] rfl ?_)
  refine Qaa (v:=v12) rfl rfl rfl ?_
  refine Qaa (v:=string (bsOf x13)) rfl rfl (Qbt rfl rfl rfl rfl rfl (hs.row 0 rfl)) ?_
  show G _ _ _ _ [_,_,_,_,_,_,_,_,_,_,_,_,_,_,_,_,_,_,_,_,_,_,_] _
  refine Qaa (v:=string (bsOf x13)) rfl rfl rfl (Qab ?_)
  obtain rfl:=QsJ H
  refine Qax Tryd.func37 (v:=string (bsOf x13)) (res1 rfl rfl) ?_
  have hs:St _ [] _:=St.take (Γ':=[_]) hs
  exact ⟨_,rfl,rfl,hs⟩
 intro ha1_
 have hs:=hs.pull 0 rfl
 have hs:St _ [_] _:=St.take (Γ':=[]) hs
 refine Qa2 (I:=fun n_ t w=>∃ v5:Value,∃ x6:(List Int),∃ x7:Int,rounds (fun s=>QaM.b0 N a1 s.1 s.2) n_ (x6,x7)=some o1_∧Fr t (fun O=>([int .u64 a1,O 1,O 2,string (⟨#[48,49,50,51,52,53,54,55,56,57,97,98,99,100,101,102]⟩:ByteArray),v5,int .i64 x7,O 6,O 7,O 8,O 9,O 10,O 11,O 12,O 13,O 14,O 15,O 16,O 17,O 18,O 19,O 20,O 21,O 22]:List Value))∧St w0 [Row 5 (K.int .u8) v5 x6] w) N ⟨v2,([]:List Int),60,Ho,rfl,hs⟩ ?_ ?_
 ·
  rintro _ _ ⟨v5,x6,x7,h,_⟩
  exact rounds_zero h
 intro n_ ih1_
 rintro t w ⟨v5,x6,x7,Ho,hf,hs⟩
 obtain ⟨O,rfl⟩:=hf.open
 show G _ _ _ _ [_,_,_,_,_,_,_,_,_,_,_,_,_,_,_,_,_,_,_,_,_,_,_] _
 obtain ⟨x3_,H,Hx1_⟩:=rounds_succ Ho
 have H:QaM.b0 N a1 x6 x7=some x3_:=H
 unfold QaM.b0 at H
 refine Qad (Qad (Qaj [0,1] rfl ?_))
 refine Qaa (v:=int .i64 x7) rfl rfl rfl ?_
 show G _ _ _ _ [_,_,_,_,_,_,_,_,_,_,_,_,_,_,_,_,_,_,_,_,_,_,_] _
 refine Qau (B:=decide (x7≥0)) rfl rfl rfl ?_ ?_
 ·
  intro hb
  rw [if_pos (b_dec_t hb)] at H
  refine Qab (Qap rfl (Qay (Qad ?_)))
  refine Qbd (Qaj [0,1,2,3,4,5,6,7,8,9,10] rfl ?_)
  refine Qaa (v:=v5) rfl rfl rfl ?_
  show G _ _ _ _ [_,_,_,_,_,_,_,_,_,_,_,_,_,_,_,_,_,_,_,_,_,_,_] _
  refine Qaa (v:=string (⟨#[48,49,50,51,52,53,54,55,56,57,97,98,99,100,101,102]⟩:ByteArray)) rfl rfl rfl ?_
  refine Qaa (v:=int .u64 a1) rfl rfl rfl ?_
  refine Qaa (v:=int .i64 x7) rfl rfl rfl ?_
  show G _ _ _ _ [_,_,_,_,_,_,_,_,_,_,_,_,_,_,_,_,_,_,_,_,_,_,_] _
  refine Qaa (v:=int .u64 (u64w x7)) rfl rfl rfl ?_
  obtain ⟨g1,H⟩:=ite_get H
  refine Qaa (v:=int .u64 (shrI .u64 a1 (u64w x7))) rfl rfl (QbM rfl rfl rfl g1) ?_
  refine Qaa (v:=int .u64 (bAnd .u64 (shrI .u64 a1 (u64w x7)) 15)) rfl rfl rfl ?_
  show G _ _ _ _ [_,_,_,_,_,_,_,_,_,_,_,_,_,_,_,_,_,_,_,_,_,_,_] _
  obtain ⟨g2,H⟩:=ite_get H
  refine Qaa (v:=int .u8 (btS (⟨#[48,49,50,51,52,53,54,55,56,57,97,98,99,100,101,102]⟩:ByteArray) (bAnd .u64 (shrI .u64 a1 (u64w x7)) 15))) rfl rfl (Qbm rfl rfl rfl rfl g2.1 g2.2) ?_
  show G _ _ _ _ [_,_,_,_,_,_,_,_,_,_,_,_,_,_,_,_,_,_,_,_,_,_,_] _
  refine QbH (fkI .u8) (y:=btS (⟨#[48,49,50,51,52,53,54,55,56,57,97,98,99,100,101,102]⟩:ByteArray) (bAnd .u64 (shrI .u64 a1 (u64w x7)) 15)) hs rfl rfl rfl rfl (fun _=>rfl) (zv:=(int .u8 0)) (fun _=>rfl) rfl (by decide) (by decide) rfl ?_
  intro v8 w hs
  have hs:St _ [_,_] _:=hs.pull 1 rfl
  obtain ⟨g,H⟩:=ite_get H
  refine QbR (fkI .u8) (zv:=(int .u8 0)) (B:=1) hs (hs.row 1 rfl) rfl rfl rfl rfl rfl rfl rfl rfl rfl (by decide) rfl rfl (by decide) (by omega) ?_
  intro v10 w hs
  show G _ _ _ _ [_,_,_,_,_,_,_,_,_,_,_,_,_,_,_,_,_,_,_,_,_,_,_] _
  refine Qaa (v:=v10) rfl rfl rfl (Qab ?_)
  refine QaB (Qaj [0,1,2] rfl ?_)
  refine Qaa (v:=int .i64 x7) rfl rfl rfl ?_
  refine Qaa (v:=int .i64 (i64w (x7 - 4))) rfl rfl rfl ?_
  show G _ _ _ _ [_,_,_,_,_,_,_,_,_,_,_,_,_,_,_,_,_,_,_,_,_,_,_] _
  refine Qaa (v:=int .i64 (i64w (x7 - 4))) rfl rfl rfl (Qab ?_)
  obtain rfl:=QsJ H
  have hs:=hs.pull 0 rfl
  have hs:St _ [_] _:=St.take (Γ':=[_]) hs
  exact ih1_ _ _ ⟨v10,x6++([btS (⟨#[48,49,50,51,52,53,54,55,56,57,97,98,99,100,101,102]⟩:ByteArray) (bAnd .u64 (shrI .u64 a1 (u64w x7)) 15)]),i64w (x7 - 4),Hx1_,rfl,hs⟩
 intro hb
 rw [if_neg (b_dec_f hb)] at H
 refine Qab (Qag rfl ?_)
 obtain rfl:=QsJ H
 subst Hx1_
 have hs:=hs.pull 0 rfl
 have hs:St _ [_] _:=St.take (Γ':=[]) hs
 refine Qbh rfl ?_
 exact ha1_ _ _ ⟨v5,x6,Hr1_,rfl,hs⟩
def QaF.post (w0:World) (r:ByteArray) (v:Value) (w:World):Prop:=v=string r∧St w0 [] w
theorem QaF.calls {N:Nat} {a1:Qar} {b2:Nat} {v3:Value} {w0:World} {r:ByteArray} (hr4:RdRow QaC w0 v3 a1.Qaf) (hp0:w0.heap[b2]?=some (.cells ((([int .i8 a1.Qac,int .i8 a1.Qak,v3]:List Value)):List Value).toArray 30 (0,0))) (H:QaF.f N a1=some r):
 Calls Tryd.prog 16 #[pointer (some ⟨b2,0,none⟩)] w0 fun e w=>∃ v,e= .returned v∧QaF.post w0 r v w:=by
 unfold QaF.f at H
 have hs:St w0 [] w0:=St.refl w0
 refine calls_of_g (n:=52) Tryd.func16 rfl rfl ?_
 show G _ _ _ _ [_,_,_,_,_,_,_,_,_,_,_,_,_,_,_,_,_,_,_,_,_,_,_,_,_,_,_,_,_,_,_,_,_,_,_,_,_,_,_,_,_,_,_,_,_,_,_,_,_,_,_,_,_] _
 refine Qad (Qaj [0] rfl ?_)
 refine Qaa (v:=string (⟨#[]⟩:ByteArray)) rfl rfl rfl (Qab (Qad ?_))
 obtain ⟨r6,Hr6,H⟩:=bind_get H
 obtain ⟨gs1,H⟩:=ite_get H
 obtain ⟨r7,Hr7,H⟩:=bind_get H
 obtain ⟨gs2,H⟩:=ite_get H
 obtain ⟨gs3,H⟩:=ite_get H
 refine Qbn ?_
 intro T hT
 refine QbL (n:=16) rfl [0,1,2,3,4,5,6,7,8,9,10,11,12,13,14,15] [0,1,2,3,4,5,6,7,8,9,10,11,12,13,14,15] rfl rfl (Inv:=fun D t w=>∃ O:Nat→Value,t=[pointer (some ⟨b2,0,none⟩),O 1,string (⟨#[]⟩:ByteArray),cnd (D 15) (string (((r6++(⟨#[32]⟩:ByteArray))++r7)++(⟨#[10]⟩:ByteArray))) (O 3),O 4,cnd (D 0) (pointer (some ⟨b2,0,none⟩)) (O 5),cnd (D 1) (pointer (some ⟨b2,0,none⟩)) (O 6),cnd (D 2) (pointer (some ⟨b2,0,none⟩)) (O 7),cnd (D 3) (int .i8 a1.Qac) (O 8),cnd (D 4) (int .i64 (i64w a1.Qac)) (O 9),cnd (D 5) (string r6) (O 10),cnd (D 6) (string (r6++(⟨#[32]⟩:ByteArray))) (O 11),cnd (D 7) (pointer (some ⟨b2,0,none⟩)) (O 12),cnd (D 8) (pointer (some ⟨b2,0,none⟩)) (O 13),cnd (D 9) (pointer (some ⟨b2,1,none⟩)) (O 14),cnd (D 10) (int .i8 a1.Qak) (O 15),cnd (D 11) (int .i64 (i64w a1.Qak)) (O 16),cnd (D 12) (string r7) (O 17),cnd (D 13) (string ((r6++(⟨#[32]⟩:ByteArray))++r7)) (O 18),cnd (D 14) (string (((r6++(⟨#[32]⟩:ByteArray))++r7)++(⟨#[10]⟩:ByteArray))) (O 19),O 20,O 21,O 22,O 23,O 24,O 25,O 26,O 27,O 28,O 29,O 30,O 31,O 32,O 33,O 34,O 35,O 36,O 37,O 38,O 39,O 40,O 41,O 42,O 43,O 44,O 45,O 46,O 47,O 48,O 49,O 50,O 51,O 52]∧St w0 [] w) ?_ ⟨⟨⟨⟨⟨⟨⟨⟨⟨⟨⟨⟨⟨⟨⟨⟨trivial,?_⟩,?_⟩,?_⟩,?_⟩,?_⟩,?_⟩,?_⟩,?_⟩,?_⟩,?_⟩,?_⟩,?_⟩,?_⟩,?_⟩,?_⟩,?_⟩ ?_
 ·
  intro w hh hbw
  have hs:=hs.samew hh hbw
  exact ⟨fun i=>T.getD i undef,(by subst hT;rfl),hs⟩
 ·
  rintro D t w hD hp hcl ⟨O,ht,hs⟩ rest hk
  have q1_:=nz hcl 1 0 hD
  have q2_:=nz hcl 2 0 q1_
  have q3_:=nz hcl 3 0 q2_
  have q4_:=nz hcl 4 0 q3_
  have q5_:=nz hcl 5 0 q4_
  have q6_:=nz hcl 6 0 q5_
  have q12_:=nz hcl 12 1 q5_
  have q13_:=nz hcl 13 0 q6_
  have q14_:=nz hcl 14 0 q13_
  have q15_:=nz hcl 15 0 q14_
  simp only [hD,q1_,q2_,q3_,q4_,q5_,q6_,q12_,q13_,q14_,q15_,cq,oT] at ht hs
  subst ht
  refine Qaa (v:=pointer (some ⟨b2,0,none⟩)) rfl rfl rfl ?_
  show G _ _ _ _ [_,_,_,_,_,_,_,_,_,_,_,_,_,_,_,_,_,_,_,_,_,_,_,_,_,_,_,_,_,_,_,_,_,_,_,_,_,_,_,_,_,_,_,_,_,_,_,_,_,_,_,_,_] _
  refine hk _ _ ⟨O,?_,hs.cast ?_⟩<;>simp only [oT,lq,cq,Nat.reduceBEq,q1_,q2_,q3_,q4_,q5_,q6_,q12_,q13_,q14_,q15_]
 ·
  rintro D t w hD hp hcl ⟨O,ht,hs⟩ rest hk
  obtain ⟨p0_,_⟩:=hp
  have q2_:=nz hcl 2 0 hD
  have q3_:=nz hcl 3 0 q2_
  have q4_:=nz hcl 4 0 q3_
  have q5_:=nz hcl 5 0 q4_
  have q6_:=nz hcl 6 0 q5_
  have q12_:=nz hcl 12 1 q5_
  have q13_:=nz hcl 13 0 q6_
  have q14_:=nz hcl 14 0 q13_
  have q15_:=nz hcl 15 0 q14_
  simp only [hD,p0_,q2_,q3_,q4_,q5_,q6_,q12_,q13_,q14_,q15_,cq,oT] at ht hs
  subst ht
  refine Qaa (v:=pointer (some ⟨b2,0,none⟩)) rfl rfl rfl ?_
  show G _ _ _ _ [_,_,_,_,_,_,_,_,_,_,_,_,_,_,_,_,_,_,_,_,_,_,_,_,_,_,_,_,_,_,_,_,_,_,_,_,_,_,_,_,_,_,_,_,_,_,_,_,_,_,_,_,_] _
  refine hk _ _ ⟨O,?_,hs.cast ?_⟩<;>simp only [oT,lq,cq,Nat.reduceBEq,p0_,q2_,q3_,q4_,q5_,q6_,q12_,q13_,q14_,q15_]
 ·
  rintro D t w hD hp hcl ⟨O,ht,hs⟩ rest hk
  obtain ⟨p1_,_⟩:=hp
  obtain ⟨p0_,_⟩:=(hcl.get 1 (by decide)) p1_
  have q3_:=nz hcl 3 0 hD
  have q4_:=nz hcl 4 0 q3_
  have q5_:=nz hcl 5 0 q4_
  have q6_:=nz hcl 6 0 q5_
  have q12_:=nz hcl 12 1 q5_
  have q13_:=nz hcl 13 0 q6_
  have q14_:=nz hcl 14 0 q13_
  have q15_:=nz hcl 15 0 q14_
  simp only [hD,p0_,p1_,q3_,q4_,q5_,q6_,q12_,q13_,q14_,q15_,cq,oT] at ht hs
  subst ht
  refine Qaa (v:=pointer (some ⟨b2,0,none⟩)) rfl rfl rfl ?_
  show G _ _ _ _ [_,_,_,_,_,_,_,_,_,_,_,_,_,_,_,_,_,_,_,_,_,_,_,_,_,_,_,_,_,_,_,_,_,_,_,_,_,_,_,_,_,_,_,_,_,_,_,_,_,_,_,_,_] _
  refine hk _ _ ⟨O,?_,hs.cast ?_⟩<;>simp only [oT,lq,cq,Nat.reduceBEq,p0_,p1_,q3_,q4_,q5_,q6_,q12_,q13_,q14_,q15_]
 ·
  rintro D t w hD hp hcl ⟨O,ht,hs⟩ rest hk
  obtain ⟨p2_,_⟩:=hp
  obtain ⟨p1_,_⟩:=(hcl.get 2 (by decide)) p2_
  obtain ⟨p0_,_⟩:=(hcl.get 1 (by decide)) p1_
  have q4_:=nz hcl 4 0 hD
  have q5_:=nz hcl 5 0 q4_
  have q6_:=nz hcl 6 0 q5_
  have q12_:=nz hcl 12 1 q5_
  have q13_:=nz hcl 13 0 q6_
  have q14_:=nz hcl 14 0 q13_
  have q15_:=nz hcl 15 0 q14_
  simp only [hD,p0_,p1_,p2_,q4_,q5_,q6_,q12_,q13_,q14_,q15_,cq,oT] at ht hs
  subst ht
  refine QaH rfl rfl (v:=int .i8 a1.Qac) rfl rfl (fun _=>rfl) (cells_load (hs.box hp0) 0 1 rfl) ?_
  show G _ _ _ _ [_,_,_,_,_,_,_,_,_,_,_,_,_,_,_,_,_,_,_,_,_,_,_,_,_,_,_,_,_,_,_,_,_,_,_,_,_,_,_,_,_,_,_,_,_,_,_,_,_,_,_,_,_] _
  refine hk _ _ ⟨O,?_,hs.cast ?_⟩<;>simp only [oT,lq,cq,Nat.reduceBEq,p0_,p1_,p2_,q4_,q5_,q6_,q12_,q13_,q14_,q15_]
 ·
  rintro D t w hD hp hcl ⟨O,ht,hs⟩ rest hk
  obtain ⟨p3_,_⟩:=hp
  obtain ⟨p2_,_⟩:=(hcl.get 3 (by decide)) p3_
  obtain ⟨p1_,_⟩:=(hcl.get 2 (by decide)) p2_
  obtain ⟨p0_,_⟩:=(hcl.get 1 (by decide)) p1_
  have q5_:=nz hcl 5 0 hD
  have q6_:=nz hcl 6 0 q5_
  have q12_:=nz hcl 12 1 q5_
  have q13_:=nz hcl 13 0 q6_
  have q14_:=nz hcl 14 0 q13_
  have q15_:=nz hcl 15 0 q14_
  simp only [hD,p0_,p1_,p2_,p3_,q5_,q6_,q12_,q13_,q14_,q15_,cq,oT] at ht hs
  subst ht
  refine Qaa (v:=int .i64 (i64w a1.Qac)) rfl rfl rfl ?_
  show G _ _ _ _ [_,_,_,_,_,_,_,_,_,_,_,_,_,_,_,_,_,_,_,_,_,_,_,_,_,_,_,_,_,_,_,_,_,_,_,_,_,_,_,_,_,_,_,_,_,_,_,_,_,_,_,_,_] _
  refine hk _ _ ⟨O,?_,hs.cast ?_⟩<;>simp only [oT,lq,cq,Nat.reduceBEq,p0_,p1_,p2_,p3_,q5_,q6_,q12_,q13_,q14_,q15_]
 ·
  rintro D t w hD hp hcl ⟨O,ht,hs⟩ rest hk
  obtain ⟨p4_,_⟩:=hp
  obtain ⟨p3_,_⟩:=(hcl.get 4 (by decide)) p4_
  obtain ⟨p2_,_⟩:=(hcl.get 3 (by decide)) p3_
  obtain ⟨p1_,_⟩:=(hcl.get 2 (by decide)) p2_
  obtain ⟨p0_,_⟩:=(hcl.get 1 (by decide)) p1_
  have q6_:=nz hcl 6 0 hD
  have q12_:=nz hcl 12 1 hD
  have q13_:=nz hcl 13 0 q6_
  have q14_:=nz hcl 14 0 q13_
  have q15_:=nz hcl 15 0 q14_
  simp only [hD,p0_,p1_,p2_,p3_,p4_,q6_,q12_,q13_,q14_,q15_,cq,oT] at ht hs
  subst ht
  refine Qaz (args:=[int .i64 (i64w a1.Qac)]) rfl rfl (Qaw rfl (callFunc_enter Tryd.func36 rfl rfl) rfl) (QaA.calls (a1:=i64w a1.Qac) Hr6) ?_
  rintro _ w ⟨rfl,hs2⟩
  have hs:St _ [] _:=hs.call hs2
  show G _ _ _ _ [_,_,_,_,_,_,_,_,_,_,_,_,_,_,_,_,_,_,_,_,_,_,_,_,_,_,_,_,_,_,_,_,_,_,_,_,_,_,_,_,_,_,_,_,_,_,_,_,_,_,_,_,_] _
  refine hk _ _ ⟨O,?_,hs.cast ?_⟩<;>simp only [oT,lq,cq,Nat.reduceBEq,p0_,p1_,p2_,p3_,p4_,q6_,q12_,q13_,q14_,q15_]
 ·
  rintro D t w hD hp hcl ⟨O,ht,hs⟩ rest hk
  obtain ⟨p5_,_⟩:=hp
  obtain ⟨p4_,_⟩:=(hcl.get 5 (by decide)) p5_
  obtain ⟨p3_,_⟩:=(hcl.get 4 (by decide)) p4_
  obtain ⟨p2_,_⟩:=(hcl.get 3 (by decide)) p3_
  obtain ⟨p1_,_⟩:=(hcl.get 2 (by decide)) p2_
  obtain ⟨p0_,_⟩:=(hcl.get 1 (by decide)) p1_
  have q13_:=nz hcl 13 0 hD
  have q14_:=nz hcl 14 0 q13_
  have q15_:=nz hcl 15 0 q14_
  simp only [hD,p0_,p1_,p2_,p3_,p4_,p5_,q13_,q14_,q15_,cq,oT] at ht hs
  subst ht
  refine Qaa (v:=string (r6++(⟨#[32]⟩:ByteArray))) rfl rfl (Qbg rfl rfl rfl gs1) ?_
  show G _ _ _ _ [_,_,_,_,_,_,_,_,_,_,_,_,_,_,_,_,_,_,_,_,_,_,_,_,_,_,_,_,_,_,_,_,_,_,_,_,_,_,_,_,_,_,_,_,_,_,_,_,_,_,_,_,_] _
  refine hk _ _ ⟨O,?_,hs.cast ?_⟩<;>simp only [oT,lq,cq,Nat.reduceBEq,p0_,p1_,p2_,p3_,p4_,p5_,q13_,q14_,q15_]
 ·
  rintro D t w hD hp hcl ⟨O,ht,hs⟩ rest hk
  have q8_:=nz hcl 8 0 hD
  have q9_:=nz hcl 9 0 q8_
  have q10_:=nz hcl 10 0 q9_
  have q11_:=nz hcl 11 0 q10_
  have q12_:=nz hcl 12 0 q11_
  have q13_:=nz hcl 13 1 q12_
  have q14_:=nz hcl 14 0 q13_
  have q15_:=nz hcl 15 0 q14_
  simp only [hD,q8_,q9_,q10_,q11_,q12_,q13_,q14_,q15_,cq,oT] at ht hs
  subst ht
  refine Qaa (v:=pointer (some ⟨b2,0,none⟩)) rfl rfl rfl ?_
  show G _ _ _ _ [_,_,_,_,_,_,_,_,_,_,_,_,_,_,_,_,_,_,_,_,_,_,_,_,_,_,_,_,_,_,_,_,_,_,_,_,_,_,_,_,_,_,_,_,_,_,_,_,_,_,_,_,_] _
  refine hk _ _ ⟨O,?_,hs.cast ?_⟩<;>simp only [oT,lq,cq,Nat.reduceBEq,q8_,q9_,q10_,q11_,q12_,q13_,q14_,q15_]
 ·
  rintro D t w hD hp hcl ⟨O,ht,hs⟩ rest hk
  obtain ⟨p7_,_⟩:=hp
  have q9_:=nz hcl 9 0 hD
  have q10_:=nz hcl 10 0 q9_
  have q11_:=nz hcl 11 0 q10_
  have q12_:=nz hcl 12 0 q11_
  have q13_:=nz hcl 13 1 q12_
  have q14_:=nz hcl 14 0 q13_
  have q15_:=nz hcl 15 0 q14_
  simp only [hD,p7_,q9_,q10_,q11_,q12_,q13_,q14_,q15_,cq,oT] at ht hs
  subst ht
  refine Qaa (v:=pointer (some ⟨b2,0,none⟩)) rfl rfl rfl ?_
  show G _ _ _ _ [_,_,_,_,_,_,_,_,_,_,_,_,_,_,_,_,_,_,_,_,_,_,_,_,_,_,_,_,_,_,_,_,_,_,_,_,_,_,_,_,_,_,_,_,_,_,_,_,_,_,_,_,_] _
  refine hk _ _ ⟨O,?_,hs.cast ?_⟩<;>simp only [oT,lq,cq,Nat.reduceBEq,p7_,q9_,q10_,q11_,q12_,q13_,q14_,q15_]
 ·
  rintro D t w hD hp hcl ⟨O,ht,hs⟩ rest hk
  obtain ⟨p8_,_⟩:=hp
  obtain ⟨p7_,_⟩:=(hcl.get 8 (by decide)) p8_
  have q10_:=nz hcl 10 0 hD
  have q11_:=nz hcl 11 0 q10_
  have q12_:=nz hcl 12 0 q11_
  have q13_:=nz hcl 13 1 q12_
  have q14_:=nz hcl 14 0 q13_
  have q15_:=nz hcl 15 0 q14_
  simp only [hD,p7_,p8_,q10_,q11_,q12_,q13_,q14_,q15_,cq,oT] at ht hs
  subst ht
  refine Qaa (v:=pointer (some ⟨b2,1,none⟩)) rfl rfl rfl ?_
  show G _ _ _ _ [_,_,_,_,_,_,_,_,_,_,_,_,_,_,_,_,_,_,_,_,_,_,_,_,_,_,_,_,_,_,_,_,_,_,_,_,_,_,_,_,_,_,_,_,_,_,_,_,_,_,_,_,_] _
  refine hk _ _ ⟨O,?_,hs.cast ?_⟩<;>simp only [oT,lq,cq,Nat.reduceBEq,p7_,p8_,q10_,q11_,q12_,q13_,q14_,q15_]
 ·
  rintro D t w hD hp hcl ⟨O,ht,hs⟩ rest hk
  obtain ⟨p9_,_⟩:=hp
  obtain ⟨p8_,_⟩:=(hcl.get 9 (by decide)) p9_
  obtain ⟨p7_,_⟩:=(hcl.get 8 (by decide)) p8_
  have q11_:=nz hcl 11 0 hD
  have q12_:=nz hcl 12 0 q11_
  have q13_:=nz hcl 13 1 q12_
  have q14_:=nz hcl 14 0 q13_
  have q15_:=nz hcl 15 0 q14_
  simp only [hD,p7_,p8_,p9_,q11_,q12_,q13_,q14_,q15_,cq,oT] at ht hs
  subst ht
  refine QaH rfl rfl (v:=int .i8 a1.Qak) rfl rfl (fun _=>rfl) (cells_load (hs.box hp0) 1 1 rfl) ?_
  show G _ _ _ _ [_,_,_,_,_,_,_,_,_,_,_,_,_,_,_,_,_,_,_,_,_,_,_,_,_,_,_,_,_,_,_,_,_,_,_,_,_,_,_,_,_,_,_,_,_,_,_,_,_,_,_,_,_] _
  refine hk _ _ ⟨O,?_,hs.cast ?_⟩<;>simp only [oT,lq,cq,Nat.reduceBEq,p7_,p8_,p9_,q11_,q12_,q13_,q14_,q15_]
 ·
  rintro D t w hD hp hcl ⟨O,ht,hs⟩ rest hk
  obtain ⟨p10_,_⟩:=hp
  obtain ⟨p9_,_⟩:=(hcl.get 10 (by decide)) p10_
  obtain ⟨p8_,_⟩:=(hcl.get 9 (by decide)) p9_
  obtain ⟨p7_,_⟩:=(hcl.get 8 (by decide)) p8_
  have q12_:=nz hcl 12 0 hD
  have q13_:=nz hcl 13 1 q12_
  have q14_:=nz hcl 14 0 q13_
  have q15_:=nz hcl 15 0 q14_
  simp only [hD,p7_,p8_,p9_,p10_,q12_,q13_,q14_,q15_,cq,oT] at ht hs
  subst ht
  refine Qaa (v:=int .i64 (i64w a1.Qak)) rfl rfl rfl ?_
  show G _ _ _ _ [_,_,_,_,_,_,_,_,_,_,_,_,_,_,_,_,_,_,_,_,_,_,_,_,_,_,_,_,_,_,_,_,_,_,_,_,_,_,_,_,_,_,_,_,_,_,_,_,_,_,_,_,_] _
  refine hk _ _ ⟨O,?_,hs.cast ?_⟩<;>simp only [oT,lq,cq,Nat.reduceBEq,p7_,p8_,p9_,p10_,q12_,q13_,q14_,q15_]
 ·
  rintro D t w hD hp hcl ⟨O,ht,hs⟩ rest hk
  obtain ⟨p11_,p5_,_⟩:=hp
  obtain ⟨p10_,_⟩:=(hcl.get 11 (by decide)) p11_
  obtain ⟨p9_,_⟩:=(hcl.get 10 (by decide)) p10_
  obtain ⟨p8_,_⟩:=(hcl.get 9 (by decide)) p9_
  obtain ⟨p7_,_⟩:=(hcl.get 8 (by decide)) p8_
  obtain ⟨p4_,_⟩:=(hcl.get 5 (by decide)) p5_
  obtain ⟨p3_,_⟩:=(hcl.get 4 (by decide)) p4_
  obtain ⟨p2_,_⟩:=(hcl.get 3 (by decide)) p3_
  obtain ⟨p1_,_⟩:=(hcl.get 2 (by decide)) p2_
  obtain ⟨p0_,_⟩:=(hcl.get 1 (by decide)) p1_
  have q13_:=nz hcl 13 1 hD
  have q14_:=nz hcl 14 0 q13_
  have q15_:=nz hcl 15 0 q14_
  simp only [hD,p0_,p1_,p2_,p3_,p4_,p5_,p7_,p8_,p9_,p10_,p11_,q13_,q14_,q15_,cq,oT] at ht hs
  subst ht
  refine Qaz (args:=[int .i64 (i64w a1.Qak)]) rfl rfl (Qaw rfl (callFunc_enter Tryd.func36 rfl rfl) rfl) (QaA.calls (a1:=i64w a1.Qak) Hr7) ?_
  rintro _ w ⟨rfl,hs2⟩
  have hs:St _ [] _:=hs.call hs2
  show G _ _ _ _ [_,_,_,_,_,_,_,_,_,_,_,_,_,_,_,_,_,_,_,_,_,_,_,_,_,_,_,_,_,_,_,_,_,_,_,_,_,_,_,_,_,_,_,_,_,_,_,_,_,_,_,_,_] _
  refine hk _ _ ⟨O,?_,hs.cast ?_⟩<;>simp only [oT,lq,cq,Nat.reduceBEq,p0_,p1_,p2_,p3_,p4_,p5_,p7_,p8_,p9_,p10_,p11_,q13_,q14_,q15_]
 ·
  rintro D t w hD hp hcl ⟨O,ht,hs⟩ rest hk
  obtain ⟨p6_,p12_,_⟩:=hp
  obtain ⟨p11_,p5_,_⟩:=(hcl.get 12 (by decide)) p12_
  obtain ⟨p10_,_⟩:=(hcl.get 11 (by decide)) p11_
  obtain ⟨p9_,_⟩:=(hcl.get 10 (by decide)) p10_
  obtain ⟨p8_,_⟩:=(hcl.get 9 (by decide)) p9_
  obtain ⟨p7_,_⟩:=(hcl.get 8 (by decide)) p8_
  obtain ⟨p4_,_⟩:=(hcl.get 5 (by decide)) p5_
  obtain ⟨p3_,_⟩:=(hcl.get 4 (by decide)) p4_
  obtain ⟨p2_,_⟩:=(hcl.get 3 (by decide)) p3_
  obtain ⟨p1_,_⟩:=(hcl.get 2 (by decide)) p2_
  obtain ⟨p0_,_⟩:=(hcl.get 1 (by decide)) p1_
  have q14_:=nz hcl 14 0 hD
  have q15_:=nz hcl 15 0 q14_
  simp only [hD,p0_,p1_,p2_,p3_,p4_,p5_,p6_,p7_,p8_,p9_,p10_,p11_,p12_,q14_,q15_,cq,oT] at ht hs
  subst ht
  refine Qaa (v:=string ((r6++(⟨#[32]⟩:ByteArray))++r7)) rfl rfl (Qbg rfl rfl rfl gs2) ?_
  show G _ _ _ _ [_,_,_,_,_,_,_,_,_,_,_,_,_,_,_,_,_,_,_,_,_,_,_,_,_,_,_,_,_,_,_,_,_,_,_,_,_,_,_,_,_,_,_,_,_,_,_,_,_,_,_,_,_] _
  refine hk _ _ ⟨O,?_,hs.cast ?_⟩<;>simp only [oT,lq,cq,Nat.reduceBEq,p0_,p1_,p2_,p3_,p4_,p5_,p6_,p7_,p8_,p9_,p10_,p11_,p12_,q14_,q15_]
 ·
  rintro D t w hD hp hcl ⟨O,ht,hs⟩ rest hk
  obtain ⟨p13_,_⟩:=hp
  obtain ⟨p6_,p12_,_⟩:=(hcl.get 13 (by decide)) p13_
  obtain ⟨p11_,p5_,_⟩:=(hcl.get 12 (by decide)) p12_
  obtain ⟨p10_,_⟩:=(hcl.get 11 (by decide)) p11_
  obtain ⟨p9_,_⟩:=(hcl.get 10 (by decide)) p10_
  obtain ⟨p8_,_⟩:=(hcl.get 9 (by decide)) p9_
  obtain ⟨p7_,_⟩:=(hcl.get 8 (by decide)) p8_
  obtain ⟨p4_,_⟩:=(hcl.get 5 (by decide)) p5_
  obtain ⟨p3_,_⟩:=(hcl.get 4 (by decide)) p4_
  obtain ⟨p2_,_⟩:=(hcl.get 3 (by decide)) p3_
  obtain ⟨p1_,_⟩:=(hcl.get 2 (by decide)) p2_
  obtain ⟨p0_,_⟩:=(hcl.get 1 (by decide)) p1_
  have q15_:=nz hcl 15 0 hD
  simp only [hD,p0_,p1_,p2_,p3_,p4_,p5_,p6_,p7_,p8_,p9_,p10_,p11_,p12_,p13_,q15_,cq,oT] at ht hs
  subst ht
  refine Qaa (v:=string (((r6++(⟨#[32]⟩:ByteArray))++r7)++(⟨#[10]⟩:ByteArray))) rfl rfl (Qbg rfl rfl rfl gs3) ?_
  show G _ _ _ _ [_,_,_,_,_,_,_,_,_,_,_,_,_,_,_,_,_,_,_,_,_,_,_,_,_,_,_,_,_,_,_,_,_,_,_,_,_,_,_,_,_,_,_,_,_,_,_,_,_,_,_,_,_] _
  refine hk _ _ ⟨O,?_,hs.cast ?_⟩<;>simp only [oT,lq,cq,Nat.reduceBEq,p0_,p1_,p2_,p3_,p4_,p5_,p6_,p7_,p8_,p9_,p10_,p11_,p12_,p13_,q15_]
 ·
  rintro D t w hD hp hcl ⟨O,ht,hs⟩ rest hk
  obtain ⟨p14_,p12_,p0_,p1_,p2_,p3_,p4_,p5_,p6_,p7_,p8_,p9_,p10_,p11_,_,p13_,_,_⟩:=hp
  simp only [hD,p0_,p1_,p2_,p3_,p4_,p5_,p6_,p7_,p8_,p9_,p10_,p11_,p12_,p13_,p14_,cq,oT] at ht hs
  subst ht
  refine Qaa (v:=string (((r6++(⟨#[32]⟩:ByteArray))++r7)++(⟨#[10]⟩:ByteArray))) rfl rfl rfl ?_
  show G _ _ _ _ [_,_,_,_,_,_,_,_,_,_,_,_,_,_,_,_,_,_,_,_,_,_,_,_,_,_,_,_,_,_,_,_,_,_,_,_,_,_,_,_,_,_,_,_,_,_,_,_,_,_,_,_,_] _
  refine hk _ _ ⟨O,?_,hs.cast ?_⟩<;>simp only [oT,lq,cq,Nat.reduceBEq,p0_,p1_,p2_,p3_,p4_,p5_,p6_,p7_,p8_,p9_,p10_,p11_,p12_,p13_,p14_]
 intro D t w hall hI
 obtain ⟨O,ht,hs⟩:=hI
 have p0_:=hall 0 (by decide)
 have p1_:=hall 1 (by decide)
 have p2_:=hall 2 (by decide)
 have p3_:=hall 3 (by decide)
 have p4_:=hall 4 (by decide)
 have p5_:=hall 5 (by decide)
 have p6_:=hall 6 (by decide)
 have p7_:=hall 7 (by decide)
 have p8_:=hall 8 (by decide)
 have p9_:=hall 9 (by decide)
 have p10_:=hall 10 (by decide)
 have p11_:=hall 11 (by decide)
 have p12_:=hall 12 (by decide)
 have p13_:=hall 13 (by decide)
 have p14_:=hall 14 (by decide)
 have p15_:=hall 15 (by decide)
 simp only [p0_,p1_,p2_,p3_,p4_,p5_,p6_,p7_,p8_,p9_,p10_,p11_,p12_,p13_,p14_,p15_,cq,oT] at ht hs
 subst ht
 refine Qad (Qad (Qaj [0] rfl ?_))
 refine Qaa (v:=int .i64 0) rfl rfl rfl ?_
 show G _ _ _ _ [_,_,_,_,_,_,_,_,_,_,_,_,_,_,_,_,_,_,_,_,_,_,_,_,_,_,_,_,_,_,_,_,_,_,_,_,_,_,_,_,_,_,_,_,_,_,_,_,_,_,_,_,_] _
 refine Qab ?_
 obtain ⟨o1_,Ho,Hr1_⟩:=bind_get H
 refine QaT (J:=fun t w=>∃ x14:ByteArray,QaF.a0 N x14=some r∧Fr t (fun O=>([O 0,O 1,O 2,string x14,O 4,O 5,O 6,O 7,O 8,O 9,O 10,O 11,O 12,O 13,O 14,O 15,O 16,O 17,O 18,O 19,O 20,O 21,O 22,O 23,O 24,O 25,O 26,O 27,O 28,O 29,O 30,O 31,O 32,O 33,O 34,O 35,O 36,O 37,O 38,O 39,O 40,O 41,O 42,O 43,O 44,O 45,O 46,O 47,O 48,O 49,O 50,O 51,O 52]:List Value))∧St w0 [] w) ?_ ?_
 ·
  rintro t w ⟨x14,H,hf,hs⟩
  obtain ⟨O,rfl⟩:=hf.open
  show G _ _ _ _ [_,_,_,_,_,_,_,_,_,_,_,_,_,_,_,_,_,_,_,_,_,_,_,_,_,_,_,_,_,_,_,_,_,_,_,_,_,_,_,_,_,_,_,_,_,_,_,_,_,_,_,_,_] _
  unfold QaF.a0 at H
  refine Qad (Qaj [0,1] rfl ?_)
  refine Qaa (v:=string x14) rfl rfl rfl ?_
  refine Qaa (v:=string x14) rfl rfl rfl (Qab ?_)
  obtain rfl:=QsJ H
  refine Qax Tryd.func16 (v:=string x14) (res1 rfl rfl) ?_
  have hs:St _ [] _:=St.take (Γ':=[]) hs
  exact ⟨_,rfl,rfl,hs⟩
 intro ha1_
 have hs:St _ [] _:=St.take (Γ':=[]) hs
 refine Qa2 (I:=fun n_ t w=>∃ x8:ByteArray,∃ x9:Int,rounds (fun s=>QaF.b0 N a1 s.1 s.2) n_ (x8,x9)=some o1_∧Fr t (fun O=>([pointer (some ⟨b2,0,none⟩),O 1,O 2,string x8,int .i64 x9,O 5,O 6,O 7,O 8,O 9,O 10,O 11,O 12,O 13,O 14,O 15,O 16,O 17,O 18,O 19,O 20,O 21,O 22,O 23,O 24,O 25,O 26,O 27,O 28,O 29,O 30,O 31,O 32,O 33,O 34,O 35,O 36,O 37,O 38,O 39,O 40,O 41,O 42,O 43,O 44,O 45,O 46,O 47,O 48,O 49,O 50,O 51,O 52]:List Value))∧St w0 [] w) N ⟨((r6++(⟨#[32]⟩:ByteArray))++r7)++(⟨#[10]⟩:ByteArray),0,Ho,rfl,hs⟩ ?_ ?_
 ·
  rintro _ _ ⟨x8,x9,h,_⟩
  exact rounds_zero h
 intro n_ ih1_
 rintro t w ⟨x8,x9,Ho,hf,hs⟩
 obtain ⟨O,rfl⟩:=hf.open
 show G _ _ _ _ [_,_,_,_,_,_,_,_,_,_,_,_,_,_,_,_,_,_,_,_,_,_,_,_,_,_,_,_,_,_,_,_,_,_,_,_,_,_,_,_,_,_,_,_,_,_,_,_,_,_,_,_,_] _
 obtain ⟨x9_,H,Hx1_⟩:=rounds_succ Ho
 have H:QaF.b0 N a1 x8 x9=some x9_:=H
 unfold QaF.b0 at H
 refine Qad (Qad (Qaj [0,1,2,3,4,5,6] rfl ?_))
 refine Qaa (v:=int .i64 x9) rfl rfl rfl ?_
 refine Qaa (v:=pointer (some ⟨b2,0,none⟩)) rfl rfl rfl ?_
 refine Qaa (v:=pointer (some ⟨b2,0,none⟩)) rfl rfl rfl ?_
 refine Qaa (v:=pointer (some ⟨b2,2,none⟩)) rfl rfl rfl ?_
 refine QaH rfl rfl (v:=v3) rfl rfl (fun _=>rfl) (cells_load (hs.box hp0) 2 1 rfl) ?_
 refine Qbi (hs.rd hr4) rfl rfl rfl rfl rfl ?_
 refine Qau (B:=decide (x9< (a1.Qaf.length:Int))) rfl rfl rfl ?_ ?_
 ·
  intro hb
  rw [if_pos (b_dec_t hb)] at H
  refine Qab (Qap rfl (Qay (Qad ?_)))
  refine QaT (J:=(fun t w=>∃ x13:ByteArray,QaF.j2 N x9 x13=some x9_∧Fr t (fun O=>([pointer (some ⟨b2,0,none⟩),O 1,O 2,string x13,int .i64 x9,O 5,O 6,O 7,O 8,O 9,O 10,O 11,O 12,O 13,O 14,O 15,O 16,O 17,O 18,O 19,O 20,O 21,O 22,O 23,O 24,O 25,O 26,O 27,O 28,O 29,O 30,O 31,O 32,O 33,O 34,O 35,O 36,O 37,O 38,O 39,O 40,O 41,O 42,O 43,O 44,O 45,O 46,O 47,O 48,O 49,O 50,O 51,O 52]:List Value))∧St w0 [] w)) ?_ ?_
  ·
   rintro t w ⟨x13,H,hf,hs⟩
   obtain ⟨O,rfl⟩:=hf.open
   show G _ _ _ _ [_,_,_,_,_,_,_,_,_,_,_,_,_,_,_,_,_,_,_,_,_,_,_,_,_,_,_,_,_,_,_,_,_,_,_,_,_,_,_,_,_,_,_,_,_,_,_,_,_,_,_,_,_] _
   unfold QaF.j2 at H
   refine Qaj [0,1,2] rfl ?_
   refine Qaa (v:=int .i64 x9) rfl rfl rfl ?_
   refine Qaa (v:=int .i64 (i64w (x9+1))) rfl rfl rfl ?_
   refine Qaa (v:=int .i64 (i64w (x9+1))) rfl rfl rfl (Qab ?_)
   obtain rfl:=QsJ H
   have hs:St _ [] _:=St.take (Γ':=[]) hs
   exact ih1_ _ _ ⟨x13,i64w (x9+1),Hx1_,rfl,hs⟩
  intro ha
  refine Qad (Qaj [0,1,2,3,4,5,6,7,8,9,10,11] rfl ?_)
  refine Qaa (v:=string x8) rfl rfl rfl ?_
  refine Qaa (v:=pointer (some ⟨b2,0,none⟩)) rfl rfl rfl ?_
  refine Qaa (v:=pointer (some ⟨b2,0,none⟩)) rfl rfl rfl ?_
  refine Qaa (v:=pointer (some ⟨b2,2,none⟩)) rfl rfl rfl ?_
  refine QaH rfl rfl (v:=v3) rfl rfl (fun _=>rfl) (cells_load (hs.box hp0) 2 1 rfl) ?_
  refine Qaa (v:=int .i64 x9) rfl rfl rfl ?_
  obtain ⟨g4,H⟩:=ite_get H
  refine Qby QaG Qao (hs.rd hr4) rfl (fun _=>rfl) g4.1 g4.2 rfl rfl rfl rfl rfl ?_
  intro p10 hp10 lp10 op10
  show G _ _ _ _ [_,_,_,_,_,_,_,_,_,_,_,_,_,_,_,_,_,_,_,_,_,_,_,_,_,_,_,_,_,_,_,_,_,_,_,_,_,_,_,_,_,_,_,_,_,_,_,_,_,_,_,_,_] _
  refine Qaa (v:=pointer (some (p10.add 0))) rfl rfl (Qbw rfl rfl rfl rfl rfl (m:=1) (fun _=>rfl) (by decide)) ?_
  refine QaH rfl rfl (v:=int .u64 ((rdL a1.Qaf x9 Qao).QaE)) rfl rfl (fun _=>rfl) (CellsAt.sub hp10 0 1 (by first|rfl|(simp [Qat,List.drop_append,List.take_append,encAI_len,encAB_len,encA_len,List.take_of_length_le,List.drop_eq_nil_of_le]))) ?_
  obtain ⟨r11,Hr11,H⟩:=bind_get H
  refine Qaz (args:=[int .u64 ((rdL a1.Qaf x9 Qao).QaE)]) rfl rfl (Qaw rfl (callFunc_enter Tryd.func37 rfl rfl) rfl) (QaM.calls (a1:=(rdL a1.Qaf x9 Qao).QaE) Hr11) ?_
  rintro _ w ⟨rfl,hs2⟩
  have hs:St _ [] _:=hs.call hs2
  obtain ⟨gs5,H⟩:=ite_get H
  refine Qaa (v:=string (x8++r11)) rfl rfl (Qbg rfl rfl rfl gs5) ?_
  show G _ _ _ _ [_,_,_,_,_,_,_,_,_,_,_,_,_,_,_,_,_,_,_,_,_,_,_,_,_,_,_,_,_,_,_,_,_,_,_,_,_,_,_,_,_,_,_,_,_,_,_,_,_,_,_,_,_] _
  refine Qaa (v:=string (x8++r11)) rfl rfl rfl (Qab (Qad (Qaj [0,1,2,3,4,5,6,7] rfl ?_)))
  refine Qaa (v:=pointer (some ⟨b2,0,none⟩)) rfl rfl rfl ?_
  refine Qaa (v:=pointer (some ⟨b2,0,none⟩)) rfl rfl rfl ?_
  refine Qaa (v:=pointer (some ⟨b2,2,none⟩)) rfl rfl rfl ?_
  refine QaH rfl rfl (v:=v3) rfl rfl (fun _=>rfl) (cells_load (hs.box hp0) 2 1 rfl) ?_
  refine Qaa (v:=int .i64 x9) rfl rfl rfl ?_
  obtain ⟨g6,H⟩:=ite_get H
  refine Qby QaG Qao (hs.rd hr4) rfl (fun _=>rfl) g6.1 g6.2 rfl rfl rfl rfl rfl ?_
  intro p12 hp12 lp12 op12
  show G _ _ _ _ [_,_,_,_,_,_,_,_,_,_,_,_,_,_,_,_,_,_,_,_,_,_,_,_,_,_,_,_,_,_,_,_,_,_,_,_,_,_,_,_,_,_,_,_,_,_,_,_,_,_,_,_,_] _
  refine Qaa (v:=pointer (some (p12.add 1))) rfl rfl (Qbw rfl rfl rfl rfl rfl (m:=1) (fun _=>rfl) (by decide)) ?_
  refine QaH rfl rfl (v:=bool ((rdL a1.Qaf x9 Qao).QaS)) rfl rfl (fun _=>rfl) (CellsAt.sub hp12 1 1 (by first|rfl|(simp [Qat,List.drop_append,List.take_append,encAI_len,encAB_len,encA_len,List.take_of_length_le,List.drop_eq_nil_of_le]))) (Qab ?_)
  refine QbE (b:=(rdL a1.Qaf x9 Qao).QaS) rfl ?_ ?_
  ·
   intro hb
   rw [if_pos (b_var_t hb)] at H
   refine Qaj [0,1,2] rfl ?_
   refine Qaa (v:=string (x8++r11)) rfl rfl rfl ?_
   obtain ⟨gs7,H⟩:=ite_get H
   refine Qaa (v:=string ((x8++r11)++(⟨#[32,121,101,115,10]⟩:ByteArray))) rfl rfl (Qbg rfl rfl rfl gs7) ?_
   refine Qaa (v:=string ((x8++r11)++(⟨#[32,121,101,115,10]⟩:ByteArray))) rfl rfl rfl (Qab ?_)
   refine QaB ?_
   have hs:St _ [] _:=St.take (Γ':=[]) hs
   exact ha _ _ ⟨(x8++r11)++(⟨#[32,121,101,115,10]⟩:ByteArray),H,rfl,hs⟩
  intro hb
  rw [if_neg (b_var_f hb)] at H
  refine Qaj [0,1,2] rfl ?_
  refine Qaa (v:=string (x8++r11)) rfl rfl rfl ?_
  obtain ⟨gs8,H⟩:=ite_get H
  refine Qaa (v:=string ((x8++r11)++(⟨#[32,110,111,10]⟩:ByteArray))) rfl rfl (Qbg rfl rfl rfl gs8) ?_
  refine Qaa (v:=string ((x8++r11)++(⟨#[32,110,111,10]⟩:ByteArray))) rfl rfl rfl ?_
  show G _ _ _ _ [_,_,_,_,_,_,_,_,_,_,_,_,_,_,_,_,_,_,_,_,_,_,_,_,_,_,_,_,_,_,_,_,_,_,_,_,_,_,_,_,_,_,_,_,_,_,_,_,_,_,_,_,_] _
  refine Qab ?_
  refine QaB ?_
  have hs:St _ [] _:=St.take (Γ':=[]) hs
  exact ha _ _ ⟨(x8++r11)++(⟨#[32,110,111,10]⟩:ByteArray),H,rfl,hs⟩
 intro hb
 rw [if_neg (b_dec_f hb)] at H
 show G _ _ _ _ [_,_,_,_,_,_,_,_,_,_,_,_,_,_,_,_,_,_,_,_,_,_,_,_,_,_,_,_,_,_,_,_,_,_,_,_,_,_,_,_,_,_,_,_,_,_,_,_,_,_,_,_,_] _
 refine Qab (Qag rfl ?_)
 obtain rfl:=QsJ H
 subst Hx1_
 have hs:St _ [] _:=St.take (Γ':=[]) hs
 refine Qbh rfl ?_
 exact ha1_ _ _ ⟨x8,Hr1_,rfl,hs⟩
def QaY.post (w0:World) (r:ByteArray) (v:Value) (w:World):Prop:=v=string r∧St w0 [] w
theorem QaY.calls {N:Nat} {a1:Qar} {v2:Value} {w0:World} {r:ByteArray} (hr3:RdRow QaC w0 v2 a1.Qaf) (H:QaY.f N a1=some r):
 Calls Tryd.prog 6 #[agg (([int .i8 a1.Qac,int .i8 a1.Qak,v2]:List Value)).toArray] w0 fun e w=>∃ v,e= .returned v∧QaY.post w0 r v w:=by
 unfold QaY.f at H
 have hs:St w0 [] w0:=St.refl w0
 refine calls_of_g (n:=5) Tryd.func6 rfl rfl ?_
 show G _ _ _ _ [_,_,_,_,_,_] _
 refine Qad (Qaj [0,1] rfl ?_)
 refine Qbf hs rfl rfl (cs:=(([int .i8 a1.Qac,int .i8 a1.Qak,v2]:List Value))) rfl rfl ?_
 intro b4 w hs
 refine Qaa (v:=string (⟨#[]⟩:ByteArray)) rfl rfl rfl (Qab (Qad (Qad (Qaj [0,1] rfl ?_))))
 obtain ⟨r6,Hr6,H⟩:=bind_get H
 refine Qaz (args:=[pointer (some ⟨b4,0,none⟩)]) rfl rfl (Qaw rfl (callFunc_enter Tryd.func15 rfl rfl) rfl) (QaO.calls (a1:=(⟨a1.Qac,a1.Qak,a1.Qaf⟩:Qar)) (hs.rd hr3) (hs.cells 0 rfl) Hr6) ?_
 rintro _ w ⟨rfl,hs2⟩
 have hs:St _ [_] _:=hs.call hs2
 cases r6 with
 |true=>
  rw [if_pos rfl] at H
  refine Qaa (v:=bool false) rfl rfl rfl (Qab (Qag rfl (Qay (Qad (Qaj [0,1] rfl ?_)))))
  obtain ⟨r7,Hr7,H⟩:=bind_get H
  refine Qaz (args:=[pointer (some ⟨b4,0,none⟩)]) rfl rfl (Qaw rfl (callFunc_enter Tryd.func16 rfl rfl) rfl) (QaF.calls (a1:=(⟨a1.Qac,a1.Qak,a1.Qaf⟩:Qar)) (hs.rd hr3) (hs.cells 0 rfl) Hr7) ?_
  rintro _ w ⟨rfl,hs2⟩
  have hs:St _ [_] _:=hs.call hs2
  show G _ _ _ _ [_,_,_,_,_,_] _
  refine Qaa (v:=string r7) rfl rfl rfl (Qab ?_)
  obtain rfl:=QsJ H
  refine Qax Tryd.func6 (v:=string r7) (res1 rfl rfl) ?_
  have hs:St _ [] _:=St.take (Γ':=[_]) hs
  exact ⟨_,rfl,rfl,hs⟩
 |false=>
  rw [if_neg Bool.false_ne_true] at H
  show G _ _ _ _ [_,_,_,_,_,_] _
  refine Qaa (v:=bool true) rfl rfl rfl (Qab (Qap rfl (Qad (Qaj [0] rfl ?_))))
  refine Qaa (v:=string (⟨#[]⟩:ByteArray)) rfl rfl rfl (Qab ?_)
  obtain rfl:=QsJ H
  refine Qax Tryd.func6 (v:=string (⟨#[]⟩:ByteArray)) (res1 rfl rfl) ?_
  have hs:St _ [] _:=St.take (Γ':=[_]) hs
  exact ⟨_,rfl,rfl,hs⟩
def Qa3.post (w0:World) (r:Bool) (v:Value) (w:World):Prop:=v=bool r∧St w0 [] w
theorem Qa3.calls {N:Nat} {a1:Int} {a2:Int} {a3:Int} {w0:World} {r:Bool} (H:Qa3.f N a1 a2 a3=some r):
 Calls Tryd.prog 55 #[int .i64 a1,int .i64 a2,int .i64 a3] w0 fun e w=>∃ v,e= .returned v∧Qa3.post w0 r v w:=by
 unfold Qa3.f at H
 have hs:St w0 [] w0:=St.refl w0
 refine calls_of_g (n:=12) Tryd.func55 rfl rfl ?_
 show G _ _ _ _ [_,_,_,_,_,_,_,_,_,_,_,_,_,_,_] _
 refine Qad (Qaj [0] rfl ?_)
 refine Qaa (v:=bool false) rfl rfl rfl (Qab (Qad (Qaj [0,1,2,3,4,5,6,7,8] rfl ?_)))
 refine Qaa (v:=int .i64 a2) rfl rfl rfl ?_
 show G _ _ _ _ [_,_,_,_,_,_,_,_,_,_,_,_,_,_,_] _
 refine Qaa (v:=int .i64 a1) rfl rfl rfl ?_
 refine Qau (B:=decide (a2≤a1)) rfl rfl rfl ?_ ?_
 ·
  intro hb
  rw [if_pos (b_dec_t hb)] at H
  show G _ _ _ _ [_,_,_,_,_,_,_,_,_,_,_,_,_,_,_] _
  refine Qaa (v:=bool true) rfl rfl rfl ?_
  refine Qaa (v:=int .i64 a1) rfl rfl rfl ?_
  refine Qaa (v:=int .i64 a3) rfl rfl rfl ?_
  show G _ _ _ _ [_,_,_,_,_,_,_,_,_,_,_,_,_,_,_] _
  refine Qaa (v:=bool (decide (a1≤a3))) rfl rfl rfl ?_
  refine Qaa (v:=bool (decide (a1≤a3))) rfl rfl rfl ?_
  refine Qaa (v:=bool (decide (a1≤a3))) rfl rfl rfl ?_
  show G _ _ _ _ [_,_,_,_,_,_,_,_,_,_,_,_,_,_,_] _
  refine Qab ?_
  obtain rfl:=QsJ H
  refine Qax Tryd.func55 (v:=bool (decide (a1≤a3))) (res1 rfl rfl) ?_
  have hs:St _ [] _:=St.take (Γ':=[]) hs
  exact ⟨_,rfl,rfl,hs⟩
 intro hb
 rw [if_neg (b_dec_f hb)] at H
 refine Qaa (v:=bool false) rfl rfl rfl ?_
 show G _ _ _ _ [_,_,_,_,_,_,_,_,_,_,_,_,_,_,_] _
 refine Qaq rfl rfl (Qaq rfl rfl (Qaq rfl rfl ?_))
 show G _ _ _ _ [_,_,_,_,_,_,_,_,_,_,_,_,_,_,_] _
 refine Qaa (v:=bool false) rfl rfl rfl ?_
 refine Qaa (v:=bool false) rfl rfl rfl (Qab ?_)
 obtain rfl:=QsJ H
 refine Qax Tryd.func55 (v:=bool false) (res1 rfl rfl) ?_
 have hs:St _ [] _:=St.take (Γ':=[]) hs
 exact ⟨_,rfl,rfl,hs⟩
def Qbb.post (w0:World) (r:Bool) (v:Value) (w:World):Prop:=v=bool r∧St w0 [] w
theorem Qbb.calls {N:Nat} {a1:Int} {a2:Int} {w0:World} {r:Bool} (H:Qbb.f N a1 a2=some r):
 Calls Tryd.prog 39 #[int .i64 a1,int .i64 a2] w0 fun e w=>∃ v,e= .returned v∧Qbb.post w0 r v w:=by
 unfold Qbb.f at H
 have hs:St w0 [] w0:=St.refl w0
 refine calls_of_g (n:=9) Tryd.func39 rfl rfl ?_
 show G _ _ _ _ [_,_,_,_,_,_,_,_,_,_,_] _
 refine Qad (Qaj [0] rfl ?_)
 refine Qaa (v:=bool false) rfl rfl rfl (Qab (Qad (Qaj [0,1,2,3,4,5,6] rfl ?_)))
 refine Qaa (v:=int .i64 a1) rfl rfl rfl ?_
 show G _ _ _ _ [_,_,_,_,_,_,_,_,_,_,_] _
 obtain ⟨r3,Hr3,H⟩:=bind_get H
 refine Qaz (args:=[int .i64 a1,int .i64 1,int .i64 60]) rfl rfl (Qaw rfl (callFunc_enter Tryd.func55 rfl rfl) rfl) (Qa3.calls (a1:=a1) (a2:=1) (a3:=60) Hr3) ?_
 rintro _ w ⟨rfl,hs2⟩
 have hs:St _ [] _:=hs.call hs2
 cases r3 with
 |true=>
  rw [if_pos rfl] at H
  refine Qaa (v:=bool true) rfl rfl rfl ?_
  refine Qaa (v:=int .i64 a2) rfl rfl rfl ?_
  show G _ _ _ _ [_,_,_,_,_,_,_,_,_,_,_] _
  obtain ⟨r4,Hr4,H⟩:=bind_get H
  refine Qaz (args:=[int .i64 a2,int .i64 0,int .i64 3]) rfl rfl (Qaw rfl (callFunc_enter Tryd.func55 rfl rfl) rfl) (Qa3.calls (a1:=a2) (a2:=0) (a3:=3) Hr4) ?_
  rintro _ w ⟨rfl,hs2⟩
  have hs:St _ [] _:=hs.call hs2
  refine Qaa (v:=bool r4) rfl rfl rfl ?_
  refine Qaa (v:=bool r4) rfl rfl rfl ?_
  show G _ _ _ _ [_,_,_,_,_,_,_,_,_,_,_] _
  refine Qab ?_
  obtain rfl:=QsJ H
  refine Qax Tryd.func39 (v:=bool r4) (res1 rfl rfl) ?_
  have hs:St _ [] _:=St.take (Γ':=[]) hs
  exact ⟨_,rfl,rfl,hs⟩
 |false=>
  rw [if_neg Bool.false_ne_true] at H
  refine Qaa (v:=bool false) rfl rfl rfl (Qaq rfl rfl ?_)
  show G _ _ _ _ [_,_,_,_,_,_,_,_,_,_,_] _
  refine Qaq rfl rfl ?_
  refine Qaa (v:=bool false) rfl rfl rfl ?_
  refine Qaa (v:=bool false) rfl rfl rfl ?_
  show G _ _ _ _ [_,_,_,_,_,_,_,_,_,_,_] _
  refine Qab ?_
  obtain rfl:=QsJ H
  refine Qax Tryd.func39 (v:=bool false) (res1 rfl rfl) ?_
  have hs:St _ [] _:=St.take (Γ':=[]) hs
  exact ⟨_,rfl,rfl,hs⟩
def Qa1.post (w0:World) (r:Int) (v:Value) (w:World):Prop:=v=int .u64 r∧St w0 [] w
theorem Qa1.calls {N:Nat} {a1:Qar} {v2:Value} {w0:World} {r:Int} (hr3:RdRow QaC w0 v2 a1.Qaf) (H:Qa1.f N a1=some r):
 Calls Tryd.prog 42 #[agg (([int .i8 a1.Qac,int .i8 a1.Qak,v2]:List Value)).toArray] w0 fun e w=>∃ v,e= .returned v∧Qa1.post w0 r v w:=by
 unfold Qa1.f at H
 have hs:St w0 [] w0:=St.refl w0
 refine calls_of_g (n:=6) Tryd.func42 rfl rfl ?_
 show G _ _ _ _ [_,_,_,_,_,_,_] _
 refine Qad (Qaj [0,1] rfl ?_)
 refine Qbf hs rfl rfl (cs:=(([int .i8 a1.Qac,int .i8 a1.Qak,v2]:List Value))) rfl rfl ?_
 intro b4 w hs
 refine Qaa (v:=int .u64 0) rfl rfl rfl (Qab (Qad (Qaj [0,1,2,3,4] rfl ?_)))
 refine Qaa (v:=pointer (some ⟨b4,0,none⟩)) rfl rfl rfl ?_
 show G _ _ _ _ [_,_,_,_,_,_,_] _
 refine QaH rfl rfl (v:=int .i8 a1.Qac) rfl rfl (fun _=>rfl) (cells_load (hs.cells 0 rfl) 0 1 rfl) ?_
 obtain ⟨g1,H⟩:=ite_get H
 refine Qaa (v:=int .u64 (shlI .u64 1 a1.Qac)) rfl rfl (Qb3 rfl rfl rfl g1) ?_
 refine Qaa (v:=int .u64 (u64w ((shlI .u64 1 a1.Qac) - 1))) rfl rfl rfl ?_
 show G _ _ _ _ [_,_,_,_,_,_,_] _
 refine Qaa (v:=int .u64 (u64w ((shlI .u64 1 a1.Qac) - 1))) rfl rfl rfl (Qab ?_)
 obtain rfl:=QsJ H
 refine Qax Tryd.func42 (v:=int .u64 (u64w ((shlI .u64 1 a1.Qac) - 1))) (res1 rfl rfl) ?_
 have hs:St _ [] _:=St.take (Γ':=[_]) hs
 exact ⟨_,rfl,rfl,hs⟩
def QaW.post (w0:World) (r:Bool) (v:Value) (w:World):Prop:=v=bool r∧St w0 [] w
theorem QaW.calls {N:Nat} {a1:Qas} {a2:Qar} {b3:Nat} {v4:Value} {w0:World} {r:Bool} (hr5:RdRow QaC w0 v4 a2.Qaf) (hp1000:w0.heap[b3]?=some (.cells ((([int .i8 a2.Qac,int .i8 a2.Qak,v4]:List Value)):List Value).toArray 30 (0,0))) (H:QaW.f N a1 a2=some r):
 Calls Tryd.prog 41 #[agg (Qat a1).toArray,pointer (some ⟨b3,0,none⟩)] w0 fun e w=>∃ v,e= .returned v∧QaW.post w0 r v w:=by
 unfold QaW.f at H
 have hs:St w0 [] w0:=St.refl w0
 refine calls_of_g (n:=8) Tryd.func41 rfl rfl ?_
 show G _ _ _ _ [_,_,_,_,_,_,_,_,_,_] _
 refine Qad (Qaj [0,1] rfl ?_)
 refine Qbf hs rfl rfl (cs:=(Qat a1)) rfl rfl ?_
 intro b7 w hs
 refine Qaa (v:=bool false) rfl rfl rfl ?_
 show G _ _ _ _ [_,_,_,_,_,_,_,_,_,_] _
 refine Qab (Qad ?_)
 obtain ⟨r9,Hr9,H⟩:=bind_get H
 refine Qbn ?_
 intro T hT
 refine QbL (n:=7) rfl [0,1,2,3,4,5,6] [0,1,2,3,4,5,6] rfl rfl (Inv:=fun D t w=>∃ O:Nat→Value,t=[agg (Qat a1).toArray,pointer (some ⟨b3,0,none⟩),pointer (some ⟨b7,0,none⟩),cnd (D 6) (bool ((bAndNot .u64 a1.QaE r9) !=0)) (bool false),cnd (D 0) (pointer (some ⟨b7,0,none⟩)) (O 4),cnd (D 1) (int .u64 a1.QaE) (O 5),cnd (D 2) (agg (([int .i8 a2.Qac,int .i8 a2.Qak,v4]:List Value)).toArray) (O 6),cnd (D 3) (int .u64 r9) (O 7),cnd (D 4) (int .u64 (bAndNot .u64 a1.QaE r9)) (O 8),cnd (D 5) (bool ((bAndNot .u64 a1.QaE r9) !=0)) (O 9)]∧St w0 [Cells b7 (Qat a1) 55] w) ?_ ⟨⟨⟨⟨⟨⟨⟨trivial,?_⟩,?_⟩,?_⟩,?_⟩,?_⟩,?_⟩,?_⟩ ?_
 ·
  intro w hh hbw
  have hs:=hs.samew hh hbw
  exact ⟨fun i=>T.getD i undef,(by subst hT;rfl),hs⟩
 ·
  rintro D t w hD hp hcl ⟨O,ht,hs⟩ rest hk
  have q1_:=nz hcl 1 0 hD
  have q4_:=nz hcl 4 0 q1_
  have q5_:=nz hcl 5 0 q4_
  have q6_:=nz hcl 6 0 q5_
  simp only [hD,q1_,q4_,q5_,q6_,cq,oT] at ht hs
  subst ht
  refine Qaa (v:=pointer (some ⟨b7,0,none⟩)) rfl rfl rfl ?_
  show G _ _ _ _ [_,_,_,_,_,_,_,_,_,_] _
  refine hk _ _ ⟨O,?_,hs.cast ?_⟩<;>simp only [oT,lq,cq,Nat.reduceBEq,q1_,q4_,q5_,q6_]
 ·
  rintro D t w hD hp hcl ⟨O,ht,hs⟩ rest hk
  obtain ⟨p0_,_⟩:=hp
  have q4_:=nz hcl 4 0 hD
  have q5_:=nz hcl 5 0 q4_
  have q6_:=nz hcl 6 0 q5_
  simp only [hD,p0_,q4_,q5_,q6_,cq,oT] at ht hs
  subst ht
  refine QaH rfl rfl (v:=int .u64 a1.QaE) rfl rfl (fun _=>rfl) (cells_load (hs.cells 0 rfl) 0 1 rfl) ?_
  show G _ _ _ _ [_,_,_,_,_,_,_,_,_,_] _
  refine hk _ _ ⟨O,?_,hs.cast ?_⟩<;>simp only [oT,lq,cq,Nat.reduceBEq,p0_,q4_,q5_,q6_]
 ·
  rintro D t w hD hp hcl ⟨O,ht,hs⟩ rest hk
  have q3_:=nz hcl 3 0 hD
  have q4_:=nz hcl 4 1 q3_
  have q5_:=nz hcl 5 0 q4_
  have q6_:=nz hcl 6 0 q5_
  simp only [hD,q3_,q4_,q5_,q6_,cq,oT] at ht hs
  subst ht
  refine Qa6 rfl rfl (es:=(([int .i8 a2.Qac,int .i8 a2.Qak,v4]:List Value))) rfl rfl (fun _=>rfl) (n:=3) (fun _=>rfl) rfl (cells_all (hs.box hp1000)) ?_
  show G _ _ _ _ [_,_,_,_,_,_,_,_,_,_] _
  refine hk _ _ ⟨O,?_,hs.cast ?_⟩<;>simp only [oT,lq,cq,Nat.reduceBEq,q3_,q4_,q5_,q6_]
 ·
  rintro D t w hD hp hcl ⟨O,ht,hs⟩ rest hk
  obtain ⟨p2_,_⟩:=hp
  have q4_:=nz hcl 4 1 hD
  have q5_:=nz hcl 5 0 q4_
  have q6_:=nz hcl 6 0 q5_
  simp only [hD,p2_,q4_,q5_,q6_,cq,oT] at ht hs
  subst ht
  refine Qaz (args:=[agg (([int .i8 a2.Qac,int .i8 a2.Qak,v4]:List Value)).toArray]) rfl rfl (Qaw rfl (callFunc_enter Tryd.func42 rfl rfl) rfl) (Qa1.calls (a1:=(⟨a2.Qac,a2.Qak,a2.Qaf⟩:Qar)) (hs.rd hr5) Hr9) ?_
  rintro _ w ⟨rfl,hs2⟩
  have hs:St _ [_] _:=hs.call hs2
  show G _ _ _ _ [_,_,_,_,_,_,_,_,_,_] _
  refine hk _ _ ⟨O,?_,hs.cast ?_⟩<;>simp only [oT,lq,cq,Nat.reduceBEq,p2_,q4_,q5_,q6_]
 ·
  rintro D t w hD hp hcl ⟨O,ht,hs⟩ rest hk
  obtain ⟨p1_,p3_,_⟩:=hp
  obtain ⟨p2_,_⟩:=(hcl.get 3 (by decide)) p3_
  obtain ⟨p0_,_⟩:=(hcl.get 1 (by decide)) p1_
  have q5_:=nz hcl 5 0 hD
  have q6_:=nz hcl 6 0 q5_
  simp only [hD,p0_,p1_,p2_,p3_,q5_,q6_,cq,oT] at ht hs
  subst ht
  refine Qaa (v:=int .u64 (bAndNot .u64 a1.QaE r9)) rfl rfl rfl ?_
  show G _ _ _ _ [_,_,_,_,_,_,_,_,_,_] _
  refine hk _ _ ⟨O,?_,hs.cast ?_⟩<;>simp only [oT,lq,cq,Nat.reduceBEq,p0_,p1_,p2_,p3_,q5_,q6_]
 ·
  rintro D t w hD hp hcl ⟨O,ht,hs⟩ rest hk
  obtain ⟨p4_,_⟩:=hp
  obtain ⟨p1_,p3_,_⟩:=(hcl.get 4 (by decide)) p4_
  obtain ⟨p2_,_⟩:=(hcl.get 3 (by decide)) p3_
  obtain ⟨p0_,_⟩:=(hcl.get 1 (by decide)) p1_
  have q6_:=nz hcl 6 0 hD
  simp only [hD,p0_,p1_,p2_,p3_,p4_,q6_,cq,oT] at ht hs
  subst ht
  refine Qaa (v:=bool ((bAndNot .u64 a1.QaE r9) !=0)) rfl rfl rfl ?_
  show G _ _ _ _ [_,_,_,_,_,_,_,_,_,_] _
  refine hk _ _ ⟨O,?_,hs.cast ?_⟩<;>simp only [oT,lq,cq,Nat.reduceBEq,p0_,p1_,p2_,p3_,p4_,q6_]
 ·
  rintro D t w hD hp hcl ⟨O,ht,hs⟩ rest hk
  obtain ⟨p5_,p3_,p0_,p1_,p2_,_,p4_,_,_⟩:=hp
  simp only [hD,p0_,p1_,p2_,p3_,p4_,p5_,cq,oT] at ht hs
  subst ht
  refine Qaa (v:=bool ((bAndNot .u64 a1.QaE r9) !=0)) rfl rfl rfl ?_
  show G _ _ _ _ [_,_,_,_,_,_,_,_,_,_] _
  refine hk _ _ ⟨O,?_,hs.cast ?_⟩<;>simp only [oT,lq,cq,Nat.reduceBEq,p0_,p1_,p2_,p3_,p4_,p5_]
 intro D t w hall hI
 obtain ⟨O,ht,hs⟩:=hI
 have p0_:=hall 0 (by decide)
 have p1_:=hall 1 (by decide)
 have p2_:=hall 2 (by decide)
 have p3_:=hall 3 (by decide)
 have p4_:=hall 4 (by decide)
 have p5_:=hall 5 (by decide)
 have p6_:=hall 6 (by decide)
 simp only [p0_,p1_,p2_,p3_,p4_,p5_,p6_,cq,oT] at ht hs
 subst ht
 obtain rfl:=QsJ H
 refine Qax Tryd.func41 (v:=bool ((bAndNot .u64 a1.QaE r9) !=0)) (res1 rfl rfl) ?_
 have hs:St _ [] _:=St.take (Γ':=[_]) hs
 exact ⟨_,rfl,rfl,hs⟩
def Qah.post (w0:World) (r:Int) (v:Value) (w:World):Prop:=v=int .i64 r∧St w0 [] w
theorem Qah.calls {N:Nat} {a1:(List Qas)} {a3:Qar} {v2:Value} {b4:Nat} {v5:Value} {w0:World} {r:Int} (hr0:RdRow QaC w0 v2 a1) (hr6:RdRow QaC w0 v5 a3.Qaf) (hp200:w0.heap[b4]?=some (.cells ((([int .i8 a3.Qac,int .i8 a3.Qak,v5]:List Value)):List Value).toArray 30 (0,0))) (H:Qah.f N a1 a3=some r):
 Calls Tryd.prog 57 #[v2,Value.func (Fn.func 41) #[] #[pointer (some ⟨b4,0,none⟩)]] w0 fun e w=>∃ v,e= .returned v∧Qah.post w0 r v w:=by
 unfold Qah.f at H
 have hs:St w0 [] w0:=St.refl w0
 refine calls_of_g (n:=17) Tryd.func57 rfl rfl ?_
 show G _ _ _ _ [_,_,_,_,_,_,_,_,_,_,_,_,_,_,_,_,_,_,_] _
 refine Qad (Qaj [0] rfl ?_)
 refine Qaa (v:=int .i64 0) rfl rfl rfl (Qab (Qad (Qad (Qaj [0,1,2] rfl ?_))))
 refine Qaa (v:=v2) rfl rfl rfl ?_
 show G _ _ _ _ [_,_,_,_,_,_,_,_,_,_,_,_,_,_,_,_,_,_,_] _
 refine Qbi (hs.rd hr0) rfl rfl rfl rfl rfl ?_
 refine Qaa (v:=int .i64 0) rfl rfl rfl (Qab ?_)
 obtain ⟨o1_,Ho,Hr1_⟩:=bind_get H
 refine QaT (J:=fun t w=>Qah.a0 N=some r∧Fr t (fun O=>([O 0,O 1,O 2,O 3,O 4,O 5,O 6,O 7,O 8,O 9,O 10,O 11,O 12,O 13,O 14,O 15,O 16,O 17,O 18]:List Value))∧St w0 [] w) ?_ ?_
 ·
  rintro t w ⟨H,hf,hs⟩
  obtain ⟨O,rfl⟩:=hf.open
  show G _ _ _ _ [_,_,_,_,_,_,_,_,_,_,_,_,_,_,_,_,_,_,_] _
  unfold Qah.a0 at H
  refine Qad (Qaj [0] rfl ?_)
  refine Qaa (v:=int .i64 (-1)) rfl rfl rfl ?_
  show G _ _ _ _ [_,_,_,_,_,_,_,_,_,_,_,_,_,_,_,_,_,_,_] _
  refine Qab ?_
  obtain rfl:=QsJ H
  refine Qax Tryd.func57 (v:=int .i64 (-1)) (res1 rfl rfl) ?_
  have hs:St _ [] _:=St.take (Γ':=[]) hs
  exact ⟨_,rfl,rfl,hs⟩
 intro ha1_
 have hs:St _ [] _:=St.take (Γ':=[]) hs
 refine Qa2 (I:=fun n_ t w=>∃ x8:Int,rounds (fun s=>Qah.b0 N a1 a3 s) n_ x8=some o1_∧Fr t (fun O=>([v2,Value.func (Fn.func 41) #[] #[pointer (some ⟨b4,0,none⟩)],O 2,O 3,O 4,O 5,O 6,int .i64 (a1.length:Int),int .i64 x8,O 9,O 10,O 11,O 12,O 13,O 14,O 15,O 16,O 17,O 18]:List Value))∧St w0 [] w) N ⟨0,Ho,rfl,hs⟩ ?_ ?_
 ·
  rintro _ _ ⟨x8,h,_⟩
  exact rounds_zero h
 intro n_ ih1_
 rintro t w ⟨x8,Ho,hf,hs⟩
 obtain ⟨O,rfl⟩:=hf.open
 show G _ _ _ _ [_,_,_,_,_,_,_,_,_,_,_,_,_,_,_,_,_,_,_] _
 obtain ⟨x2_,H,Hx1_⟩:=rounds_succ Ho
 have H:Qah.b0 N a1 a3 x8=some x2_:=H
 unfold Qah.b0 at H
 refine Qad (Qaj [0] rfl ?_)
 refine Qau (B:=decide (x8< (a1.length:Int))) rfl rfl rfl ?_ ?_
 ·
  intro hb
  rw [if_pos (b_dec_t hb)] at H
  refine Qab (Qad (Qap rfl (Qay (Qad ?_))))
  refine Qbd (Qad (Qaj [0,1] rfl ?_))
  refine Qaa (v:=int .i64 x8) rfl rfl rfl ?_
  refine Qaa (v:=int .i64 x8) rfl rfl rfl ?_
  show G _ _ _ _ [_,_,_,_,_,_,_,_,_,_,_,_,_,_,_,_,_,_,_] _
  refine Qab (Qad (Qaj [0,1,2,3,4,5] rfl ?_))
  refine Qaa (v:=Value.func (Fn.func 41) #[] #[pointer (some ⟨b4,0,none⟩)]) rfl rfl rfl ?_
  refine Qaa (v:=v2) rfl rfl rfl ?_
  refine Qaa (v:=int .i64 x8) rfl rfl rfl ?_
  show G _ _ _ _ [_,_,_,_,_,_,_,_,_,_,_,_,_,_,_,_,_,_,_] _
  obtain ⟨g1,H⟩:=ite_get H
  refine Qby QaG Qao (hs.rd hr0) rfl (fun _=>rfl) g1.1 g1.2 rfl rfl rfl rfl rfl ?_
  intro p9 hp9 lp9 op9
  refine Qa6 rfl rfl (es:=(Qat (rdL a1 x8 Qao))) rfl rfl (fun _=>rfl) (n:=2) (fun _=>rfl) (QaG.len _) hp9 ?_
  obtain ⟨r10,Hr10,H⟩:=bind_get H
  refine Qaz (args:=[agg (Qat (rdL a1 x8 Qao)).toArray,pointer (some ⟨b4,0,none⟩)]) rfl rfl (QbX rfl (callFunc_enter Tryd.func41 rfl rfl) rfl rfl) (QaW.calls (a1:=rdL a1 x8 Qao) (a2:=(⟨a3.Qac,a3.Qak,a3.Qaf⟩:Qar)) (hs.rd hr6) (hs.box hp200) Hr10) ?_
  rintro _ w ⟨rfl,hs2⟩
  have hs:St _ [] _:=hs.call hs2
  cases r10 with
  |true=>
   rw [if_pos rfl] at H
   show G _ _ _ _ [_,_,_,_,_,_,_,_,_,_,_,_,_,_,_,_,_,_,_] _
   refine Qab (Qap rfl (Qad (Qaj [0,1] rfl ?_)))
   refine Qaa (v:=int .i64 x8) rfl rfl rfl ?_
   refine Qaa (v:=int .i64 x8) rfl rfl rfl (Qab ?_)
   obtain rfl:=QsJ H
   subst Hx1_
   have H:=QsJ Hr1_
   subst H
   refine Qax Tryd.func57 (v:=int .i64 x8) (res1 rfl rfl) ?_
   have hs:St _ [] _:=St.take (Γ':=[]) hs
   exact ⟨_,rfl,rfl,hs⟩
  |false=>
   rw [if_neg Bool.false_ne_true] at H
   show G _ _ _ _ [_,_,_,_,_,_,_,_,_,_,_,_,_,_,_,_,_,_,_] _
   refine Qab (Qag rfl (Qay ?_))
   refine QaB (Qaj [0,1] rfl ?_)
   refine Qaa (v:=int .i64 (i64w (x8+1))) rfl rfl rfl ?_
   refine Qaa (v:=int .i64 (i64w (x8+1))) rfl rfl rfl (Qab ?_)
   obtain rfl:=QsJ H
   have hs:St _ [] _:=St.take (Γ':=[]) hs
   exact ih1_ _ _ ⟨i64w (x8+1),Hx1_,rfl,hs⟩
 intro hb
 rw [if_neg (b_dec_f hb)] at H
 show G _ _ _ _ [_,_,_,_,_,_,_,_,_,_,_,_,_,_,_,_,_,_,_] _
 refine Qab (Qad (Qag rfl ?_))
 obtain rfl:=QsJ H
 subst Hx1_
 have hs:St _ [] _:=St.take (Γ':=[]) hs
 refine Qbh rfl ?_
 exact ha1_ _ _ ⟨Hr1_,rfl,hs⟩
def Qav.post (w0:World) (r:Bool) (v:Value) (w:World):Prop:=v=bool r∧St w0 [] w
theorem Qav.calls {N:Nat} {a1:(List Qas)} {a3:Qar} {v2:Value} {b4:Nat} {v5:Value} {w0:World} {r:Bool} (hr0:RdRow QaC w0 v2 a1) (hr6:RdRow QaC w0 v5 a3.Qaf) (hp200:w0.heap[b4]?=some (.cells ((([int .i8 a3.Qac,int .i8 a3.Qak,v5]:List Value)):List Value).toArray 30 (0,0))) (H:Qav.f N a1 a3=some r):
 Calls Tryd.prog 40 #[v2,Value.func (Fn.func 41) #[] #[pointer (some ⟨b4,0,none⟩)]] w0 fun e w=>∃ v,e= .returned v∧Qav.post w0 r v w:=by
 unfold Qav.f at H
 have hs:St w0 [] w0:=St.refl w0
 refine calls_of_g (n:=7) Tryd.func40 rfl rfl ?_
 show G _ _ _ _ [_,_,_,_,_,_,_,_,_] _
 refine Qad (Qaj [0] rfl ?_)
 refine Qaa (v:=bool false) rfl rfl rfl ?_
 show G _ _ _ _ [_,_,_,_,_,_,_,_,_] _
 refine Qab (Qad (Qaj [0,1,2,3,4] rfl ?_))
 refine Qaa (v:=v2) rfl rfl rfl ?_
 refine Qaa (v:=Value.func (Fn.func 41) #[] #[pointer (some ⟨b4,0,none⟩)]) rfl rfl rfl ?_
 obtain ⟨r8,Hr8,H⟩:=bind_get H
 refine Qaz (args:=[v2,Value.func (Fn.func 41) #[] #[pointer (some ⟨b4,0,none⟩)]]) rfl rfl (Qaw rfl (callFunc_enter Tryd.func57 rfl rfl) rfl) (Qah.calls (a1:=a1) (a3:=(⟨a3.Qac,a3.Qak,a3.Qaf⟩:Qar)) (hs.rd hr0) (hs.rd hr6) (hs.box hp200) Hr8) ?_
 rintro _ w ⟨rfl,hs2⟩
 have hs:St _ [] _:=hs.call hs2
 show G _ _ _ _ [_,_,_,_,_,_,_,_,_] _
 refine Qaa (v:=bool (decide (r8≥0))) rfl rfl rfl ?_
 refine Qaa (v:=bool (decide (r8≥0))) rfl rfl rfl (Qab ?_)
 obtain rfl:=QsJ H
 refine Qax Tryd.func40 (v:=bool (decide (r8≥0))) (res1 rfl rfl) ?_
 have hs:St _ [] _:=St.take (Γ':=[]) hs
 exact ⟨_,rfl,rfl,hs⟩
def QaQ.post (w0:World) (r:Bool) (v:Value) (w:World):Prop:=v=bool r∧St w0 [] w
theorem QaQ.calls {N:Nat} {a1:Qar} {v2:Value} {w0:World} {r:Bool} (hr3:RdRow QaC w0 v2 a1.Qaf) (H:QaQ.f N a1=some r):
 Calls Tryd.prog 18 #[agg (([int .i8 a1.Qac,int .i8 a1.Qak,v2]:List Value)).toArray] w0 fun e w=>∃ v,e= .returned v∧QaQ.post w0 r v w:=by
 unfold QaQ.f at H
 have hs:St w0 [] w0:=St.refl w0
 refine calls_of_g (n:=22) Tryd.func18 rfl rfl ?_
 show G _ _ _ _ [_,_,_,_,_,_,_,_,_,_,_,_,_,_,_,_,_,_,_,_,_,_,_] _
 refine Qad (Qaj [0,1] rfl ?_)
 refine Qbf hs rfl rfl (cs:=(([int .i8 a1.Qac,int .i8 a1.Qak,v2]:List Value))) rfl rfl ?_
 intro b4 w hs
 refine Qaa (v:=bool false) rfl rfl rfl ?_
 show G _ _ _ _ [_,_,_,_,_,_,_,_,_,_,_,_,_,_,_,_,_,_,_,_,_,_,_] _
 refine Qab (Qad (Qaj [0,1,2,3,4,5,6,7,8,9,10,11,12,13,14,15,16,17,18,19,20] rfl ?_))
 refine Qaa (v:=pointer (some ⟨b4,0,none⟩)) rfl rfl rfl ?_
 refine QaH rfl rfl (v:=int .i8 a1.Qac) rfl rfl (fun _=>rfl) (cells_load (hs.cells 0 rfl) 0 1 rfl) ?_
 refine Qaa (v:=int .i64 (i64w a1.Qac)) rfl rfl rfl ?_
 show G _ _ _ _ [_,_,_,_,_,_,_,_,_,_,_,_,_,_,_,_,_,_,_,_,_,_,_] _
 refine Qaa (v:=pointer (some ⟨b4,1,none⟩)) rfl rfl rfl ?_
 refine QaH rfl rfl (v:=int .i8 a1.Qak) rfl rfl (fun _=>rfl) (cells_load (hs.cells 0 rfl) 1 1 rfl) ?_
 refine Qaa (v:=int .i64 (i64w a1.Qak)) rfl rfl rfl ?_
 show G _ _ _ _ [_,_,_,_,_,_,_,_,_,_,_,_,_,_,_,_,_,_,_,_,_,_,_] _
 obtain ⟨r6,Hr6,H⟩:=bind_get H
 refine Qaz (args:=[int .i64 (i64w a1.Qac),int .i64 (i64w a1.Qak)]) rfl rfl (Qaw rfl (callFunc_enter Tryd.func39 rfl rfl) rfl) (Qbb.calls (a1:=i64w a1.Qac) (a2:=i64w a1.Qak) Hr6) ?_
 rintro _ w ⟨rfl,hs2⟩
 have hs:St _ [_] _:=hs.call hs2
 cases r6 with
 |true=>
  rw [if_pos rfl] at H
  refine Qaa (v:=bool true) rfl rfl rfl ?_
  refine Qaa (v:=pointer (some ⟨b4,2,none⟩)) rfl rfl rfl ?_
  show G _ _ _ _ [_,_,_,_,_,_,_,_,_,_,_,_,_,_,_,_,_,_,_,_,_,_,_] _
  refine QaH rfl rfl (v:=v2) rfl rfl (fun _=>rfl) (cells_load (hs.cells 0 rfl) 2 1 rfl) ?_
  refine Qbi (hs.rd hr3) rfl rfl rfl rfl rfl ?_
  refine Qaa (v:=bool (decide ((a1.Qaf.length:Int)≤60))) rfl rfl rfl ?_
  show G _ _ _ _ [_,_,_,_,_,_,_,_,_,_,_,_,_,_,_,_,_,_,_,_,_,_,_] _
  refine Qau (B:=decide ((a1.Qaf.length:Int)≤60)) rfl rfl rfl ?_ ?_
  ·
   intro hb
   rw [if_pos (b_dec_t hb)] at H
   refine Qaa (v:=bool true) rfl rfl rfl ?_
   refine Qaa (v:=pointer (some ⟨b4,2,none⟩)) rfl rfl rfl ?_
   show G _ _ _ _ [_,_,_,_,_,_,_,_,_,_,_,_,_,_,_,_,_,_,_,_,_,_,_] _
   refine QaH rfl rfl (v:=v2) rfl rfl (fun _=>rfl) (cells_load (hs.cells 0 rfl) 2 1 rfl) ?_
   refine Qaa (v:=Value.func (Fn.func 41) #[] #[pointer (some ⟨b4,0,none⟩)]) rfl rfl (QbT rfl rfl) ?_
   obtain ⟨r7,Hr7,H⟩:=bind_get H
   refine Qaz (args:=[v2,Value.func (Fn.func 41) #[] #[pointer (some ⟨b4,0,none⟩)]]) rfl rfl (Qaw rfl (callFunc_enter Tryd.func40 rfl rfl) rfl) (Qav.calls (a1:=a1.Qaf) (a3:=(⟨a1.Qac,a1.Qak,a1.Qaf⟩:Qar)) (hs.rd hr3) (hs.rd hr3) (hs.cells 0 rfl) Hr7) ?_
   rintro _ w ⟨rfl,hs2⟩
   have hs:St _ [_] _:=hs.call hs2
   show G _ _ _ _ [_,_,_,_,_,_,_,_,_,_,_,_,_,_,_,_,_,_,_,_,_,_,_] _
   refine Qaa (v:=bool (!r7)) rfl rfl rfl ?_
   refine Qaa (v:=bool (!r7)) rfl rfl rfl ?_
   refine Qaa (v:=bool (!r7)) rfl rfl rfl ?_
   show G _ _ _ _ [_,_,_,_,_,_,_,_,_,_,_,_,_,_,_,_,_,_,_,_,_,_,_] _
   refine Qab ?_
   obtain rfl:=QsJ H
   refine Qax Tryd.func18 (v:=bool (!r7)) (res1 rfl rfl) ?_
   have hs:St _ [] _:=St.take (Γ':=[_]) hs
   exact ⟨_,rfl,rfl,hs⟩
  intro hb
  rw [if_neg (b_dec_f hb)] at H
  refine Qaa (v:=bool false) rfl rfl rfl (Qaq rfl rfl ?_)
  show G _ _ _ _ [_,_,_,_,_,_,_,_,_,_,_,_,_,_,_,_,_,_,_,_,_,_,_] _
  refine Qaq rfl rfl (Qaq rfl rfl (Qaq rfl rfl ?_))
  show G _ _ _ _ [_,_,_,_,_,_,_,_,_,_,_,_,_,_,_,_,_,_,_,_,_,_,_] _
  refine Qaq rfl rfl ?_
  refine Qaa (v:=bool false) rfl rfl rfl ?_
  refine Qaa (v:=bool false) rfl rfl rfl ?_
  show G _ _ _ _ [_,_,_,_,_,_,_,_,_,_,_,_,_,_,_,_,_,_,_,_,_,_,_] _
  refine Qab ?_
  obtain rfl:=QsJ H
  refine Qax Tryd.func18 (v:=bool false) (res1 rfl rfl) ?_
  have hs:St _ [] _:=St.take (Γ':=[_]) hs
  exact ⟨_,rfl,rfl,hs⟩
 |false=>
  rw [if_neg Bool.false_ne_true] at H
  refine Qaa (v:=bool false) rfl rfl rfl (Qaq rfl rfl ?_)
  show G _ _ _ _ [_,_,_,_,_,_,_,_,_,_,_,_,_,_,_,_,_,_,_,_,_,_,_] _
  refine Qaq rfl rfl (Qaq rfl rfl (Qaq rfl rfl ?_))
  show G _ _ _ _ [_,_,_,_,_,_,_,_,_,_,_,_,_,_,_,_,_,_,_,_,_,_,_] _
  refine Qaa (v:=bool false) rfl rfl rfl ?_
  refine Qaa (v:=bool false) rfl rfl rfl (Qaq rfl rfl ?_)
  show G _ _ _ _ [_,_,_,_,_,_,_,_,_,_,_,_,_,_,_,_,_,_,_,_,_,_,_] _
  refine Qaq rfl rfl (Qaq rfl rfl (Qaq rfl rfl ?_))
  show G _ _ _ _ [_,_,_,_,_,_,_,_,_,_,_,_,_,_,_,_,_,_,_,_,_,_,_] _
  refine Qaq rfl rfl ?_
  refine Qaa (v:=bool false) rfl rfl rfl ?_
  refine Qaa (v:=bool false) rfl rfl rfl ?_
  show G _ _ _ _ [_,_,_,_,_,_,_,_,_,_,_,_,_,_,_,_,_,_,_,_,_,_,_] _
  refine Qab ?_
  obtain rfl:=QsJ H
  refine Qax Tryd.func18 (v:=bool false) (res1 rfl rfl) ?_
  have hs:St _ [] _:=St.take (Γ':=[_]) hs
  exact ⟨_,rfl,rfl,hs⟩
def strconv_FormatInt.post (w0:World) (r:ByteArray) (v:Value) (w:World):Prop:=v=string r∧St w0 [] w
theorem strconv_FormatInt.calls {N : Nat} {a1 a2 : Int} {w0 : World} {r : ByteArray} (htab : Lib.TabIs Tryd.prog w0 "internal/strconv.uint64pow10" .u64 Lib.pow10Tab) (H : strconv_FormatInt.f N a1 a2 = some r) :
 Calls Tryd.prog 44 #[.int .i64 a1, .int .i64 a2] w0 fun e w=>∃ v,e= .returned v∧strconv_FormatInt.post w0 r v w:=by
 obtain ⟨⟨hg,e10⟩,H2⟩:=ite_get H
 subst e10
 obtain rfl:=QsJ H2
 exact (Tryd.strconv_FormatInt_10 a1 hg.1 hg.2 w0 htab).mono fun e w ⟨he,k,os,hw⟩=>⟨_,he,rfl,St.of_grow hw⟩
def QaX.post (w0:World) (r:ByteArray) (v:Value) (w:World):Prop:=v=string r∧St w0 [] w
theorem QaX.calls {N : Nat} {a1 : Int} {w0 : World} {r : ByteArray} (htab : Lib.TabIs Tryd.prog w0 "internal/strconv.uint64pow10" .u64 Lib.pow10Tab) (H : QaX.f N a1 = some r) :
 Calls Tryd.prog 20 #[int .i64 a1] w0 fun e w=>∃ v,e= .returned v∧QaX.post w0 r v w:=by
 unfold QaX.f at H
 have hs:St w0 [] w0:=St.refl w0
 refine calls_of_g (n:=4) Tryd.func20 rfl rfl ?_
 show G _ _ _ _ [_,_,_,_,_] _
 refine Qad (Qaj [0] rfl ?_)
 refine Qaa (v:=string (⟨#[]⟩:ByteArray)) rfl rfl rfl (Qab (Qad (Qaj [0,1,2] rfl ?_)))
 refine Qaa (v:=int .i64 a1) rfl rfl rfl ?_
 obtain ⟨r2,Hr2,H⟩:=bind_get H
 refine Qaz (args:=[int .i64 a1,int .i64 10]) rfl rfl (Qaw rfl (callFunc_enter Tryd.func44 rfl rfl) rfl) (strconv_FormatInt.calls (a1:=a1) (a2:=10) (hs.tab htab) Hr2) ?_
 rintro _ w ⟨rfl,hs2⟩
 have hs:St _ [] _:=hs.call hs2
 show G _ _ _ _ [_,_,_,_,_] _
 refine Qaa (v:=string r2) rfl rfl rfl (Qab ?_)
 obtain rfl:=QsJ H
 refine Qax Tryd.func20 (v:=string r2) (res1 rfl rfl) ?_
 have hs:St _ [] _:=St.take (Γ':=[]) hs
 exact ⟨_,rfl,rfl,hs⟩
def QaR.post (w0:World) (r:Bool) (v:Value) (w:World):Prop:=v=bool r∧St w0 [] w
theorem QaR.calls {N:Nat} {a1:Int} {w0:World} {r:Bool} (H:QaR.f N a1=some r):
 Calls Tryd.prog 78 #[int .i64 a1] w0 fun e w=>∃ v,e= .returned v∧QaR.post w0 r v w:=by
 unfold QaR.f at H
 have hs:St w0 [] w0:=St.refl w0
 refine calls_of_g (n:=7) Tryd.func78 rfl rfl ?_
 show G _ _ _ _ [_,_,_,_,_,_,_,_] _
 refine Qad (Qaj [0] rfl ?_)
 refine Qaa (v:=bool false) rfl rfl rfl (Qab (Qad (Qaj [0,1,2,3,4,5] rfl ?_)))
 refine Qaa (v:=int .i64 a1) rfl rfl rfl ?_
 refine Qaa (v:=int .i64 a1) rfl rfl rfl ?_
 show G _ _ _ _ [_,_,_,_,_,_,_,_] _
 refine Qaa (v:=int .i64 (i64w (a1 - 1))) rfl rfl rfl ?_
 refine Qaa (v:=int .i64 (bAnd .i64 a1 (i64w (a1 - 1)))) rfl rfl rfl ?_
 refine Qaa (v:=bool ((bAnd .i64 a1 (i64w (a1 - 1)))==0)) rfl rfl rfl ?_
 show G _ _ _ _ [_,_,_,_,_,_,_,_] _
 refine Qaa (v:=bool ((bAnd .i64 a1 (i64w (a1 - 1)))==0)) rfl rfl rfl (Qab ?_)
 obtain rfl:=QsJ H
 refine Qax Tryd.func78 (v:=bool ((bAnd .i64 a1 (i64w (a1 - 1)))==0)) (res1 rfl rfl) ?_
 have hs:St _ [] _:=St.take (Γ':=[]) hs
 exact ⟨_,rfl,rfl,hs⟩
def QaZ.post (w0:World) (r:Int) (v:Value) (w:World):Prop:=v=int .i64 r∧St w0 [] w
theorem QaZ.calls {N:Nat} {a1:Int} {w0:World} {r:Int} (hdbr:CellU w0 5 15 4) (H:QaZ.f N a1=some r):
 Calls Tryd.prog 94 #[.int .u64 a1] w0 fun e w=>∃ v,e= .returned v∧QaZ.post w0 r v w:=by
 obtain ⟨hg,H⟩:=ite_get H
 subst hg
 obtain rfl:=QsJ H
 exact (tz16 w0 hdbr).mono fun e w ⟨he,hw⟩=>⟨_,he,rfl,by rw [hw];exact St.refl _⟩
def QaU.post (w0:World) (r:Int) (v:Value) (w:World):Prop:=v=int .i64 r∧St w0 [] w
theorem QaU.calls {N:Nat} {a1:Int} {w0:World} {r:Int} (hdbr:CellU w0 5 15 4) (H:QaU.f N a1=some r):
 Calls Tryd.prog 79 #[int .u64 a1] w0 fun e w=>∃ v,e= .returned v∧QaU.post w0 r v w:=by
 unfold QaU.f at H
 have hs:St w0 [] w0:=St.refl w0
 refine calls_of_g (n:=7) Tryd.func79 rfl rfl ?_
 show G _ _ _ _ [_,_,_,_,_,_,_,_] _
 refine Qad (Qaj [0] rfl ?_)
 refine Qaa (v:=int .i64 0) rfl rfl rfl (Qab (Qad (Qag rfl (Qay (Qad (Qaj [0,1,2] rfl ?_))))))
 refine Qaa (v:=int .u64 a1) rfl rfl rfl ?_
 obtain ⟨r2,Hr2,H⟩:=bind_get H
 refine Qaz (args:=[int .u64 a1]) rfl rfl (Qaw rfl (callFunc_enter Tryd.func94 rfl rfl) rfl) (QaZ.calls (a1:=a1) (hs.cellU hdbr) Hr2) ?_
 rintro _ w ⟨rfl,hs2⟩
 have hs:St _ [] _:=hs.call hs2
 show G _ _ _ _ [_,_,_,_,_,_,_,_] _
 refine Qaa (v:=int .i64 r2) rfl rfl rfl (Qab ?_)
 obtain rfl:=QsJ H
 refine Qax Tryd.func79 (v:=int .i64 r2) (res1 rfl rfl) ?_
 have hs:St _ [] _:=St.take (Γ':=[]) hs
 exact ⟨_,rfl,rfl,hs⟩
end Go.Proofs.YtljkpeeabpdalaaDoorX
