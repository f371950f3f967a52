import Derived.Test.YtdnipilfcjkfoaaGreatDoorP15
namespace Go.Proofs.YtdnipilfcjkfoaaGreatDoorX
open Go Go.RowKit Go.Proofs
open Go.Value (int pointer bool agg slice string tuple)
set_option maxHeartbeats 8000000
set_option maxRecDepth 100000
set_option linter.unusedVariables false
set_option linter.unusedSimpArgs false
def Qa9.post (w0:World) (r:((Ar Int 4)×(Ar Int 4))) (v:Value) (w:World):Prop:=v=tuple #[agg ((encA (encI .i64)) r.1).toArray,agg ((encA (encI .i64)) r.2).toArray]∧St w0 [] w
theorem Qa9.calls {N:Nat} {a1:Int} {a2:(Ar Int 4)} {a3:(Ar Int 4)} {w0:World} {r:((Ar Int 4)×(Ar Int 4))} (H:Qa9.f N a1 a2 a3=some r):
 Calls Tryz.prog 70 #[int .i64 a1,agg ((encA (encI .i64)) a2).toArray,agg ((encA (encI .i64)) a3).toArray] w0 fun e w=>∃ v,e= .returned v∧Qa9.post w0 r v w:=by
 unfold Qa9.f at H
 have hs:St w0 [] w0:=St.refl w0
 refine calls_of_g (n:=62) Tryz.func70 rfl rfl ?_
 show G _ _ _ _ (_::_::_::_::_::_::_::_::_::_::_::_::_::_::_::_::_::_::_::_::_::_::_::_::_::_::_::_::_::_::_::_::_::_::_::_::_::_::_::_::_::_::_::_::_::_::_::_::_::_::_::_::_::_::_::_::_::_::_::_::_::_::_::_::_::[]) _
 refine Qaf (Qak [0,1,2,3] rfl ?_)
 refine Qbx hs rfl rfl (cs:=((encA (encI .i64)) a2)) rfl rfl ?_
 intro b4 w hs
 refine g_d rfl ?_
 try dsimp only [Qai,Qaj]
 refine Qbx hs rfl rfl (cs:=((encA (encI .i64)) a3)) rfl rfl ?_
 intro b6 w hs
 refine g_d rfl ?_
 refine Qa5 hs rfl rfl (z:=(agg #[int .i64 0,int .i64 0,int .i64 0,int .i64 0])) (cs:=((encA (encI .i64)) (Ar.rep 4 0))) rfl (fun _=>rfl) rfl ?_
 intro b8 w hs
 refine g_d rfl ?_
 try dsimp only [Qai,Qaj]
 refine Qa5 hs rfl rfl (z:=(agg #[int .i64 0,int .i64 0,int .i64 0,int .i64 0])) (cs:=((encA (encI .i64)) (Ar.rep 4 0))) rfl (fun _=>rfl) rfl ?_
 intro b10 w hs
 refine g_d rfl (Qab (Qaf (Qak [0,1,2] rfl ?_)))
 refine Qaa (v:=agg ((encA (encI .i64)) (Ar.rep 4 0)).toArray) rfl rfl (Qb7 rfl rfl) (g_d rfl ?_)
 try dsimp only [Qai,Qaj]
 refine Qa5 hs rfl rfl (z:=(agg #[int .i64 0,int .i64 0,int .i64 0,int .i64 0])) (cs:=((encA (encI .i64)) (Ar.rep 4 0))) rfl (fun _=>rfl) rfl ?_
 intro b12 w hs
 refine g_d rfl ?_
 refine QaB (n:=4) hs ((fkA (n:=4) (he:=(fkI .i64).len) (h1:=(fkI .i64).one)).len _) rfl rfl (vs:=((encA (encI .i64)) (Ar.rep 4 0))) rfl rfl rfl (fun _=>rfl) ((fkA (n:=4) (he:=(fkI .i64).len) (h1:=(fkI .i64).one)).len _) ((fkA (n:=4) (he:=(fkI .i64).len) (h1:=(fkI .i64).one)).one _) ?_
 intro w hs
 refine g_n rfl (Qab (Qaf (Qak [0,1,2] rfl ?_)))
 refine Qaa (v:=agg ((encA (encI .i64)) (Ar.rep 4 0)).toArray) rfl rfl (Qb7 rfl rfl) (g_d rfl ?_)
 try dsimp only [Qai,Qaj]
 refine Qa5 hs rfl rfl (z:=(agg #[int .i64 0,int .i64 0,int .i64 0,int .i64 0])) (cs:=((encA (encI .i64)) (Ar.rep 4 0))) rfl (fun _=>rfl) rfl ?_
 intro b14 w hs
 refine g_d rfl ?_
 refine QaB (n:=4) hs ((fkA (n:=4) (he:=(fkI .i64).len) (h1:=(fkI .i64).one)).len _) rfl rfl (vs:=((encA (encI .i64)) (Ar.rep 4 0))) rfl rfl rfl (fun _=>rfl) ((fkA (n:=4) (he:=(fkI .i64).len) (h1:=(fkI .i64).one)).len _) ((fkA (n:=4) (he:=(fkI .i64).len) (h1:=(fkI .i64).one)).one _) ?_
 intro w hs
 refine g_n rfl (Qab (Qaf (Qaf (Qak [0] rfl ?_))))
 refine Qaa (v:=int .i64 0) rfl rfl rfl (g_d rfl ?_)
 try dsimp only [Qai,Qaj]
 refine Qab ?_
 obtain ⟨o1_,Ho,Hr1_⟩:=bind_get H
 refine QaF (J:=fun t w=>∃ x24:(Ar Int 4),∃ x25:(Ar Int 4),Qa9.a0 N x24 x25=some r∧Fr t (fun O=>(O 0::O 1::O 2::O 3::O 4::O 5::pointer (some ⟨b8,0,none⟩)::pointer (some ⟨b10,0,none⟩)::pointer (some ⟨b12,0,none⟩)::pointer (some ⟨b14,0,none⟩)::oT O 1 (oT O 2 (oT O 3 (oT O 4 (oT O 5 (O 60::O 61::O 62::O 63::O 64::[]))))):List Value))∧St w0 [Cells b8 ((encA (encI .i64)) (Ar.rep 4 0)) 47,Cells b10 ((encA (encI .i64)) (Ar.rep 4 0)) 47,Cells b12 ((encA (encI .i64)) x24) 47,Cells b14 ((encA (encI .i64)) x25) 47] w) ?_ ?_
 ·
  rintro t w ⟨x24,x25,H,hf,hs⟩
  obtain ⟨O,rfl⟩:=hf.open
  try dsimp only [oT]
  unfold Qa9.a0 at H
  refine Qaf ?_
  refine Qbu ?_
  intro T hT
  refine Qcl (n:=4) rfl [0,1,2,3] [0,2,1,3] rfl rfl (Inv:=fun D t w=>∃ O:Nat→Value,t=(O 0::O 1::O 2::O 3::O 4::O 5::pointer (some ⟨b8,0,none⟩)::pointer (some ⟨b10,0,none⟩)::pointer (some ⟨b12,0,none⟩)::pointer (some ⟨b14,0,none⟩)::oT O 1 (oT O 2 (oT O 3 (oT O 4 (oT O 5 (O 60::O 61::O 62::cnd (D 0) (agg ((encA (encI .i64)) x24).toArray) (O 63)::cnd (D 1) (agg ((encA (encI .i64)) x25).toArray) (O 64)::[]))))))∧St w0 [Cells b8 (cnd (D 2) ((encA (encI .i64)) x24) ((encA (encI .i64)) (Ar.rep 4 0))) 47,Cells b10 (cnd (D 3) ((encA (encI .i64)) x25) ((encA (encI .i64)) (Ar.rep 4 0))) 47,Cells b12 ((encA (encI .i64)) x24) 47,Cells b14 ((encA (encI .i64)) x25) 47] w) ?_ ⟨⟨⟨⟨trivial,?_⟩,?_⟩,?_⟩,?_⟩ ?_
  ·
   intro w hh hbw
   have hs:=hs.samew hh hbw
   exact ⟨fun i=>T.getD i undef,(by subst hT;rfl),hs⟩
  ·
   rintro D t w hD hp hcl ⟨O,ht,hs⟩ rest hk
   have q2_:=nz hcl 2 0 hD
   have q3_:=nz hcl 3 1 q2_
   simp only [hD,q2_,q3_,cq,oT] at ht hs
   subst ht
   refine QaG rfl rfl (es:=((encA (encI .i64)) x24)) rfl rfl (fun _=>rfl) (n:=4) (fun _=>rfl) ((fkA (n:=4) (he:=(fkI .i64).len) (h1:=(fkI .i64).one)).len _) (cells_all (hs.cells 2 rfl)) (g_d rfl ?_)
   try dsimp only [Qai,Qaj]
   refine hk _ _ ⟨O,?_,hs.cast ?_⟩<;>simp only [oT,lq,cq,Nat.reduceBEq,q2_,q3_]
  ·
   rintro D t w hD hp hcl ⟨O,ht,hs⟩ rest hk
   have q3_:=nz hcl 3 0 hD
   simp only [hD,q3_,cq,oT] at ht hs
   subst ht
   refine QaG rfl rfl (es:=((encA (encI .i64)) x25)) rfl rfl (fun _=>rfl) (n:=4) (fun _=>rfl) ((fkA (n:=4) (he:=(fkI .i64).len) (h1:=(fkI .i64).one)).len _) (cells_all (hs.cells 3 rfl)) (g_d rfl ?_)
   try dsimp only [Qai,Qaj]
   refine hk _ _ ⟨O,?_,hs.cast ?_⟩<;>simp only [oT,lq,cq,Nat.reduceBEq,q3_]
  ·
   rintro D t w hD hp hcl ⟨O,ht,hs⟩ rest hk
   obtain ⟨p0_,_,_⟩:=hp
   have q3_:=nz hcl 3 1 hD
   simp only [hD,p0_,q3_,cq,oT] at ht hs
   subst ht
   refine QaB (n:=4) hs ((fkA (n:=4) (he:=(fkI .i64).len) (h1:=(fkI .i64).one)).len _) rfl rfl (vs:=((encA (encI .i64)) x24)) rfl rfl rfl (fun _=>rfl) ((fkA (n:=4) (he:=(fkI .i64).len) (h1:=(fkI .i64).one)).len _) ((fkA (n:=4) (he:=(fkI .i64).len) (h1:=(fkI .i64).one)).one _) ?_
   intro w hs
   refine g_n rfl ?_
   try dsimp only [Qai,Qaj]
   have hs:=hs.push 0 (by simp)
   refine hk _ _ ⟨O,?_,hs.cast ?_⟩<;>simp only [oT,lq,cq,Nat.reduceBEq,p0_,q3_]
  ·
   rintro D t w hD hp hcl ⟨O,ht,hs⟩ rest hk
   obtain ⟨p1_,p2_,p0_,_,_,_⟩:=hp
   simp only [hD,p0_,p1_,p2_,cq,oT] at ht hs
   subst ht
   have hs:St _ [_,_,_,_] _:=hs.pull 1 rfl
   refine QaB (n:=4) hs ((fkA (n:=4) (he:=(fkI .i64).len) (h1:=(fkI .i64).one)).len _) rfl rfl (vs:=((encA (encI .i64)) x25)) rfl rfl rfl (fun _=>rfl) ((fkA (n:=4) (he:=(fkI .i64).len) (h1:=(fkI .i64).one)).len _) ((fkA (n:=4) (he:=(fkI .i64).len) (h1:=(fkI .i64).one)).one _) ?_
   intro w hs
   refine g_n rfl ?_
   try dsimp only [Qai,Qaj]
   have hs:=hs.push 1 (by simp)
   refine hk _ _ ⟨O,?_,hs.cast ?_⟩<;>simp only [oT,lq,cq,Nat.reduceBEq,p0_,p1_,p2_]
  intro D t w hall hI
  obtain ⟨O,ht,hs⟩:=hI
  have p0_:=hall 0 (by decide)
  have p1_:=hall 1 (by decide)
  have p2_:=hall 2 (by decide)
  have p3_:=hall 3 (by decide)
  simp only [p0_,p1_,p2_,p3_,cq,oT] at ht hs
  subst ht
  obtain rfl:=QsJ H
  refine Qax Tryz.func70 (v:=tuple #[agg ((encA (encI .i64)) x24).toArray,agg ((encA (encI .i64)) x25).toArray]) (resN (l:=Tryz.f70.results.toList) (vs:=[agg ((encA (encI .i64)) x24).toArray,agg ((encA (encI .i64)) x25).toArray]) rfl ⟨⟨_,rfl,(run_loadVar_agg (es:=((encA (encI .i64)) x24)) rfl (congrArg (Result.ok · _) ((fkA (n:=4) (he:=(fkI .i64).len) (h1:=(fkI .i64).one)).len _).symm) (cells_all (hs.cells 0 rfl)))⟩,⟨_,rfl,(run_loadVar_agg (es:=((encA (encI .i64)) x25)) rfl (congrArg (Result.ok · _) ((fkA (n:=4) (he:=(fkI .i64).len) (h1:=(fkI .i64).one)).len _).symm) (cells_all (hs.cells 1 rfl)))⟩,trivial⟩ (by simp)) ?_
  have hs:St _ [] _:=St.take (Γ':=[_,_,_,_]) hs
  exact ⟨_,rfl,rfl,hs⟩
 intro ha1_
 have hs:=hs.pull 0 rfl
 have hs:=hs.pull 1 rfl
 have hs:=hs.pull 2 rfl
 have hs:=hs.pull 3 rfl
 have hs:=hs.pull 4 rfl
 have hs:=hs.pull 5 rfl
 have hs:St _ [_,_,_,_,_,_] _:=St.take (Γ':=[]) hs
 refine QaZ (I:=fun n_ t w=>∃ x19:(Ar Int 4),∃ x20:(Ar Int 4),∃ x21:Int,rounds (fun s=>Qa9.b0 N a1 a3 a2 s.1 s.2.1 s.2.2) n_ (x19,x20,x21)=some o1_∧Fr t (fun O=>(int .i64 a1::O 1::O 2::O 3::pointer (some ⟨b4,0,none⟩)::pointer (some ⟨b6,0,none⟩)::pointer (some ⟨b8,0,none⟩)::pointer (some ⟨b10,0,none⟩)::pointer (some ⟨b12,0,none⟩)::pointer (some ⟨b14,0,none⟩)::int .i64 x21::O 11::O 12::O 13::O 14::O 15::O 16::O 17::O 18::O 19::oT O 2 (oT O 3 (oT O 4 (oT O 5 (O 60::O 61::O 62::O 63::O 64::[])))):List Value))∧St w0 [Cells b4 ((encA (encI .i64)) a2) 47,Cells b6 ((encA (encI .i64)) a3) 47,Cells b8 ((encA (encI .i64)) (Ar.rep 4 0)) 47,Cells b10 ((encA (encI .i64)) (Ar.rep 4 0)) 47,Cells b12 ((encA (encI .i64)) x19) 47,Cells b14 ((encA (encI .i64)) x20) 47] w) N ⟨(Ar.rep 4 0),(Ar.rep 4 0),0,Ho,rfl,hs⟩ ?_ ?_
 ·
  rintro _ _ ⟨x19,x20,x21,h,_⟩
  exact rounds_zero h
 intro n_ ih1_
 rintro t w ⟨x19,x20,x21,Ho,hf,hs⟩
 obtain ⟨O,rfl⟩:=hf.open
 try dsimp only [oT]
 obtain ⟨x29_,H,Hx1_⟩:=rounds_succ Ho
 have H:Qa9.b0 N a1 a3 a2 x19 x20 x21=some x29_:=H
 unfold Qa9.b0 at H
 refine Qaf (Qaf (Qak [0,1,2] rfl ?_))
 refine Qaa (v:=int .i64 x21) rfl rfl rfl (g_d rfl ?_)
 refine Qaa (v:=int .i64 a1) rfl rfl rfl (g_d rfl ?_)
 refine QaA (B:=decide (x21≤a1)) rfl rfl rfl ?_ ?_
 ·
  intro hb
  rw [if_pos (b_dec_t hb)] at H
  refine g_d rfl ?_
  try dsimp only [Qai,Qaj]
  refine Qab (Qam rfl (QaE (Qaf ?_)))
  refine QaF (J:=(fun t w=>∃ x22:(Ar Int 4),∃ x23:(Ar Int 4),Qa9.j2 N x21 x22 x23=some x29_∧Fr t (fun O=>(int .i64 a1::O 1::O 2::O 3::pointer (some ⟨b4,0,none⟩)::pointer (some ⟨b6,0,none⟩)::pointer (some ⟨b8,0,none⟩)::pointer (some ⟨b10,0,none⟩)::pointer (some ⟨b12,0,none⟩)::pointer (some ⟨b14,0,none⟩)::int .i64 x21::O 11::O 12::O 13::O 14::O 15::O 16::O 17::O 18::O 19::oT O 2 (oT O 3 (oT O 4 (oT O 5 (O 60::O 61::O 62::O 63::O 64::[])))):List Value))∧St w0 [Cells b4 ((encA (encI .i64)) a2) 47,Cells b6 ((encA (encI .i64)) a3) 47,Cells b8 ((encA (encI .i64)) (Ar.rep 4 0)) 47,Cells b10 ((encA (encI .i64)) (Ar.rep 4 0)) 47,Cells b12 ((encA (encI .i64)) x22) 47,Cells b14 ((encA (encI .i64)) x23) 47] w)) ?_ ?_
  ·
   rintro t w ⟨x22,x23,H,hf,hs⟩
   obtain ⟨O,rfl⟩:=hf.open
   try dsimp only [oT]
   unfold Qa9.j2 at H
   refine Qak [0,1,2] rfl ?_
   refine Qaa (v:=int .i64 x21) rfl rfl rfl (g_d rfl ?_)
   refine Qaa (v:=int .i64 (i64w (x21+1))) rfl rfl rfl (g_d rfl ?_)
   refine Qaa (v:=int .i64 (i64w (x21+1))) rfl rfl rfl (g_d rfl ?_)
   try dsimp only [Qai,Qaj]
   refine Qab ?_
   obtain rfl:=QsJ H
   have hs:=hs.pull 5 rfl
   have hs:=hs.pull 5 rfl
   have hs:=hs.pull 5 rfl
   have hs:=hs.pull 5 rfl
   have hs:=hs.pull 5 rfl
   have hs:=hs.pull 5 rfl
   have hs:St _ [_,_,_,_,_,_] _:=St.take (Γ':=[]) hs
   exact ih1_ _ _ ⟨x22,x23,i64w (x21+1),Hx1_,rfl,hs⟩
  intro ha
  refine Qaf ?_
  obtain ⟨gd15,H⟩:=ite_get H
  obtain ⟨gd16,H⟩:=ite_get H
  obtain ⟨gd17,H⟩:=ite_get H
  refine Qbu ?_
  intro T hT
  refine Qcl (n:=9) rfl [0,1,2,3,4,5,6,7,8] [0,1,2,3,4,5,6,7,8] rfl rfl (Inv:=fun D t w=>∃ O:Nat→Value,t=(int .i64 a1::O 1::O 2::O 3::pointer (some ⟨b4,0,none⟩)::pointer (some ⟨b6,0,none⟩)::pointer (some ⟨b8,0,none⟩)::pointer (some ⟨b10,0,none⟩)::pointer (some ⟨b12,0,none⟩)::pointer (some ⟨b14,0,none⟩)::int .i64 x21::O 11::O 12::int .i64 x21::int .i64 a1::bool true::O 16::O 17::cnd (D 0) (int .i64 x21) (O 18)::cnd (D 1) (pointer (some ⟨b12,0+x21.toNat*1,none⟩)) (O 19)::cnd (D 2) (int .i64 (x19.get x21 0)) (O 20)::cnd (D 3) (int .i64 x21) (O 21)::cnd (D 4) (pointer (some ⟨b6,0+x21.toNat*1,none⟩)) (O 22)::cnd (D 5) (int .i64 (a3.get x21 0)) (O 23)::cnd (D 6) (int .i64 (i64w ((x19.get x21 0)+(a3.get x21 0)))) (O 24)::cnd (D 7) (pointer (some ⟨b12,0+x21.toNat*1,none⟩)) (O 25)::O 26::O 27::O 28::O 29::oT O 3 (oT O 4 (oT O 5 (O 60::O 61::O 62::O 63::O 64::[]))))∧St w0 [Cells b4 ((encA (encI .i64)) a2) 47,Cells b6 ((encA (encI .i64)) a3) 47,Cells b8 ((encA (encI .i64)) (Ar.rep 4 0)) 47,Cells b10 ((encA (encI .i64)) (Ar.rep 4 0)) 47,Cells b12 (cnd (D 8) ((encA (encI .i64)) (x19.set x21 (i64w ((x19.get x21 0)+(a3.get x21 0))))) ((encA (encI .i64)) x19)) 47,Cells b14 ((encA (encI .i64)) x20) 47] w) ?_ ⟨⟨⟨⟨⟨⟨⟨⟨⟨trivial,?_⟩,?_⟩,?_⟩,?_⟩,?_⟩,?_⟩,?_⟩,?_⟩,?_⟩ ?_
  ·
   intro w hh hbw
   have hs:=hs.samew hh hbw
   exact ⟨fun i=>T.getD i undef,(by subst hT;rfl),hs⟩
  ·
   rintro D t w hD hp hcl ⟨O,ht,hs⟩ rest hk
   have q1_:=nz hcl 1 0 hD
   have q2_:=nz hcl 2 0 q1_
   have q6_:=nz hcl 6 0 q2_
   have q7_:=nz hcl 7 0 hD
   have q8_:=nz hcl 8 0 q7_
   simp only [hD,q1_,q2_,q6_,q7_,q8_,cq,oT] at ht hs
   subst ht
   refine Qaa (v:=int .i64 x21) rfl rfl rfl (g_d rfl ?_)
   try dsimp only [Qai,Qaj]
   refine hk _ _ ⟨O,?_,hs.cast ?_⟩<;>simp only [oT,lq,cq,Nat.reduceBEq,q1_,q2_,q6_,q7_,q8_]
  ·
   rintro D t w hD hp hcl ⟨O,ht,hs⟩ rest hk
   obtain ⟨p0_,_⟩:=hp
   have q2_:=nz hcl 2 0 hD
   have q6_:=nz hcl 6 0 q2_
   have q7_:=nz hcl 7 2 hD
   have q8_:=nz hcl 8 0 q7_
   simp only [hD,p0_,q2_,q6_,q7_,q8_,cq,oT] at ht hs
   subst ht
   refine Qba (n:=x21) (m:=1) rfl (fun _=>rfl) gd15.1 gd15.2 rfl rfl rfl rfl rfl (g_d rfl ?_)
   try dsimp only [Qai,Qaj]
   refine hk _ _ ⟨O,?_,hs.cast ?_⟩<;>simp only [oT,lq,cq,Nat.reduceBEq,p0_,q2_,q6_,q7_,q8_]
  ·
   rintro D t w hD hp hcl ⟨O,ht,hs⟩ rest hk
   obtain ⟨p1_,_⟩:=hp
   obtain ⟨p0_,_⟩:=(hcl.get 1 (by decide)) p1_
   have q6_:=nz hcl 6 0 hD
   have q7_:=nz hcl 7 3 hD
   have q8_:=nz hcl 8 0 q7_
   simp only [hD,p0_,p1_,q6_,q7_,q8_,cq,oT] at ht hs
   subst ht
   refine Qaw rfl rfl (v:=int .i64 (x19.get x21 0)) rfl rfl (fun _=>rfl) (by rw [Nat.zero_add];exact cells_load (hs.cells 4 rfl) _ _ (encA_at (fkI .i64).len _ _ 0 gd15.1 gd15.2)) (g_d rfl ?_)
   try dsimp only [Qai,Qaj]
   refine hk _ _ ⟨O,?_,hs.cast ?_⟩<;>simp only [oT,lq,cq,Nat.reduceBEq,p0_,p1_,q6_,q7_,q8_]
  ·
   rintro D t w hD hp hcl ⟨O,ht,hs⟩ rest hk
   have q4_:=nz hcl 4 0 hD
   have q5_:=nz hcl 5 0 q4_
   have q6_:=nz hcl 6 1 q5_
   have q7_:=nz hcl 7 4 hD
   have q8_:=nz hcl 8 0 q7_
   simp only [hD,q4_,q5_,q6_,q7_,q8_,cq,oT] at ht hs
   subst ht
   refine Qaa (v:=int .i64 x21) rfl rfl rfl (g_d rfl ?_)
   try dsimp only [Qai,Qaj]
   refine hk _ _ ⟨O,?_,hs.cast ?_⟩<;>simp only [oT,lq,cq,Nat.reduceBEq,q4_,q5_,q6_,q7_,q8_]
  ·
   rintro D t w hD hp hcl ⟨O,ht,hs⟩ rest hk
   obtain ⟨p3_,_⟩:=hp
   have q5_:=nz hcl 5 0 hD
   have q6_:=nz hcl 6 1 q5_
   have q7_:=nz hcl 7 5 hD
   have q8_:=nz hcl 8 0 q7_
   simp only [hD,p3_,q5_,q6_,q7_,q8_,cq,oT] at ht hs
   subst ht
   refine Qba (n:=x21) (m:=1) rfl (fun _=>rfl) gd16.1 gd16.2 rfl rfl rfl rfl rfl (g_d rfl ?_)
   try dsimp only [Qai,Qaj]
   refine hk _ _ ⟨O,?_,hs.cast ?_⟩<;>simp only [oT,lq,cq,Nat.reduceBEq,p3_,q5_,q6_,q7_,q8_]
  ·
   rintro D t w hD hp hcl ⟨O,ht,hs⟩ rest hk
   obtain ⟨p4_,_⟩:=hp
   obtain ⟨p3_,_⟩:=(hcl.get 4 (by decide)) p4_
   have q6_:=nz hcl 6 1 hD
   have q7_:=nz hcl 7 6 hD
   have q8_:=nz hcl 8 0 q7_
   simp only [hD,p3_,p4_,q6_,q7_,q8_,cq,oT] at ht hs
   subst ht
   refine Qaw rfl rfl (v:=int .i64 (a3.get x21 0)) rfl rfl (fun _=>rfl) (by rw [Nat.zero_add];exact cells_load (hs.cells 1 rfl) _ _ (encA_at (fkI .i64).len _ _ 0 gd16.1 gd16.2)) (g_d rfl ?_)
   try dsimp only [Qai,Qaj]
   refine hk _ _ ⟨O,?_,hs.cast ?_⟩<;>simp only [oT,lq,cq,Nat.reduceBEq,p3_,p4_,q6_,q7_,q8_]
  ·
   rintro D t w hD hp hcl ⟨O,ht,hs⟩ rest hk
   obtain ⟨p2_,p5_,_⟩:=hp
   obtain ⟨p4_,_⟩:=(hcl.get 5 (by decide)) p5_
   obtain ⟨p3_,_⟩:=(hcl.get 4 (by decide)) p4_
   obtain ⟨p1_,_⟩:=(hcl.get 2 (by decide)) p2_
   obtain ⟨p0_,_⟩:=(hcl.get 1 (by decide)) p1_
   have q7_:=nz hcl 7 7 hD
   have q8_:=nz hcl 8 0 q7_
   simp only [hD,p0_,p1_,p2_,p3_,p4_,p5_,q7_,q8_,cq,oT] at ht hs
   subst ht
   refine Qaa (v:=int .i64 (i64w ((x19.get x21 0)+(a3.get x21 0)))) rfl rfl rfl (g_d rfl ?_)
   try dsimp only [Qai,Qaj]
   refine hk _ _ ⟨O,?_,hs.cast ?_⟩<;>simp only [oT,lq,cq,Nat.reduceBEq,p0_,p1_,p2_,p3_,p4_,p5_,q7_,q8_]
  ·
   rintro D t w hD hp hcl ⟨O,ht,hs⟩ rest hk
   obtain ⟨p0_,_,p1_,p2_,p3_,p4_,p5_,p6_,_⟩:=hp
   have q8_:=nz hcl 8 0 hD
   simp only [hD,p0_,p1_,p2_,p3_,p4_,p5_,p6_,q8_,cq,oT] at ht hs
   subst ht
   refine Qba (n:=x21) (m:=1) rfl (fun _=>rfl) gd17.1 gd17.2 rfl rfl rfl rfl rfl (g_d rfl ?_)
   try dsimp only [Qai,Qaj]
   refine hk _ _ ⟨O,?_,hs.cast ?_⟩<;>simp only [oT,lq,cq,Nat.reduceBEq,p0_,p1_,p2_,p3_,p4_,p5_,p6_,q8_]
  ·
   rintro D t w hD hp hcl ⟨O,ht,hs⟩ rest hk
   obtain ⟨p7_,p6_,p0_,p1_,p2_,p3_,p4_,p5_,_,_⟩:=hp
   simp only [hD,p0_,p1_,p2_,p3_,p4_,p5_,p6_,p7_,cq,oT] at ht hs
   subst ht
   have hs:St _ [_,_,_,_,_,_] _:=hs.pull 4 rfl
   refine QbN (y:=i64w ((x19.get x21 0)+(a3.get x21 0))) (fkI .i64).len (fkI .i64).one gd17.1 gd17.2 hs rfl rfl rfl rfl rfl (fun _=>rfl) ?_
   intro w hs
   refine g_n rfl ?_
   try dsimp only [Qai,Qaj]
   have hs:=hs.push 4 (by simp)
   refine hk _ _ ⟨O,?_,hs.cast ?_⟩<;>simp only [oT,lq,cq,Nat.reduceBEq,p0_,p1_,p2_,p3_,p4_,p5_,p6_,p7_]
  intro D t w hall hI
  obtain ⟨O,ht,hs⟩:=hI
  have p0_:=hall 0 (by decide)
  have p1_:=hall 1 (by decide)
  have p2_:=hall 2 (by decide)
  have p3_:=hall 3 (by decide)
  have p4_:=hall 4 (by decide)
  have p5_:=hall 5 (by decide)
  have p6_:=hall 6 (by decide)
  have p7_:=hall 7 (by decide)
  have p8_:=hall 8 (by decide)
  simp only [p0_,p1_,p2_,p3_,p4_,p5_,p6_,p7_,p8_,cq,oT] at ht hs
  subst ht
  refine Qaf ?_
  obtain ⟨gd18,H⟩:=ite_get H
  obtain ⟨gd19,H⟩:=ite_get H
  obtain ⟨gd20,H⟩:=ite_get H
  obtain ⟨gd21,H⟩:=ite_get H
  refine Qbu ?_
  intro T hT
  refine Qcl (n:=13) rfl [0,1,2,3,4,5,6,7,8,9,10,11,12] [0,1,2,3,4,5,6,7,8,9,10,11,12] rfl rfl (Inv:=fun D t w=>∃ O:Nat→Value,t=(int .i64 a1::O 1::O 2::O 3::pointer (some ⟨b4,0,none⟩)::pointer (some ⟨b6,0,none⟩)::pointer (some ⟨b8,0,none⟩)::pointer (some ⟨b10,0,none⟩)::pointer (some ⟨b12,0,none⟩)::pointer (some ⟨b14,0,none⟩)::int .i64 x21::O 11::O 12::int .i64 x21::int .i64 a1::bool true::O 16::O 17::int .i64 x21::pointer (some ⟨b12,0+x21.toNat*1,none⟩)::int .i64 (x19.get x21 0)::int .i64 x21::pointer (some ⟨b6,0+x21.toNat*1,none⟩)::int .i64 (a3.get x21 0)::int .i64 (i64w ((x19.get x21 0)+(a3.get x21 0)))::pointer (some ⟨b12,0+x21.toNat*1,none⟩)::cnd (D 0) (int .i64 x21) (O 26)::cnd (D 1) (pointer (some ⟨b14,0+x21.toNat*1,none⟩)) (O 27)::cnd (D 2) (int .i64 (x20.get x21 0)) (O 28)::cnd (D 3) (int .i64 x21) (O 29)::cnd (D 4) (pointer (some ⟨b4,0+x21.toNat*1,none⟩)) (O 30)::cnd (D 5) (int .i64 (a2.get x21 0)) (O 31)::cnd (D 6) (int .i64 x21) (O 32)::cnd (D 7) (pointer (some ⟨b6,0+x21.toNat*1,none⟩)) (O 33)::cnd (D 8) (int .i64 (a3.get x21 0)) (O 34)::cnd (D 9) (int .i64 (i64w ((a2.get x21 0) - (a3.get x21 0)))) (O 35)::cnd (D 10) (int .i64 (i64w ((x20.get x21 0)+(i64w ((a2.get x21 0) - (a3.get x21 0)))))) (O 36)::cnd (D 11) (pointer (some ⟨b14,0+x21.toNat*1,none⟩)) (O 37)::O 38::O 39::oT O 4 (oT O 5 (O 60::O 61::O 62::O 63::O 64::[])))∧St w0 [Cells b4 ((encA (encI .i64)) a2) 47,Cells b6 ((encA (encI .i64)) a3) 47,Cells b8 ((encA (encI .i64)) (Ar.rep 4 0)) 47,Cells b10 ((encA (encI .i64)) (Ar.rep 4 0)) 47,Cells b12 ((encA (encI .i64)) (x19.set x21 (i64w ((x19.get x21 0)+(a3.get x21 0))))) 47,Cells b14 (cnd (D 12) ((encA (encI .i64)) (x20.set x21 (i64w ((x20.get x21 0)+(i64w ((a2.get x21 0) - (a3.get x21 0))))))) ((encA (encI .i64)) x20)) 47] w) ?_ ⟨⟨⟨⟨⟨⟨⟨⟨⟨⟨⟨⟨⟨trivial,?_⟩,?_⟩,?_⟩,?_⟩,?_⟩,?_⟩,?_⟩,?_⟩,?_⟩,?_⟩,?_⟩,?_⟩,?_⟩ ?_
  ·
   intro w hh hbw
   have hs:=hs.samew hh hbw
   exact ⟨fun i=>T.getD i undef,(by subst hT;rfl),hs⟩
  ·
   rintro D t w hD hp hcl ⟨O,ht,hs⟩ rest hk
   have q1_:=nz hcl 1 0 hD
   have q2_:=nz hcl 2 0 q1_
   have q10_:=nz hcl 10 0 q2_
   have q11_:=nz hcl 11 0 hD
   have q12_:=nz hcl 12 0 q11_
   simp only [hD,q1_,q2_,q10_,q11_,q12_,cq,oT] at ht hs
   subst ht
   refine Qaa (v:=int .i64 x21) rfl rfl rfl (g_d rfl ?_)
   try dsimp only [Qai,Qaj]
   refine hk _ _ ⟨O,?_,hs.cast ?_⟩<;>simp only [oT,lq,cq,Nat.reduceBEq,q1_,q2_,q10_,q11_,q12_]
  ·
   rintro D t w hD hp hcl ⟨O,ht,hs⟩ rest hk
   obtain ⟨p0_,_⟩:=hp
   have q2_:=nz hcl 2 0 hD
   have q10_:=nz hcl 10 0 q2_
   have q11_:=nz hcl 11 2 hD
   have q12_:=nz hcl 12 0 q11_
   simp only [hD,p0_,q2_,q10_,q11_,q12_,cq,oT] at ht hs
   subst ht
   refine Qba (n:=x21) (m:=1) rfl (fun _=>rfl) gd18.1 gd18.2 rfl rfl rfl rfl rfl (g_d rfl ?_)
   try dsimp only [Qai,Qaj]
   refine hk _ _ ⟨O,?_,hs.cast ?_⟩<;>simp only [oT,lq,cq,Nat.reduceBEq,p0_,q2_,q10_,q11_,q12_]
  ·
   rintro D t w hD hp hcl ⟨O,ht,hs⟩ rest hk
   obtain ⟨p1_,_⟩:=hp
   obtain ⟨p0_,_⟩:=(hcl.get 1 (by decide)) p1_
   have q10_:=nz hcl 10 0 hD
   have q11_:=nz hcl 11 3 hD
   have q12_:=nz hcl 12 0 q11_
   simp only [hD,p0_,p1_,q10_,q11_,q12_,cq,oT] at ht hs
   subst ht
   refine Qaw rfl rfl (v:=int .i64 (x20.get x21 0)) rfl rfl (fun _=>rfl) (by rw [Nat.zero_add];exact cells_load (hs.cells 5 rfl) _ _ (encA_at (fkI .i64).len _ _ 0 gd18.1 gd18.2)) (g_d rfl ?_)
   try dsimp only [Qai,Qaj]
   refine hk _ _ ⟨O,?_,hs.cast ?_⟩<;>simp only [oT,lq,cq,Nat.reduceBEq,p0_,p1_,q10_,q11_,q12_]
  ·
   rintro D t w hD hp hcl ⟨O,ht,hs⟩ rest hk
   have q4_:=nz hcl 4 0 hD
   have q5_:=nz hcl 5 0 q4_
   have q9_:=nz hcl 9 0 q5_
   have q10_:=nz hcl 10 1 q9_
   have q11_:=nz hcl 11 4 hD
   have q12_:=nz hcl 12 0 q11_
   simp only [hD,q4_,q5_,q9_,q10_,q11_,q12_,cq,oT] at ht hs
   subst ht
   refine Qaa (v:=int .i64 x21) rfl rfl rfl (g_d rfl ?_)
   try dsimp only [Qai,Qaj]
   refine hk _ _ ⟨O,?_,hs.cast ?_⟩<;>simp only [oT,lq,cq,Nat.reduceBEq,q4_,q5_,q9_,q10_,q11_,q12_]
  ·
   rintro D t w hD hp hcl ⟨O,ht,hs⟩ rest hk
   obtain ⟨p3_,_⟩:=hp
   have q5_:=nz hcl 5 0 hD
   have q9_:=nz hcl 9 0 q5_
   have q10_:=nz hcl 10 1 q9_
   have q11_:=nz hcl 11 5 hD
   have q12_:=nz hcl 12 0 q11_
   simp only [hD,p3_,q5_,q9_,q10_,q11_,q12_,cq,oT] at ht hs
   subst ht
   refine Qba (n:=x21) (m:=1) rfl (fun _=>rfl) gd19.1 gd19.2 rfl rfl rfl rfl rfl (g_d rfl ?_)
   try dsimp only [Qai,Qaj]
   refine hk _ _ ⟨O,?_,hs.cast ?_⟩<;>simp only [oT,lq,cq,Nat.reduceBEq,p3_,q5_,q9_,q10_,q11_,q12_]
  ·
   rintro D t w hD hp hcl ⟨O,ht,hs⟩ rest hk
   obtain ⟨p4_,_⟩:=hp
   obtain ⟨p3_,_⟩:=(hcl.get 4 (by decide)) p4_
   have q9_:=nz hcl 9 0 hD
   have q10_:=nz hcl 10 1 q9_
   have q11_:=nz hcl 11 6 hD
   have q12_:=nz hcl 12 0 q11_
   simp only [hD,p3_,p4_,q9_,q10_,q11_,q12_,cq,oT] at ht hs
   subst ht
   refine Qaw rfl rfl (v:=int .i64 (a2.get x21 0)) rfl rfl (fun _=>rfl) (by rw [Nat.zero_add];exact cells_load (hs.cells 0 rfl) _ _ (encA_at (fkI .i64).len _ _ 0 gd19.1 gd19.2)) (g_d rfl ?_)
   try dsimp only [Qai,Qaj]
   refine hk _ _ ⟨O,?_,hs.cast ?_⟩<;>simp only [oT,lq,cq,Nat.reduceBEq,p3_,p4_,q9_,q10_,q11_,q12_]
  ·
   rintro D t w hD hp hcl ⟨O,ht,hs⟩ rest hk
   have q7_:=nz hcl 7 0 hD
   have q8_:=nz hcl 8 0 q7_
   have q9_:=nz hcl 9 1 q8_
   have q10_:=nz hcl 10 1 q9_
   have q11_:=nz hcl 11 7 hD
   have q12_:=nz hcl 12 0 q11_
   simp only [hD,q7_,q8_,q9_,q10_,q11_,q12_,cq,oT] at ht hs
   subst ht
   refine Qaa (v:=int .i64 x21) rfl rfl rfl (g_d rfl ?_)
   try dsimp only [Qai,Qaj]
   refine hk _ _ ⟨O,?_,hs.cast ?_⟩<;>simp only [oT,lq,cq,Nat.reduceBEq,q7_,q8_,q9_,q10_,q11_,q12_]
  ·
   rintro D t w hD hp hcl ⟨O,ht,hs⟩ rest hk
   obtain ⟨p6_,_⟩:=hp
   have q8_:=nz hcl 8 0 hD
   have q9_:=nz hcl 9 1 q8_
   have q10_:=nz hcl 10 1 q9_
   have q11_:=nz hcl 11 8 hD
   have q12_:=nz hcl 12 0 q11_
   simp only [hD,p6_,q8_,q9_,q10_,q11_,q12_,cq,oT] at ht hs
   subst ht
   refine Qba (n:=x21) (m:=1) rfl (fun _=>rfl) gd20.1 gd20.2 rfl rfl rfl rfl rfl (g_d rfl ?_)
   try dsimp only [Qai,Qaj]
   refine hk _ _ ⟨O,?_,hs.cast ?_⟩<;>simp only [oT,lq,cq,Nat.reduceBEq,p6_,q8_,q9_,q10_,q11_,q12_]
  ·
   rintro D t w hD hp hcl ⟨O,ht,hs⟩ rest hk
   obtain ⟨p7_,_⟩:=hp
   obtain ⟨p6_,_⟩:=(hcl.get 7 (by decide)) p7_
   have q9_:=nz hcl 9 1 hD
   have q10_:=nz hcl 10 1 q9_
   have q11_:=nz hcl 11 9 hD
   have q12_:=nz hcl 12 0 q11_
   simp only [hD,p6_,p7_,q9_,q10_,q11_,q12_,cq,oT] at ht hs
   subst ht
   refine Qaw rfl rfl (v:=int .i64 (a3.get x21 0)) rfl rfl (fun _=>rfl) (by rw [Nat.zero_add];exact cells_load (hs.cells 1 rfl) _ _ (encA_at (fkI .i64).len _ _ 0 gd20.1 gd20.2)) (g_d rfl ?_)
   try dsimp only [Qai,Qaj]
   refine hk _ _ ⟨O,?_,hs.cast ?_⟩<;>simp only [oT,lq,cq,Nat.reduceBEq,p6_,p7_,q9_,q10_,q11_,q12_]
  ·
   rintro D t w hD hp hcl ⟨O,ht,hs⟩ rest hk
   obtain ⟨p5_,p8_,_⟩:=hp
   obtain ⟨p7_,_⟩:=(hcl.get 8 (by decide)) p8_
   obtain ⟨p6_,_⟩:=(hcl.get 7 (by decide)) p7_
   obtain ⟨p4_,_⟩:=(hcl.get 5 (by decide)) p5_
   obtain ⟨p3_,_⟩:=(hcl.get 4 (by decide)) p4_
   have q10_:=nz hcl 10 1 hD
   have q11_:=nz hcl 11 10 hD
   have q12_:=nz hcl 12 0 q11_
   simp only [hD,p3_,p4_,p5_,p6_,p7_,p8_,q10_,q11_,q12_,cq,oT] at ht hs
   subst ht
   refine Qaa (v:=int .i64 (i64w ((a2.get x21 0) - (a3.get x21 0)))) rfl rfl rfl (g_d rfl ?_)
   try dsimp only [Qai,Qaj]
   refine hk _ _ ⟨O,?_,hs.cast ?_⟩<;>simp only [oT,lq,cq,Nat.reduceBEq,p3_,p4_,p5_,p6_,p7_,p8_,q10_,q11_,q12_]
  ·
   rintro D t w hD hp hcl ⟨O,ht,hs⟩ rest hk
   obtain ⟨p2_,p9_,_⟩:=hp
   obtain ⟨p5_,p8_,_⟩:=(hcl.get 9 (by decide)) p9_
   obtain ⟨p7_,_⟩:=(hcl.get 8 (by decide)) p8_
   obtain ⟨p6_,_⟩:=(hcl.get 7 (by decide)) p7_
   obtain ⟨p4_,_⟩:=(hcl.get 5 (by decide)) p5_
   obtain ⟨p3_,_⟩:=(hcl.get 4 (by decide)) p4_
   obtain ⟨p1_,_⟩:=(hcl.get 2 (by decide)) p2_
   obtain ⟨p0_,_⟩:=(hcl.get 1 (by decide)) p1_
   have q11_:=nz hcl 11 11 hD
   have q12_:=nz hcl 12 0 q11_
   simp only [hD,p0_,p1_,p2_,p3_,p4_,p5_,p6_,p7_,p8_,p9_,q11_,q12_,cq,oT] at ht hs
   subst ht
   refine Qaa (v:=int .i64 (i64w ((x20.get x21 0)+(i64w ((a2.get x21 0) - (a3.get x21 0)))))) rfl rfl rfl (g_d rfl ?_)
   try dsimp only [Qai,Qaj]
   refine hk _ _ ⟨O,?_,hs.cast ?_⟩<;>simp only [oT,lq,cq,Nat.reduceBEq,p0_,p1_,p2_,p3_,p4_,p5_,p6_,p7_,p8_,p9_,q11_,q12_]
  ·
   rintro D t w hD hp hcl ⟨O,ht,hs⟩ rest hk
   obtain ⟨p0_,_,p1_,p2_,p3_,p4_,p5_,p6_,p7_,p8_,p9_,p10_,_⟩:=hp
   have q12_:=nz hcl 12 0 hD
   simp only [hD,p0_,p1_,p2_,p3_,p4_,p5_,p6_,p7_,p8_,p9_,p10_,q12_,cq,oT] at ht hs
   subst ht
   refine Qba (n:=x21) (m:=1) rfl (fun _=>rfl) gd21.1 gd21.2 rfl rfl rfl rfl rfl (g_d rfl ?_)
   try dsimp only [Qai,Qaj]
   refine hk _ _ ⟨O,?_,hs.cast ?_⟩<;>simp only [oT,lq,cq,Nat.reduceBEq,p0_,p1_,p2_,p3_,p4_,p5_,p6_,p7_,p8_,p9_,p10_,q12_]
  ·
   rintro D t w hD hp hcl ⟨O,ht,hs⟩ rest hk
   obtain ⟨p11_,p10_,p0_,p1_,p2_,p3_,p4_,p5_,p6_,p7_,p8_,p9_,_,_⟩:=hp
   simp only [hD,p0_,p1_,p2_,p3_,p4_,p5_,p6_,p7_,p8_,p9_,p10_,p11_,cq,oT] at ht hs
   subst ht
   have hs:St _ [_,_,_,_,_,_] _:=hs.pull 5 rfl
   refine QbN (y:=i64w ((x20.get x21 0)+(i64w ((a2.get x21 0) - (a3.get x21 0))))) (fkI .i64).len (fkI .i64).one gd21.1 gd21.2 hs rfl rfl rfl rfl rfl (fun _=>rfl) ?_
   intro w hs
   refine g_n rfl ?_
   try dsimp only [Qai,Qaj]
   have hs:=hs.push 5 (by simp)
   refine hk _ _ ⟨O,?_,hs.cast ?_⟩<;>simp only [oT,lq,cq,Nat.reduceBEq,p0_,p1_,p2_,p3_,p4_,p5_,p6_,p7_,p8_,p9_,p10_,p11_]
  intro D t w hall hI
  obtain ⟨O,ht,hs⟩:=hI
  have p0_:=hall 0 (by decide)
  have p1_:=hall 1 (by decide)
  have p2_:=hall 2 (by decide)
  have p3_:=hall 3 (by decide)
  have p4_:=hall 4 (by decide)
  have p5_:=hall 5 (by decide)
  have p6_:=hall 6 (by decide)
  have p7_:=hall 7 (by decide)
  have p8_:=hall 8 (by decide)
  have p9_:=hall 9 (by decide)
  have p10_:=hall 10 (by decide)
  have p11_:=hall 11 (by decide)
  have p12_:=hall 12 (by decide)
  simp only [p0_,p1_,p2_,p3_,p4_,p5_,p6_,p7_,p8_,p9_,p10_,p11_,p12_,cq,oT] at ht hs
  subst ht
  refine Qaf (Qak [0,1,2] rfl ?_)
  refine Qaa (v:=int .i64 x21) rfl rfl rfl (g_d rfl ?_)
  refine Qaa (v:=int .i64 a1) rfl rfl rfl (g_d rfl ?_)
  refine QaA (B:=decide (x21< a1)) rfl rfl rfl ?_ ?_
  ·
   intro hb
   rw [if_pos (b_dec_t hb)] at H
   refine g_d rfl ?_
   try dsimp only [Qai,Qaj]
   refine Qab (Qam rfl (Qaf ?_))
   obtain ⟨gd22,H⟩:=ite_get H
   obtain ⟨gd23,H⟩:=ite_get H
   obtain ⟨gd24,H⟩:=ite_get H
   obtain ⟨gd25,H⟩:=ite_get H
   refine Qbu ?_
   intro T hT
   refine Qcl (n:=14) rfl [0,1,2,3,4,5,6,7,8,9,10,11,12,13] [0,1,2,3,4,5,6,7,8,9,10,11,12,13] rfl rfl (Inv:=fun D t w=>∃ O:Nat→Value,t=(int .i64 a1::O 1::O 2::O 3::pointer (some ⟨b4,0,none⟩)::pointer (some ⟨b6,0,none⟩)::pointer (some ⟨b8,0,none⟩)::pointer (some ⟨b10,0,none⟩)::pointer (some ⟨b12,0,none⟩)::pointer (some ⟨b14,0,none⟩)::int .i64 x21::O 11::O 12::int .i64 x21::int .i64 a1::bool true::O 16::O 17::int .i64 x21::pointer (some ⟨b12,0+x21.toNat*1,none⟩)::int .i64 (x19.get x21 0)::int .i64 x21::pointer (some ⟨b6,0+x21.toNat*1,none⟩)::int .i64 (a3.get x21 0)::int .i64 (i64w ((x19.get x21 0)+(a3.get x21 0)))::pointer (some ⟨b12,0+x21.toNat*1,none⟩)::int .i64 x21::pointer (some ⟨b14,0+x21.toNat*1,none⟩)::int .i64 (x20.get x21 0)::int .i64 x21::pointer (some ⟨b4,0+x21.toNat*1,none⟩)::int .i64 (a2.get x21 0)::int .i64 x21::pointer (some ⟨b6,0+x21.toNat*1,none⟩)::int .i64 (a3.get x21 0)::int .i64 (i64w ((a2.get x21 0) - (a3.get x21 0)))::int .i64 (i64w ((x20.get x21 0)+(i64w ((a2.get x21 0) - (a3.get x21 0)))))::pointer (some ⟨b14,0+x21.toNat*1,none⟩)::int .i64 x21::int .i64 a1::bool true::cnd (D 0) (int .i64 x21) (O 41)::cnd (D 1) (int .i64 (i64w (x21+1))) (O 42)::cnd (D 2) (pointer (some ⟨b12,0+(i64w (x21+1)).toNat*1,none⟩)) (O 43)::cnd (D 3) (int .i64 ((x19.set x21 (i64w ((x19.get x21 0)+(a3.get x21 0)))).get (i64w (x21+1)) 0)) (O 44)::cnd (D 4) (int .i64 x21) (O 45)::cnd (D 5) (pointer (some ⟨b4,0+x21.toNat*1,none⟩)) (O 46)::cnd (D 6) (int .i64 (a2.get x21 0)) (O 47)::cnd (D 7) (int .i64 x21) (O 48)::cnd (D 8) (pointer (some ⟨b6,0+x21.toNat*1,none⟩)) (O 49)::cnd (D 9) (int .i64 (a3.get x21 0)) (O 50)::cnd (D 10) (int .i64 (i64w ((a2.get x21 0) - (a3.get x21 0)))) (O 51)::cnd (D 11) (int .i64 (i64w (((x19.set x21 (i64w ((x19.get x21 0)+(a3.get x21 0)))).get (i64w (x21+1)) 0)+(i64w ((a2.get x21 0) - (a3.get x21 0)))))) (O 52)::cnd (D 12) (pointer (some ⟨b12,0+(i64w (x21+1)).toNat*1,none⟩)) (O 53)::O 54::O 55::O 56::O 57::O 58::O 59::O 60::O 61::O 62::O 63::O 64::[])∧St w0 [Cells b4 ((encA (encI .i64)) a2) 47,Cells b6 ((encA (encI .i64)) a3) 47,Cells b8 ((encA (encI .i64)) (Ar.rep 4 0)) 47,Cells b10 ((encA (encI .i64)) (Ar.rep 4 0)) 47,Cells b12 (cnd (D 13) ((encA (encI .i64)) ((x19.set x21 (i64w ((x19.get x21 0)+(a3.get x21 0)))).set (i64w (x21+1)) (i64w (((x19.set x21 (i64w ((x19.get x21 0)+(a3.get x21 0)))).get (i64w (x21+1)) 0)+(i64w ((a2.get x21 0) - (a3.get x21 0))))))) ((encA (encI .i64)) (x19.set x21 (i64w ((x19.get x21 0)+(a3.get x21 0)))))) 47,Cells b14 ((encA (encI .i64)) (x20.set x21 (i64w ((x20.get x21 0)+(i64w ((a2.get x21 0) - (a3.get x21 0))))))) 47] w) ?_ ⟨⟨⟨⟨⟨⟨⟨⟨⟨⟨⟨⟨⟨⟨trivial,?_⟩,?_⟩,?_⟩,?_⟩,?_⟩,?_⟩,?_⟩,?_⟩,?_⟩,?_⟩,?_⟩,?_⟩,?_⟩,?_⟩ ?_
   ·
    intro w hh hbw
    have hs:=hs.samew hh hbw
    exact ⟨fun i=>T.getD i undef,(by subst hT;rfl),hs⟩
   ·
    rintro D t w hD hp hcl ⟨O,ht,hs⟩ rest hk
    have q1_:=nz hcl 1 0 hD
    have q2_:=nz hcl 2 0 q1_
    have q3_:=nz hcl 3 0 q2_
    have q11_:=nz hcl 11 0 q3_
    have q12_:=nz hcl 12 0 q1_
    have q13_:=nz hcl 13 0 q12_
    simp only [hD,q1_,q2_,q3_,q11_,q12_,q13_,cq,oT] at ht hs
    subst ht
    refine Qaa (v:=int .i64 x21) rfl rfl rfl (g_d rfl ?_)
    try dsimp only [Qai,Qaj]
    refine hk _ _ ⟨O,?_,hs.cast ?_⟩<;>simp only [oT,lq,cq,Nat.reduceBEq,q1_,q2_,q3_,q11_,q12_,q13_]
   ·
    rintro D t w hD hp hcl ⟨O,ht,hs⟩ rest hk
    obtain ⟨p0_,_⟩:=hp
    have q2_:=nz hcl 2 0 hD
    have q3_:=nz hcl 3 0 q2_
    have q11_:=nz hcl 11 0 q3_
    have q12_:=nz hcl 12 0 hD
    have q13_:=nz hcl 13 0 q12_
    simp only [hD,p0_,q2_,q3_,q11_,q12_,q13_,cq,oT] at ht hs
    subst ht
    refine Qaa (v:=int .i64 (i64w (x21+1))) rfl rfl rfl (g_d rfl ?_)
    try dsimp only [Qai,Qaj]
    refine hk _ _ ⟨O,?_,hs.cast ?_⟩<;>simp only [oT,lq,cq,Nat.reduceBEq,p0_,q2_,q3_,q11_,q12_,q13_]
   ·
    rintro D t w hD hp hcl ⟨O,ht,hs⟩ rest hk
    obtain ⟨p1_,_⟩:=hp
    obtain ⟨p0_,_⟩:=(hcl.get 1 (by decide)) p1_
    have q3_:=nz hcl 3 0 hD
    have q11_:=nz hcl 11 0 q3_
    have q12_:=nz hcl 12 3 hD
    have q13_:=nz hcl 13 0 q12_
    simp only [hD,p0_,p1_,q3_,q11_,q12_,q13_,cq,oT] at ht hs
    subst ht
    refine Qba (n:=i64w (x21+1)) (m:=1) rfl (fun _=>rfl) gd22.1 gd22.2 rfl rfl rfl rfl rfl (g_d rfl ?_)
    try dsimp only [Qai,Qaj]
    refine hk _ _ ⟨O,?_,hs.cast ?_⟩<;>simp only [oT,lq,cq,Nat.reduceBEq,p0_,p1_,q3_,q11_,q12_,q13_]
   ·
    rintro D t w hD hp hcl ⟨O,ht,hs⟩ rest hk
    obtain ⟨p2_,_⟩:=hp
    obtain ⟨p1_,_⟩:=(hcl.get 2 (by decide)) p2_
    obtain ⟨p0_,_⟩:=(hcl.get 1 (by decide)) p1_
    have q11_:=nz hcl 11 0 hD
    have q12_:=nz hcl 12 4 hD
    have q13_:=nz hcl 13 0 q12_
    simp only [hD,p0_,p1_,p2_,q11_,q12_,q13_,cq,oT] at ht hs
    subst ht
    refine Qaw rfl rfl (v:=int .i64 ((x19.set x21 (i64w ((x19.get x21 0)+(a3.get x21 0)))).get (i64w (x21+1)) 0)) rfl rfl (fun _=>rfl) (by rw [Nat.zero_add];exact cells_load (hs.cells 4 rfl) _ _ (encA_at (fkI .i64).len _ _ 0 gd22.1 gd22.2)) (g_d rfl ?_)
    try dsimp only [Qai,Qaj]
    refine hk _ _ ⟨O,?_,hs.cast ?_⟩<;>simp only [oT,lq,cq,Nat.reduceBEq,p0_,p1_,p2_,q11_,q12_,q13_]
   ·
    rintro D t w hD hp hcl ⟨O,ht,hs⟩ rest hk
    have q5_:=nz hcl 5 0 hD
    have q6_:=nz hcl 6 0 q5_
    have q10_:=nz hcl 10 0 q6_
    have q11_:=nz hcl 11 1 q10_
    have q12_:=nz hcl 12 5 hD
    have q13_:=nz hcl 13 0 q12_
    simp only [hD,q5_,q6_,q10_,q11_,q12_,q13_,cq,oT] at ht hs
    subst ht
    refine Qaa (v:=int .i64 x21) rfl rfl rfl (g_d rfl ?_)
    try dsimp only [Qai,Qaj]
    refine hk _ _ ⟨O,?_,hs.cast ?_⟩<;>simp only [oT,lq,cq,Nat.reduceBEq,q5_,q6_,q10_,q11_,q12_,q13_]
   ·
    rintro D t w hD hp hcl ⟨O,ht,hs⟩ rest hk
    obtain ⟨p4_,_⟩:=hp
    have q6_:=nz hcl 6 0 hD
    have q10_:=nz hcl 10 0 q6_
    have q11_:=nz hcl 11 1 q10_
    have q12_:=nz hcl 12 6 hD
    have q13_:=nz hcl 13 0 q12_
    simp only [hD,p4_,q6_,q10_,q11_,q12_,q13_,cq,oT] at ht hs
    subst ht
    refine Qba (n:=x21) (m:=1) rfl (fun _=>rfl) gd23.1 gd23.2 rfl rfl rfl rfl rfl (g_d rfl ?_)
    try dsimp only [Qai,Qaj]
    refine hk _ _ ⟨O,?_,hs.cast ?_⟩<;>simp only [oT,lq,cq,Nat.reduceBEq,p4_,q6_,q10_,q11_,q12_,q13_]
   ·
    rintro D t w hD hp hcl ⟨O,ht,hs⟩ rest hk
    obtain ⟨p5_,_⟩:=hp
    obtain ⟨p4_,_⟩:=(hcl.get 5 (by decide)) p5_
    have q10_:=nz hcl 10 0 hD
    have q11_:=nz hcl 11 1 q10_
    have q12_:=nz hcl 12 7 hD
    have q13_:=nz hcl 13 0 q12_
    simp only [hD,p4_,p5_,q10_,q11_,q12_,q13_,cq,oT] at ht hs
    subst ht
    refine Qaw rfl rfl (v:=int .i64 (a2.get x21 0)) rfl rfl (fun _=>rfl) (by rw [Nat.zero_add];exact cells_load (hs.cells 0 rfl) _ _ (encA_at (fkI .i64).len _ _ 0 gd23.1 gd23.2)) (g_d rfl ?_)
    try dsimp only [Qai,Qaj]
    refine hk _ _ ⟨O,?_,hs.cast ?_⟩<;>simp only [oT,lq,cq,Nat.reduceBEq,p4_,p5_,q10_,q11_,q12_,q13_]
   ·
    rintro D t w hD hp hcl ⟨O,ht,hs⟩ rest hk
    have q8_:=nz hcl 8 0 hD
    have q9_:=nz hcl 9 0 q8_
    have q10_:=nz hcl 10 1 q9_
    have q11_:=nz hcl 11 1 q10_
    have q12_:=nz hcl 12 8 hD
    have q13_:=nz hcl 13 0 q12_
    simp only [hD,q8_,q9_,q10_,q11_,q12_,q13_,cq,oT] at ht hs
    subst ht
    refine Qaa (v:=int .i64 x21) rfl rfl rfl (g_d rfl ?_)
    try dsimp only [Qai,Qaj]
    refine hk _ _ ⟨O,?_,hs.cast ?_⟩<;>simp only [oT,lq,cq,Nat.reduceBEq,q8_,q9_,q10_,q11_,q12_,q13_]
   ·
    rintro D t w hD hp hcl ⟨O,ht,hs⟩ rest hk
    obtain ⟨p7_,_⟩:=hp
    have q9_:=nz hcl 9 0 hD
    have q10_:=nz hcl 10 1 q9_
    have q11_:=nz hcl 11 1 q10_
    have q12_:=nz hcl 12 9 hD
    have q13_:=nz hcl 13 0 q12_
    simp only [hD,p7_,q9_,q10_,q11_,q12_,q13_,cq,oT] at ht hs
    subst ht
    refine Qba (n:=x21) (m:=1) rfl (fun _=>rfl) gd24.1 gd24.2 rfl rfl rfl rfl rfl (g_d rfl ?_)
    try dsimp only [Qai,Qaj]
    refine hk _ _ ⟨O,?_,hs.cast ?_⟩<;>simp only [oT,lq,cq,Nat.reduceBEq,p7_,q9_,q10_,q11_,q12_,q13_]
   ·
    rintro D t w hD hp hcl ⟨O,ht,hs⟩ rest hk
    obtain ⟨p8_,_⟩:=hp
    obtain ⟨p7_,_⟩:=(hcl.get 8 (by decide)) p8_
    have q10_:=nz hcl 10 1 hD
    have q11_:=nz hcl 11 1 q10_
    have q12_:=nz hcl 12 10 hD
    have q13_:=nz hcl 13 0 q12_
    simp only [hD,p7_,p8_,q10_,q11_,q12_,q13_,cq,oT] at ht hs
    subst ht
    refine Qaw rfl rfl (v:=int .i64 (a3.get x21 0)) rfl rfl (fun _=>rfl) (by rw [Nat.zero_add];exact cells_load (hs.cells 1 rfl) _ _ (encA_at (fkI .i64).len _ _ 0 gd24.1 gd24.2)) (g_d rfl ?_)
    try dsimp only [Qai,Qaj]
    refine hk _ _ ⟨O,?_,hs.cast ?_⟩<;>simp only [oT,lq,cq,Nat.reduceBEq,p7_,p8_,q10_,q11_,q12_,q13_]
   ·
    rintro D t w hD hp hcl ⟨O,ht,hs⟩ rest hk
    obtain ⟨p6_,p9_,_⟩:=hp
    obtain ⟨p8_,_⟩:=(hcl.get 9 (by decide)) p9_
    obtain ⟨p7_,_⟩:=(hcl.get 8 (by decide)) p8_
    obtain ⟨p5_,_⟩:=(hcl.get 6 (by decide)) p6_
    obtain ⟨p4_,_⟩:=(hcl.get 5 (by decide)) p5_
    have q11_:=nz hcl 11 1 hD
    have q12_:=nz hcl 12 11 hD
    have q13_:=nz hcl 13 0 q12_
    simp only [hD,p4_,p5_,p6_,p7_,p8_,p9_,q11_,q12_,q13_,cq,oT] at ht hs
    subst ht
    refine Qaa (v:=int .i64 (i64w ((a2.get x21 0) - (a3.get x21 0)))) rfl rfl rfl (g_d rfl ?_)
    try dsimp only [Qai,Qaj]
    refine hk _ _ ⟨O,?_,hs.cast ?_⟩<;>simp only [oT,lq,cq,Nat.reduceBEq,p4_,p5_,p6_,p7_,p8_,p9_,q11_,q12_,q13_]
   ·
    rintro D t w hD hp hcl ⟨O,ht,hs⟩ rest hk
    obtain ⟨p3_,p10_,_⟩:=hp
    obtain ⟨p6_,p9_,_⟩:=(hcl.get 10 (by decide)) p10_
    obtain ⟨p8_,_⟩:=(hcl.get 9 (by decide)) p9_
    obtain ⟨p7_,_⟩:=(hcl.get 8 (by decide)) p8_
    obtain ⟨p5_,_⟩:=(hcl.get 6 (by decide)) p6_
    obtain ⟨p4_,_⟩:=(hcl.get 5 (by decide)) p5_
    obtain ⟨p2_,_⟩:=(hcl.get 3 (by decide)) p3_
    obtain ⟨p1_,_⟩:=(hcl.get 2 (by decide)) p2_
    obtain ⟨p0_,_⟩:=(hcl.get 1 (by decide)) p1_
    have q12_:=nz hcl 12 12 hD
    have q13_:=nz hcl 13 0 q12_
    simp only [hD,p0_,p1_,p2_,p3_,p4_,p5_,p6_,p7_,p8_,p9_,p10_,q12_,q13_,cq,oT] at ht hs
    subst ht
    refine Qaa (v:=int .i64 (i64w (((x19.set x21 (i64w ((x19.get x21 0)+(a3.get x21 0)))).get (i64w (x21+1)) 0)+(i64w ((a2.get x21 0) - (a3.get x21 0)))))) rfl rfl rfl (g_d rfl ?_)
    try dsimp only [Qai,Qaj]
    refine hk _ _ ⟨O,?_,hs.cast ?_⟩<;>simp only [oT,lq,cq,Nat.reduceBEq,p0_,p1_,p2_,p3_,p4_,p5_,p6_,p7_,p8_,p9_,p10_,q12_,q13_]
   ·
    rintro D t w hD hp hcl ⟨O,ht,hs⟩ rest hk
    obtain ⟨p1_,p0_,_,p2_,p3_,p4_,p5_,p6_,p7_,p8_,p9_,p10_,p11_,_⟩:=hp
    have q13_:=nz hcl 13 0 hD
    simp only [hD,p0_,p1_,p2_,p3_,p4_,p5_,p6_,p7_,p8_,p9_,p10_,p11_,q13_,cq,oT] at ht hs
    subst ht
    refine Qba (n:=i64w (x21+1)) (m:=1) rfl (fun _=>rfl) gd25.1 gd25.2 rfl rfl rfl rfl rfl (g_d rfl ?_)
    try dsimp only [Qai,Qaj]
    refine hk _ _ ⟨O,?_,hs.cast ?_⟩<;>simp only [oT,lq,cq,Nat.reduceBEq,p0_,p1_,p2_,p3_,p4_,p5_,p6_,p7_,p8_,p9_,p10_,p11_,q13_]
   ·
    rintro D t w hD hp hcl ⟨O,ht,hs⟩ rest hk
    obtain ⟨p12_,p11_,p0_,p1_,p2_,p3_,p4_,p5_,p6_,p7_,p8_,p9_,p10_,_,_⟩:=hp
    simp only [hD,p0_,p1_,p2_,p3_,p4_,p5_,p6_,p7_,p8_,p9_,p10_,p11_,p12_,cq,oT] at ht hs
    subst ht
    have hs:St _ [_,_,_,_,_,_] _:=hs.pull 4 rfl
    refine QbN (y:=i64w (((x19.set x21 (i64w ((x19.get x21 0)+(a3.get x21 0)))).get (i64w (x21+1)) 0)+(i64w ((a2.get x21 0) - (a3.get x21 0))))) (fkI .i64).len (fkI .i64).one gd25.1 gd25.2 hs rfl rfl rfl rfl rfl (fun _=>rfl) ?_
    intro w hs
    refine g_n rfl ?_
    try dsimp only [Qai,Qaj]
    have hs:=hs.push 4 (by simp)
    refine hk _ _ ⟨O,?_,hs.cast ?_⟩<;>simp only [oT,lq,cq,Nat.reduceBEq,p0_,p1_,p2_,p3_,p4_,p5_,p6_,p7_,p8_,p9_,p10_,p11_,p12_]
   intro D t w hall hI
   obtain ⟨O,ht,hs⟩:=hI
   have p0_:=hall 0 (by decide)
   have p1_:=hall 1 (by decide)
   have p2_:=hall 2 (by decide)
   have p3_:=hall 3 (by decide)
   have p4_:=hall 4 (by decide)
   have p5_:=hall 5 (by decide)
   have p6_:=hall 6 (by decide)
   have p7_:=hall 7 (by decide)
   have p8_:=hall 8 (by decide)
   have p9_:=hall 9 (by decide)
   have p10_:=hall 10 (by decide)
   have p11_:=hall 11 (by decide)
   have p12_:=hall 12 (by decide)
   have p13_:=hall 13 (by decide)
   simp only [p0_,p1_,p2_,p3_,p4_,p5_,p6_,p7_,p8_,p9_,p10_,p11_,p12_,p13_,cq,oT] at ht hs
   subst ht
   obtain ⟨gd26,H⟩:=ite_get H
   obtain ⟨gd27,H⟩:=ite_get H
   obtain ⟨gd28,H⟩:=ite_get H
   refine Qbu ?_
   intro T hT
   refine Qcl (n:=10) rfl [0,1,2,3,4,5,6,7,8,9] [0,1,2,3,4,5,6,7,8,9] rfl rfl (Inv:=fun D t w=>∃ O:Nat→Value,t=(int .i64 a1::O 1::O 2::O 3::pointer (some ⟨b4,0,none⟩)::pointer (some ⟨b6,0,none⟩)::pointer (some ⟨b8,0,none⟩)::pointer (some ⟨b10,0,none⟩)::pointer (some ⟨b12,0,none⟩)::pointer (some ⟨b14,0,none⟩)::int .i64 x21::O 11::O 12::int .i64 x21::int .i64 a1::bool true::O 16::O 17::int .i64 x21::pointer (some ⟨b12,0+x21.toNat*1,none⟩)::int .i64 (x19.get x21 0)::int .i64 x21::pointer (some ⟨b6,0+x21.toNat*1,none⟩)::int .i64 (a3.get x21 0)::int .i64 (i64w ((x19.get x21 0)+(a3.get x21 0)))::pointer (some ⟨b12,0+x21.toNat*1,none⟩)::int .i64 x21::pointer (some ⟨b14,0+x21.toNat*1,none⟩)::int .i64 (x20.get x21 0)::int .i64 x21::pointer (some ⟨b4,0+x21.toNat*1,none⟩)::int .i64 (a2.get x21 0)::int .i64 x21::pointer (some ⟨b6,0+x21.toNat*1,none⟩)::int .i64 (a3.get x21 0)::int .i64 (i64w ((a2.get x21 0) - (a3.get x21 0)))::int .i64 (i64w ((x20.get x21 0)+(i64w ((a2.get x21 0) - (a3.get x21 0)))))::pointer (some ⟨b14,0+x21.toNat*1,none⟩)::int .i64 x21::int .i64 a1::bool true::int .i64 x21::int .i64 (i64w (x21+1))::pointer (some ⟨b12,0+(i64w (x21+1)).toNat*1,none⟩)::int .i64 ((x19.set x21 (i64w ((x19.get x21 0)+(a3.get x21 0)))).get (i64w (x21+1)) 0)::int .i64 x21::pointer (some ⟨b4,0+x21.toNat*1,none⟩)::int .i64 (a2.get x21 0)::int .i64 x21::pointer (some ⟨b6,0+x21.toNat*1,none⟩)::int .i64 (a3.get x21 0)::int .i64 (i64w ((a2.get x21 0) - (a3.get x21 0)))::int .i64 (i64w (((x19.set x21 (i64w ((x19.get x21 0)+(a3.get x21 0)))).get (i64w (x21+1)) 0)+(i64w ((a2.get x21 0) - (a3.get x21 0)))))::pointer (some ⟨b12,0+(i64w (x21+1)).toNat*1,none⟩)::cnd (D 0) (int .i64 x21) (O 54)::cnd (D 1) (int .i64 (i64w (x21+1))) (O 55)::cnd (D 2) (pointer (some ⟨b14,0+(i64w (x21+1)).toNat*1,none⟩)) (O 56)::cnd (D 3) (int .i64 ((x20.set x21 (i64w ((x20.get x21 0)+(i64w ((a2.get x21 0) - (a3.get x21 0)))))).get (i64w (x21+1)) 0)) (O 57)::cnd (D 4) (int .i64 x21) (O 58)::cnd (D 5) (pointer (some ⟨b6,0+x21.toNat*1,none⟩)) (O 59)::cnd (D 6) (int .i64 (a3.get x21 0)) (O 60)::cnd (D 7) (int .i64 (i64w (((x20.set x21 (i64w ((x20.get x21 0)+(i64w ((a2.get x21 0) - (a3.get x21 0)))))).get (i64w (x21+1)) 0)+(a3.get x21 0)))) (O 61)::cnd (D 8) (pointer (some ⟨b14,0+(i64w (x21+1)).toNat*1,none⟩)) (O 62)::O 63::O 64::[])∧St w0 [Cells b4 ((encA (encI .i64)) a2) 47,Cells b6 ((encA (encI .i64)) a3) 47,Cells b8 ((encA (encI .i64)) (Ar.rep 4 0)) 47,Cells b10 ((encA (encI .i64)) (Ar.rep 4 0)) 47,Cells b12 ((encA (encI .i64)) ((x19.set x21 (i64w ((x19.get x21 0)+(a3.get x21 0)))).set (i64w (x21+1)) (i64w (((x19.set x21 (i64w ((x19.get x21 0)+(a3.get x21 0)))).get (i64w (x21+1)) 0)+(i64w ((a2.get x21 0) - (a3.get x21 0))))))) 47,Cells b14 (cnd (D 9) ((encA (encI .i64)) ((x20.set x21 (i64w ((x20.get x21 0)+(i64w ((a2.get x21 0) - (a3.get x21 0)))))).set (i64w (x21+1)) (i64w (((x20.set x21 (i64w ((x20.get x21 0)+(i64w ((a2.get x21 0) - (a3.get x21 0)))))).get (i64w (x21+1)) 0)+(a3.get x21 0))))) ((encA (encI .i64)) (x20.set x21 (i64w ((x20.get x21 0)+(i64w ((a2.get x21 0) - (a3.get x21 0)))))))) 47] w) ?_ ⟨⟨⟨⟨⟨⟨⟨⟨⟨⟨trivial,?_⟩,?_⟩,?_⟩,?_⟩,?_⟩,?_⟩,?_⟩,?_⟩,?_⟩,?_⟩ ?_
   ·
    intro w hh hbw
    have hs:=hs.samew hh hbw
    exact ⟨fun i=>T.getD i undef,(by subst hT;rfl),hs⟩
   ·
    rintro D t w hD hp hcl ⟨O,ht,hs⟩ rest hk
    have q1_:=nz hcl 1 0 hD
    have q2_:=nz hcl 2 0 q1_
    have q3_:=nz hcl 3 0 q2_
    have q7_:=nz hcl 7 0 q3_
    have q8_:=nz hcl 8 0 q1_
    have q9_:=nz hcl 9 0 q8_
    simp only [hD,q1_,q2_,q3_,q7_,q8_,q9_,cq,oT] at ht hs
    subst ht
    refine Qaa (v:=int .i64 x21) rfl rfl rfl (g_d rfl ?_)
    try dsimp only [Qai,Qaj]
    refine hk _ _ ⟨O,?_,hs.cast ?_⟩<;>simp only [oT,lq,cq,Nat.reduceBEq,q1_,q2_,q3_,q7_,q8_,q9_]
   ·
    rintro D t w hD hp hcl ⟨O,ht,hs⟩ rest hk
    obtain ⟨p0_,_⟩:=hp
    have q2_:=nz hcl 2 0 hD
    have q3_:=nz hcl 3 0 q2_
    have q7_:=nz hcl 7 0 q3_
    have q8_:=nz hcl 8 0 hD
    have q9_:=nz hcl 9 0 q8_
    simp only [hD,p0_,q2_,q3_,q7_,q8_,q9_,cq,oT] at ht hs
    subst ht
    refine Qaa (v:=int .i64 (i64w (x21+1))) rfl rfl rfl (g_d rfl ?_)
    try dsimp only [Qai,Qaj]
    refine hk _ _ ⟨O,?_,hs.cast ?_⟩<;>simp only [oT,lq,cq,Nat.reduceBEq,p0_,q2_,q3_,q7_,q8_,q9_]
   ·
    rintro D t w hD hp hcl ⟨O,ht,hs⟩ rest hk
    obtain ⟨p1_,_⟩:=hp
    obtain ⟨p0_,_⟩:=(hcl.get 1 (by decide)) p1_
    have q3_:=nz hcl 3 0 hD
    have q7_:=nz hcl 7 0 q3_
    have q8_:=nz hcl 8 3 hD
    have q9_:=nz hcl 9 0 q8_
    simp only [hD,p0_,p1_,q3_,q7_,q8_,q9_,cq,oT] at ht hs
    subst ht
    refine Qba (n:=i64w (x21+1)) (m:=1) rfl (fun _=>rfl) gd26.1 gd26.2 rfl rfl rfl rfl rfl (g_d rfl ?_)
    try dsimp only [Qai,Qaj]
    refine hk _ _ ⟨O,?_,hs.cast ?_⟩<;>simp only [oT,lq,cq,Nat.reduceBEq,p0_,p1_,q3_,q7_,q8_,q9_]
   ·
    rintro D t w hD hp hcl ⟨O,ht,hs⟩ rest hk
    obtain ⟨p2_,_⟩:=hp
    obtain ⟨p1_,_⟩:=(hcl.get 2 (by decide)) p2_
    obtain ⟨p0_,_⟩:=(hcl.get 1 (by decide)) p1_
    have q7_:=nz hcl 7 0 hD
    have q8_:=nz hcl 8 4 hD
    have q9_:=nz hcl 9 0 q8_
    simp only [hD,p0_,p1_,p2_,q7_,q8_,q9_,cq,oT] at ht hs
    subst ht
    refine Qaw rfl rfl (v:=int .i64 ((x20.set x21 (i64w ((x20.get x21 0)+(i64w ((a2.get x21 0) - (a3.get x21 0)))))).get (i64w (x21+1)) 0)) rfl rfl (fun _=>rfl) (by rw [Nat.zero_add];exact cells_load (hs.cells 5 rfl) _ _ (encA_at (fkI .i64).len _ _ 0 gd26.1 gd26.2)) (g_d rfl ?_)
    try dsimp only [Qai,Qaj]
    refine hk _ _ ⟨O,?_,hs.cast ?_⟩<;>simp only [oT,lq,cq,Nat.reduceBEq,p0_,p1_,p2_,q7_,q8_,q9_]
   ·
    rintro D t w hD hp hcl ⟨O,ht,hs⟩ rest hk
    have q5_:=nz hcl 5 0 hD
    have q6_:=nz hcl 6 0 q5_
    have q7_:=nz hcl 7 1 q6_
    have q8_:=nz hcl 8 5 hD
    have q9_:=nz hcl 9 0 q8_
    simp only [hD,q5_,q6_,q7_,q8_,q9_,cq,oT] at ht hs
    subst ht
    refine Qaa (v:=int .i64 x21) rfl rfl rfl (g_d rfl ?_)
    try dsimp only [Qai,Qaj]
    refine hk _ _ ⟨O,?_,hs.cast ?_⟩<;>simp only [oT,lq,cq,Nat.reduceBEq,q5_,q6_,q7_,q8_,q9_]
   ·
    rintro D t w hD hp hcl ⟨O,ht,hs⟩ rest hk
    obtain ⟨p4_,_⟩:=hp
    have q6_:=nz hcl 6 0 hD
    have q7_:=nz hcl 7 1 q6_
    have q8_:=nz hcl 8 6 hD
    have q9_:=nz hcl 9 0 q8_
    simp only [hD,p4_,q6_,q7_,q8_,q9_,cq,oT] at ht hs
    subst ht
    refine Qba (n:=x21) (m:=1) rfl (fun _=>rfl) gd27.1 gd27.2 rfl rfl rfl rfl rfl (g_d rfl ?_)
    try dsimp only [Qai,Qaj]
    refine hk _ _ ⟨O,?_,hs.cast ?_⟩<;>simp only [oT,lq,cq,Nat.reduceBEq,p4_,q6_,q7_,q8_,q9_]
   ·
    rintro D t w hD hp hcl ⟨O,ht,hs⟩ rest hk
    obtain ⟨p5_,_⟩:=hp
    obtain ⟨p4_,_⟩:=(hcl.get 5 (by decide)) p5_
    have q7_:=nz hcl 7 1 hD
    have q8_:=nz hcl 8 7 hD
    have q9_:=nz hcl 9 0 q8_
    simp only [hD,p4_,p5_,q7_,q8_,q9_,cq,oT] at ht hs
    subst ht
    refine Qaw rfl rfl (v:=int .i64 (a3.get x21 0)) rfl rfl (fun _=>rfl) (by rw [Nat.zero_add];exact cells_load (hs.cells 1 rfl) _ _ (encA_at (fkI .i64).len _ _ 0 gd27.1 gd27.2)) (g_d rfl ?_)
    try dsimp only [Qai,Qaj]
    refine hk _ _ ⟨O,?_,hs.cast ?_⟩<;>simp only [oT,lq,cq,Nat.reduceBEq,p4_,p5_,q7_,q8_,q9_]
   ·
    rintro D t w hD hp hcl ⟨O,ht,hs⟩ rest hk
    obtain ⟨p3_,p6_,_⟩:=hp
    obtain ⟨p5_,_⟩:=(hcl.get 6 (by decide)) p6_
    obtain ⟨p4_,_⟩:=(hcl.get 5 (by decide)) p5_
    obtain ⟨p2_,_⟩:=(hcl.get 3 (by decide)) p3_
    obtain ⟨p1_,_⟩:=(hcl.get 2 (by decide)) p2_
    obtain ⟨p0_,_⟩:=(hcl.get 1 (by decide)) p1_
    have q8_:=nz hcl 8 8 hD
    have q9_:=nz hcl 9 0 q8_
    simp only [hD,p0_,p1_,p2_,p3_,p4_,p5_,p6_,q8_,q9_,cq,oT] at ht hs
    subst ht
    refine Qaa (v:=int .i64 (i64w (((x20.set x21 (i64w ((x20.get x21 0)+(i64w ((a2.get x21 0) - (a3.get x21 0)))))).get (i64w (x21+1)) 0)+(a3.get x21 0)))) rfl rfl rfl (g_d rfl ?_)
    try dsimp only [Qai,Qaj]
    refine hk _ _ ⟨O,?_,hs.cast ?_⟩<;>simp only [oT,lq,cq,Nat.reduceBEq,p0_,p1_,p2_,p3_,p4_,p5_,p6_,q8_,q9_]
   ·
    rintro D t w hD hp hcl ⟨O,ht,hs⟩ rest hk
    obtain ⟨p1_,p0_,_,p2_,p3_,p4_,p5_,p6_,p7_,_⟩:=hp
    have q9_:=nz hcl 9 0 hD
    simp only [hD,p0_,p1_,p2_,p3_,p4_,p5_,p6_,p7_,q9_,cq,oT] at ht hs
    subst ht
    refine Qba (n:=i64w (x21+1)) (m:=1) rfl (fun _=>rfl) gd28.1 gd28.2 rfl rfl rfl rfl rfl (g_d rfl ?_)
    try dsimp only [Qai,Qaj]
    refine hk _ _ ⟨O,?_,hs.cast ?_⟩<;>simp only [oT,lq,cq,Nat.reduceBEq,p0_,p1_,p2_,p3_,p4_,p5_,p6_,p7_,q9_]
   ·
    rintro D t w hD hp hcl ⟨O,ht,hs⟩ rest hk
    obtain ⟨p8_,p7_,p0_,p1_,p2_,p3_,p4_,p5_,p6_,_,_⟩:=hp
    simp only [hD,p0_,p1_,p2_,p3_,p4_,p5_,p6_,p7_,p8_,cq,oT] at ht hs
    subst ht
    have hs:St _ [_,_,_,_,_,_] _:=hs.pull 5 rfl
    refine QbN (y:=i64w (((x20.set x21 (i64w ((x20.get x21 0)+(i64w ((a2.get x21 0) - (a3.get x21 0)))))).get (i64w (x21+1)) 0)+(a3.get x21 0))) (fkI .i64).len (fkI .i64).one gd28.1 gd28.2 hs rfl rfl rfl rfl rfl (fun _=>rfl) ?_
    intro w hs
    refine g_n rfl ?_
    try dsimp only [Qai,Qaj]
    have hs:=hs.push 5 (by simp)
    refine hk _ _ ⟨O,?_,hs.cast ?_⟩<;>simp only [oT,lq,cq,Nat.reduceBEq,p0_,p1_,p2_,p3_,p4_,p5_,p6_,p7_,p8_]
   intro D t w hall hI
   obtain ⟨O,ht,hs⟩:=hI
   have p0_:=hall 0 (by decide)
   have p1_:=hall 1 (by decide)
   have p2_:=hall 2 (by decide)
   have p3_:=hall 3 (by decide)
   have p4_:=hall 4 (by decide)
   have p5_:=hall 5 (by decide)
   have p6_:=hall 6 (by decide)
   have p7_:=hall 7 (by decide)
   have p8_:=hall 8 (by decide)
   have p9_:=hall 9 (by decide)
   simp only [p0_,p1_,p2_,p3_,p4_,p5_,p6_,p7_,p8_,p9_,cq,oT] at ht hs
   subst ht
   refine QaH ?_
   have hs:=hs.pull 5 rfl
   have hs:=hs.pull 5 rfl
   have hs:=hs.pull 5 rfl
   have hs:=hs.pull 5 rfl
   have hs:=hs.pull 5 rfl
   have hs:=hs.pull 5 rfl
   have hs:St _ [_,_,_,_,_,_] _:=St.take (Γ':=[]) hs
   exact ha _ _ ⟨(x19.set x21 (i64w ((x19.get x21 0)+(a3.get x21 0)))).set (i64w (x21+1)) (i64w (((x19.set x21 (i64w ((x19.get x21 0)+(a3.get x21 0)))).get (i64w (x21+1)) 0)+(i64w ((a2.get x21 0) - (a3.get x21 0))))),(x20.set x21 (i64w ((x20.get x21 0)+(i64w ((a2.get x21 0) - (a3.get x21 0)))))).set (i64w (x21+1)) (i64w (((x20.set x21 (i64w ((x20.get x21 0)+(i64w ((a2.get x21 0) - (a3.get x21 0)))))).get (i64w (x21+1)) 0)+(a3.get x21 0))),H,rfl,hs⟩
  intro hb
  rw [if_neg (b_dec_f hb)] at H
  refine g_d rfl (Qab (Qap rfl (QaE ?_)))
  refine QaH ?_
  have hs:=hs.pull 5 rfl
  have hs:=hs.pull 5 rfl
  have hs:=hs.pull 5 rfl
  have hs:=hs.pull 5 rfl
  have hs:=hs.pull 5 rfl
  have hs:=hs.pull 5 rfl
  have hs:St _ [_,_,_,_,_,_] _:=St.take (Γ':=[]) hs
  exact ha _ _ ⟨x19.set x21 (i64w ((x19.get x21 0)+(a3.get x21 0))),x20.set x21 (i64w ((x20.get x21 0)+(i64w ((a2.get x21 0) - (a3.get x21 0))))),H,rfl,hs⟩
 intro hb
 rw [if_neg (b_dec_f hb)] at H
 refine g_d rfl (Qab (Qap rfl ?_))
 obtain rfl:=QsJ H
 subst Hx1_
 have hs:=hs.pull 5 rfl
 have hs:=hs.pull 5 rfl
 have hs:=hs.pull 5 rfl
 have hs:=hs.pull 5 rfl
 have hs:St _ [_,_,_,_] _:=St.take (Γ':=[_,_]) hs
 refine Qbq rfl ?_
 exact ha1_ _ _ ⟨x19,x20,Hr1_,rfl,hs⟩
def QbY.post (w0:World) (r:((Ar Int 4)×(Ar Int 4)×Int)) (v:Value) (w:World):Prop:=v=tuple #[agg ((encA (encI .i64)) r.1).toArray,agg ((encA (encI .i64)) r.2.1).toArray,int .i64 r.2.2]∧St w0 [] w
theorem QbY.calls {N:Nat} {a1:Int} {a2:(Ar Int 4)} {a3:(Ar Int 4)} {w0:World} {r:((Ar Int 4)×(Ar Int 4)×Int)} (H:QbY.f N a1 a2 a3=some r):
 Calls Tryz.prog 31 #[int .i64 a1,agg ((encA (encI .i64)) a2).toArray,agg ((encA (encI .i64)) a3).toArray] w0 fun e w=>∃ v,e= .returned v∧QbY.post w0 r v w:=by
 unfold QbY.f at H
 have hs:St w0 [] w0:=St.refl w0
 refine calls_of_g (n:=29) Tryz.func31 rfl rfl ?_
 show G _ _ _ _ [_,_,_,_,_,_,_,_,_,_,_,_,_,_,_,_,_,_,_,_,_,_,_,_,_,_,_,_,_,_,_,_] _
 refine Qaf (Qak [0,1,2,3,4] rfl ?_)
 refine Qbx hs rfl rfl (cs:=((encA (encI .i64)) a2)) rfl rfl ?_
 intro b4 w hs
 show G _ _ _ _ [_,_,_,_,_,_,_,_,_,_,_,_,_,_,_,_,_,_,_,_,_,_,_,_,_,_,_,_,_,_,_,_] _
 refine Qbx hs rfl rfl (cs:=((encA (encI .i64)) a3)) rfl rfl ?_
 intro b6 w hs
 refine Qa5 hs rfl rfl (z:=(agg #[int .i64 0,int .i64 0,int .i64 0,int .i64 0])) (cs:=((encA (encI .i64)) (Ar.rep 4 0))) rfl (fun _=>rfl) rfl ?_
 intro b8 w hs
 refine Qa5 hs rfl rfl (z:=(agg #[int .i64 0,int .i64 0,int .i64 0,int .i64 0])) (cs:=((encA (encI .i64)) (Ar.rep 4 0))) rfl (fun _=>rfl) rfl ?_
 intro b10 w hs
 show G _ _ _ _ [_,_,_,_,_,_,_,_,_,_,_,_,_,_,_,_,_,_,_,_,_,_,_,_,_,_,_,_,_,_,_,_] _
 refine Qaa (v:=int .i64 0) rfl rfl rfl (Qab (Qaf (Qaf (Qak [0,1,2,3] rfl ?_))))
 refine Qaa (v:=int .i64 a1) rfl rfl rfl ?_
 refine QaG rfl rfl (es:=((encA (encI .i64)) a2)) rfl rfl (fun _=>rfl) (n:=4) (fun _=>rfl) ((fkA (n:=4) (he:=(fkI .i64).len) (h1:=(fkI .i64).one)).len _) (cells_all (hs.cells 3 rfl)) ?_
 obtain ⟨r12,Hr12,H⟩:=bind_get H
 refine Qas (args:=[int .i64 a1,agg ((encA (encI .i64)) a2).toArray]) rfl rfl (Qat rfl (callFunc_enter Tryz.func62 rfl rfl) rfl) (QaV.calls (a1:=a1) (a2:=a2) Hr12) ?_
 rintro _ w ⟨rfl,hs2⟩
 have hs:St _ [_,_,_,_] _:=hs.call hs2
 cases r12 with
 |true=>
  rw [if_pos rfl] at H
  refine Qaa (v:=bool false) rfl rfl rfl ?_
  show G _ _ _ _ [_,_,_,_,_,_,_,_,_,_,_,_,_,_,_,_,_,_,_,_,_,_,_,_,_,_,_,_,_,_,_,_] _
  refine Qab (Qap rfl (QaE (Qaf (Qaf (Qak [0,1,2,3] rfl ?_)))))
  refine QaG rfl rfl (es:=((encA (encI .i64)) a3)) rfl rfl (fun _=>rfl) (n:=4) (fun _=>rfl) ((fkA (n:=4) (he:=(fkI .i64).len) (h1:=(fkI .i64).one)).len _) (cells_all (hs.cells 2 rfl)) ?_
  refine QaG rfl rfl (es:=((encA (encI .i64)) a2)) rfl rfl (fun _=>rfl) (n:=4) (fun _=>rfl) ((fkA (n:=4) (he:=(fkI .i64).len) (h1:=(fkI .i64).one)).len _) (cells_all (hs.cells 3 rfl)) ?_
  obtain ⟨r13,Hr13,H⟩:=bind_get H
  refine Qas (args:=[agg ((encA (encI .i64)) a3).toArray,agg ((encA (encI .i64)) a2).toArray]) rfl rfl (Qat rfl (callFunc_enter Tryz.func69 rfl rfl) rfl) (Qbc.calls (a1:=a3) (a2:=a2) Hr13) ?_
  rintro _ w ⟨rfl,hs2⟩
  have hs:St _ [_,_,_,_] _:=hs.call hs2
  cases r13 with
  |true=>
   rw [if_pos rfl] at H
   refine Qaa (v:=bool false) rfl rfl rfl ?_
   show G _ _ _ _ [_,_,_,_,_,_,_,_,_,_,_,_,_,_,_,_,_,_,_,_,_,_,_,_,_,_,_,_,_,_,_,_] _
   refine Qab (Qap rfl (QaE (Qaf (Qak [0,1,2,3,4,5,6,7,8,9,10] rfl ?_))))
   refine Qaa (v:=int .i64 a1) rfl rfl rfl ?_
   refine QaG rfl rfl (es:=((encA (encI .i64)) a2)) rfl rfl (fun _=>rfl) (n:=4) (fun _=>rfl) ((fkA (n:=4) (he:=(fkI .i64).len) (h1:=(fkI .i64).one)).len _) (cells_all (hs.cells 3 rfl)) ?_
   refine QaG rfl rfl (es:=((encA (encI .i64)) a3)) rfl rfl (fun _=>rfl) (n:=4) (fun _=>rfl) ((fkA (n:=4) (he:=(fkI .i64).len) (h1:=(fkI .i64).one)).len _) (cells_all (hs.cells 2 rfl)) ?_
   obtain ⟨r14,Hr14,H⟩:=bind_get H
   refine Qas (args:=[int .i64 a1,agg ((encA (encI .i64)) a2).toArray,agg ((encA (encI .i64)) a3).toArray]) rfl rfl (Qat rfl (callFunc_enter Tryz.func70 rfl rfl) rfl) (Qa9.calls (a1:=a1) (a2:=a2) (a3:=a3) Hr14) ?_
   rintro _ w ⟨rfl,hs2⟩
   have hs:St _ [_,_,_,_] _:=hs.call hs2
   show G _ _ _ _ [_,_,_,_,_,_,_,_,_,_,_,_,_,_,_,_,_,_,_,_,_,_,_,_,_,_,_,_,_,_,_,_] _
   refine Qaa (v:=tuple #[agg ((encA (encI .i64)) r14.1).toArray,agg ((encA (encI .i64)) r14.2).toArray]) rfl rfl rfl ?_
   refine Qaa (v:=agg ((encA (encI .i64)) r14.1).toArray) rfl rfl rfl ?_
   refine Qaa (v:=agg ((encA (encI .i64)) r14.2).toArray) rfl rfl rfl ?_
   refine Qa5 hs rfl rfl (z:=(agg #[int .i64 0,int .i64 0,int .i64 0,int .i64 0])) (cs:=((encA (encI .i64)) (Ar.rep 4 0))) rfl (fun _=>rfl) rfl ?_
   intro b15 w hs
   refine Qa5 hs rfl rfl (z:=(agg #[int .i64 0,int .i64 0,int .i64 0,int .i64 0])) (cs:=((encA (encI .i64)) (Ar.rep 4 0))) rfl (fun _=>rfl) rfl ?_
   intro b17 w hs
   have hs:St _ [_,_,_,_,_,_] _:=hs.pull 1 rfl
   refine QaB (n:=4) hs ((fkA (n:=4) (he:=(fkI .i64).len) (h1:=(fkI .i64).one)).len _) rfl rfl (vs:=((encA (encI .i64)) r14.1)) rfl rfl rfl (fun _=>rfl) ((fkA (n:=4) (he:=(fkI .i64).len) (h1:=(fkI .i64).one)).len _) ((fkA (n:=4) (he:=(fkI .i64).len) (h1:=(fkI .i64).one)).one _) ?_
   intro w hs
   have hs:St _ [_,_,_,_,_,_] _:=hs.pull 1 rfl
   refine QaB (n:=4) hs ((fkA (n:=4) (he:=(fkI .i64).len) (h1:=(fkI .i64).one)).len _) rfl rfl (vs:=((encA (encI .i64)) r14.2)) rfl rfl rfl (fun _=>rfl) ((fkA (n:=4) (he:=(fkI .i64).len) (h1:=(fkI .i64).one)).len _) ((fkA (n:=4) (he:=(fkI .i64).len) (h1:=(fkI .i64).one)).one _) ?_
   intro w hs
   refine Qab (Qaf ?_)
   refine Qbu ?_
   intro T hT
   refine Qcl (n:=5) rfl [0,1,2,3,4] [0,2,1,3,4] rfl rfl (Inv:=fun D t w=>∃ O:Nat→Value,t=[int .i64 a1,agg ((encA (encI .i64)) a2).toArray,agg ((encA (encI .i64)) a3).toArray,O 3,pointer (some ⟨b4,0,none⟩),pointer (some ⟨b6,0,none⟩),pointer (some ⟨b8,0,none⟩),pointer (some ⟨b10,0,none⟩),cnd (D 4) (int .i64 0) (int .i64 0),pointer (some ⟨b15,0,none⟩),pointer (some ⟨b17,0,none⟩),int .i64 a1,agg ((encA (encI .i64)) a2).toArray,bool true,bool false,O 15,O 16,agg ((encA (encI .i64)) a3).toArray,agg ((encA (encI .i64)) a2).toArray,bool true,bool false,O 21,O 22,tuple #[agg ((encA (encI .i64)) r14.1).toArray,agg ((encA (encI .i64)) r14.2).toArray],int .i64 a1,agg ((encA (encI .i64)) a2).toArray,agg ((encA (encI .i64)) a3).toArray,tuple #[agg ((encA (encI .i64)) r14.1).toArray,agg ((encA (encI .i64)) r14.2).toArray],agg ((encA (encI .i64)) r14.1).toArray,agg ((encA (encI .i64)) r14.2).toArray,cnd (D 0) (agg ((encA (encI .i64)) r14.1).toArray) (O 30),cnd (D 1) (agg ((encA (encI .i64)) r14.2).toArray) (O 31)]∧St w0 [Cells b17 ((encA (encI .i64)) r14.2) 47,Cells b15 ((encA (encI .i64)) r14.1) 47,Cells b10 (cnd (D 3) ((encA (encI .i64)) r14.2) ((encA (encI .i64)) (Ar.rep 4 0))) 47,Cells b8 (cnd (D 2) ((encA (encI .i64)) r14.1) ((encA (encI .i64)) (Ar.rep 4 0))) 47,Cells b6 ((encA (encI .i64)) a3) 47,Cells b4 ((encA (encI .i64)) a2) 47] w) ?_ ⟨⟨⟨⟨⟨trivial,?_⟩,?_⟩,?_⟩,?_⟩,?_⟩ ?_
   ·
    intro w hh hbw
    have hs:=hs.samew hh hbw
    exact ⟨fun i=>T.getD i undef,(by subst hT;rfl),hs⟩
   ·
    rintro D t w hD hp hcl ⟨O,ht,hs⟩ rest hk
    have q2_:=nz hcl 2 0 hD
    have q3_:=nz hcl 3 1 q2_
    have q4_:=nz hcl 4 0 q3_
    simp only [hD,q2_,q3_,q4_,cq,oT] at ht hs
    subst ht
    refine QaG rfl rfl (es:=((encA (encI .i64)) r14.1)) rfl rfl (fun _=>rfl) (n:=4) (fun _=>rfl) ((fkA (n:=4) (he:=(fkI .i64).len) (h1:=(fkI .i64).one)).len _) (cells_all (hs.cells 1 rfl)) ?_
    show G _ _ _ _ [_,_,_,_,_,_,_,_,_,_,_,_,_,_,_,_,_,_,_,_,_,_,_,_,_,_,_,_,_,_,_,_] _
    refine hk _ _ ⟨O,?_,hs.cast ?_⟩<;>simp only [oT,lq,cq,Nat.reduceBEq,q2_,q3_,q4_]
   ·
    rintro D t w hD hp hcl ⟨O,ht,hs⟩ rest hk
    have q3_:=nz hcl 3 0 hD
    have q4_:=nz hcl 4 0 q3_
    simp only [hD,q3_,q4_,cq,oT] at ht hs
    subst ht
    refine QaG rfl rfl (es:=((encA (encI .i64)) r14.2)) rfl rfl (fun _=>rfl) (n:=4) (fun _=>rfl) ((fkA (n:=4) (he:=(fkI .i64).len) (h1:=(fkI .i64).one)).len _) (cells_all (hs.cells 0 rfl)) ?_
    show G _ _ _ _ [_,_,_,_,_,_,_,_,_,_,_,_,_,_,_,_,_,_,_,_,_,_,_,_,_,_,_,_,_,_,_,_] _
    refine hk _ _ ⟨O,?_,hs.cast ?_⟩<;>simp only [oT,lq,cq,Nat.reduceBEq,q3_,q4_]
   ·
    rintro D t w hD hp hcl ⟨O,ht,hs⟩ rest hk
    obtain ⟨p0_,_,_⟩:=hp
    have q3_:=nz hcl 3 1 hD
    have q4_:=nz hcl 4 0 q3_
    simp only [hD,p0_,q3_,q4_,cq,oT] at ht hs
    subst ht
    have hs:St _ [_,_,_,_,_,_] _:=hs.pull 3 rfl
    refine QaB (n:=4) hs ((fkA (n:=4) (he:=(fkI .i64).len) (h1:=(fkI .i64).one)).len _) rfl rfl (vs:=((encA (encI .i64)) r14.1)) rfl rfl rfl (fun _=>rfl) ((fkA (n:=4) (he:=(fkI .i64).len) (h1:=(fkI .i64).one)).len _) ((fkA (n:=4) (he:=(fkI .i64).len) (h1:=(fkI .i64).one)).one _) ?_
    intro w hs
    show G _ _ _ _ [_,_,_,_,_,_,_,_,_,_,_,_,_,_,_,_,_,_,_,_,_,_,_,_,_,_,_,_,_,_,_,_] _
    have hs:=hs.push 3 (by simp)
    refine hk _ _ ⟨O,?_,hs.cast ?_⟩<;>simp only [oT,lq,cq,Nat.reduceBEq,p0_,q3_,q4_]
   ·
    rintro D t w hD hp hcl ⟨O,ht,hs⟩ rest hk
    obtain ⟨p1_,p2_,p0_,_,_,_⟩:=hp
    have q4_:=nz hcl 4 0 hD
    simp only [hD,p0_,p1_,p2_,q4_,cq,oT] at ht hs
    subst ht
    have hs:St _ [_,_,_,_,_,_] _:=hs.pull 2 rfl
    refine QaB (n:=4) hs ((fkA (n:=4) (he:=(fkI .i64).len) (h1:=(fkI .i64).one)).len _) rfl rfl (vs:=((encA (encI .i64)) r14.2)) rfl rfl rfl (fun _=>rfl) ((fkA (n:=4) (he:=(fkI .i64).len) (h1:=(fkI .i64).one)).len _) ((fkA (n:=4) (he:=(fkI .i64).len) (h1:=(fkI .i64).one)).one _) ?_
    intro w hs
    show G _ _ _ _ [_,_,_,_,_,_,_,_,_,_,_,_,_,_,_,_,_,_,_,_,_,_,_,_,_,_,_,_,_,_,_,_] _
    have hs:=hs.push 2 (by simp)
    refine hk _ _ ⟨O,?_,hs.cast ?_⟩<;>simp only [oT,lq,cq,Nat.reduceBEq,p0_,p1_,p2_,q4_]
   ·
    rintro D t w hD hp hcl ⟨O,ht,hs⟩ rest hk
    obtain ⟨p3_,p0_,p1_,p2_,_,_⟩:=hp
    simp only [hD,p0_,p1_,p2_,p3_,cq,oT] at ht hs
    subst ht
    refine Qaa (v:=int .i64 0) rfl rfl rfl ?_
    show G _ _ _ _ [_,_,_,_,_,_,_,_,_,_,_,_,_,_,_,_,_,_,_,_,_,_,_,_,_,_,_,_,_,_,_,_] _
    refine hk _ _ ⟨O,?_,hs.cast ?_⟩<;>simp only [oT,lq,cq,Nat.reduceBEq,p0_,p1_,p2_,p3_]
   intro D t w hall hI
   obtain ⟨O,ht,hs⟩:=hI
   have p0_:=hall 0 (by decide)
   have p1_:=hall 1 (by decide)
   have p2_:=hall 2 (by decide)
   have p3_:=hall 3 (by decide)
   have p4_:=hall 4 (by decide)
   simp only [p0_,p1_,p2_,p3_,p4_,cq,oT] at ht hs
   subst ht
   obtain rfl:=QsJ H
   refine Qax Tryz.func31 (v:=tuple #[agg ((encA (encI .i64)) r14.1).toArray,agg ((encA (encI .i64)) r14.2).toArray,int .i64 0]) (resN (l:=Tryz.f31.results.toList) (vs:=[agg ((encA (encI .i64)) r14.1).toArray,agg ((encA (encI .i64)) r14.2).toArray,int .i64 0]) rfl ⟨⟨_,rfl,(run_loadVar_agg (es:=((encA (encI .i64)) r14.1)) rfl (congrArg (Result.ok · _) ((fkA (n:=4) (he:=(fkI .i64).len) (h1:=(fkI .i64).one)).len _).symm) (cells_all (hs.cells 3 rfl)))⟩,⟨_,rfl,(run_loadVar_agg (es:=((encA (encI .i64)) r14.2)) rfl (congrArg (Result.ok · _) ((fkA (n:=4) (he:=(fkI .i64).len) (h1:=(fkI .i64).one)).len _).symm) (cells_all (hs.cells 2 rfl)))⟩,rfl,trivial⟩ (by simp)) ?_
   have hs:St _ [] _:=St.take (Γ':=[_,_,_,_,_,_]) hs
   exact ⟨_,rfl,rfl,hs⟩
  |false=>
   rw [if_neg Bool.false_ne_true] at H
   show G _ _ _ _ [_,_,_,_,_,_,_,_,_,_,_,_,_,_,_,_,_,_,_,_,_,_,_,_,_,_,_,_,_,_,_,_] _
   refine Qaa (v:=bool true) rfl rfl rfl (Qab (Qam rfl (Qaf (Qak [0,1,2,3,4] rfl ?_))))
   refine Qaa (v:=agg ((encA (encI .i64)) (Ar.rep 4 0)).toArray) rfl rfl (Qb7 rfl rfl) ?_
   show G _ _ _ _ [_,_,_,_,_,_,_,_,_,_,_,_,_,_,_,_,_,_,_,_,_,_,_,_,_,_,_,_,_,_,_,_] _
   refine Qaa (v:=agg ((encA (encI .i64)) (Ar.rep 4 0)).toArray) rfl rfl (Qb7 rfl rfl) ?_
   show G _ _ _ _ [_,_,_,_,_,_,_,_,_,_,_,_,_,_,_,_,_,_,_,_,_,_,_,_,_,_,_,_,_,_,_,_] _
   have hs:St _ [_,_,_,_] _:=hs.pull 1 rfl
   refine QaB (n:=4) hs ((fkA (n:=4) (he:=(fkI .i64).len) (h1:=(fkI .i64).one)).len _) rfl rfl (vs:=((encA (encI .i64)) (Ar.rep 4 0))) rfl rfl rfl (fun _=>rfl) ((fkA (n:=4) (he:=(fkI .i64).len) (h1:=(fkI .i64).one)).len _) ((fkA (n:=4) (he:=(fkI .i64).len) (h1:=(fkI .i64).one)).one _) ?_
   intro w hs
   have hs:St _ [_,_,_,_] _:=hs.pull 1 rfl
   refine QaB (n:=4) hs ((fkA (n:=4) (he:=(fkI .i64).len) (h1:=(fkI .i64).one)).len _) rfl rfl (vs:=((encA (encI .i64)) (Ar.rep 4 0))) rfl rfl rfl (fun _=>rfl) ((fkA (n:=4) (he:=(fkI .i64).len) (h1:=(fkI .i64).one)).len _) ((fkA (n:=4) (he:=(fkI .i64).len) (h1:=(fkI .i64).one)).one _) ?_
   intro w hs
   refine Qaa (v:=int .i64 2) rfl rfl rfl (Qab ?_)
   obtain rfl:=QsJ H
   refine Qax Tryz.func31 (v:=tuple #[agg ((encA (encI .i64)) (Ar.rep 4 0)).toArray,agg ((encA (encI .i64)) (Ar.rep 4 0)).toArray,int .i64 2]) (resN (l:=Tryz.f31.results.toList) (vs:=[agg ((encA (encI .i64)) (Ar.rep 4 0)).toArray,agg ((encA (encI .i64)) (Ar.rep 4 0)).toArray,int .i64 2]) rfl ⟨⟨_,rfl,(run_loadVar_agg (es:=((encA (encI .i64)) (Ar.rep 4 0))) rfl (congrArg (Result.ok · _) ((fkA (n:=4) (he:=(fkI .i64).len) (h1:=(fkI .i64).one)).len _).symm) (cells_all (hs.cells 1 rfl)))⟩,⟨_,rfl,(run_loadVar_agg (es:=((encA (encI .i64)) (Ar.rep 4 0))) rfl (congrArg (Result.ok · _) ((fkA (n:=4) (he:=(fkI .i64).len) (h1:=(fkI .i64).one)).len _).symm) (cells_all (hs.cells 0 rfl)))⟩,rfl,trivial⟩ (by simp)) ?_
   have hs:St _ [] _:=St.take (Γ':=[_,_,_,_]) hs
   exact ⟨_,rfl,rfl,hs⟩
 |false=>
  rw [if_neg Bool.false_ne_true] at H
  show G _ _ _ _ [_,_,_,_,_,_,_,_,_,_,_,_,_,_,_,_,_,_,_,_,_,_,_,_,_,_,_,_,_,_,_,_] _
  refine Qaa (v:=bool true) rfl rfl rfl (Qab (Qam rfl (Qaf (Qak [0,1,2,3,4] rfl ?_))))
  refine Qaa (v:=agg ((encA (encI .i64)) (Ar.rep 4 0)).toArray) rfl rfl (Qb7 rfl rfl) ?_
  show G _ _ _ _ [_,_,_,_,_,_,_,_,_,_,_,_,_,_,_,_,_,_,_,_,_,_,_,_,_,_,_,_,_,_,_,_] _
  refine Qaa (v:=agg ((encA (encI .i64)) (Ar.rep 4 0)).toArray) rfl rfl (Qb7 rfl rfl) ?_
  show G _ _ _ _ [_,_,_,_,_,_,_,_,_,_,_,_,_,_,_,_,_,_,_,_,_,_,_,_,_,_,_,_,_,_,_,_] _
  have hs:St _ [_,_,_,_] _:=hs.pull 1 rfl
  refine QaB (n:=4) hs ((fkA (n:=4) (he:=(fkI .i64).len) (h1:=(fkI .i64).one)).len _) rfl rfl (vs:=((encA (encI .i64)) (Ar.rep 4 0))) rfl rfl rfl (fun _=>rfl) ((fkA (n:=4) (he:=(fkI .i64).len) (h1:=(fkI .i64).one)).len _) ((fkA (n:=4) (he:=(fkI .i64).len) (h1:=(fkI .i64).one)).one _) ?_
  intro w hs
  have hs:St _ [_,_,_,_] _:=hs.pull 1 rfl
  refine QaB (n:=4) hs ((fkA (n:=4) (he:=(fkI .i64).len) (h1:=(fkI .i64).one)).len _) rfl rfl (vs:=((encA (encI .i64)) (Ar.rep 4 0))) rfl rfl rfl (fun _=>rfl) ((fkA (n:=4) (he:=(fkI .i64).len) (h1:=(fkI .i64).one)).len _) ((fkA (n:=4) (he:=(fkI .i64).len) (h1:=(fkI .i64).one)).one _) ?_
  intro w hs
  refine Qaa (v:=int .i64 1) rfl rfl rfl (Qab ?_)
  obtain rfl:=QsJ H
  refine Qax Tryz.func31 (v:=tuple #[agg ((encA (encI .i64)) (Ar.rep 4 0)).toArray,agg ((encA (encI .i64)) (Ar.rep 4 0)).toArray,int .i64 1]) (resN (l:=Tryz.f31.results.toList) (vs:=[agg ((encA (encI .i64)) (Ar.rep 4 0)).toArray,agg ((encA (encI .i64)) (Ar.rep 4 0)).toArray,int .i64 1]) rfl ⟨⟨_,rfl,(run_loadVar_agg (es:=((encA (encI .i64)) (Ar.rep 4 0))) rfl (congrArg (Result.ok · _) ((fkA (n:=4) (he:=(fkI .i64).len) (h1:=(fkI .i64).one)).len _).symm) (cells_all (hs.cells 1 rfl)))⟩,⟨_,rfl,(run_loadVar_agg (es:=((encA (encI .i64)) (Ar.rep 4 0))) rfl (congrArg (Result.ok · _) ((fkA (n:=4) (he:=(fkI .i64).len) (h1:=(fkI .i64).one)).len _).symm) (cells_all (hs.cells 0 rfl)))⟩,rfl,trivial⟩ (by simp)) ?_
  have hs:St _ [] _:=St.take (Γ':=[_,_,_,_]) hs
  exact ⟨_,rfl,rfl,hs⟩
def Qal.post (w0:World) (r:Bool) (v:Value) (w:World):Prop:=v=bool r∧St w0 [] w
theorem Qal.seg0 {N : Nat} {a1 : (List Int)} {a3 : (List Int)} {v2 : Value} {v4 : Value} {x177 : Int} {r178 : ((Ar Int 4) × Int)} {b179 : Nat} {w0 : World} {r : Bool} (htab : Lib.TabIs Tryz.prog w0 "internal/strconv.uint64pow10" .u64 Lib.pow10Tab) (hmax : CellI w0 0) (hsyn : CellE w0 2) (hrng : CellE w0 3) (hdbr : CellU w0 7 15 4) (hr0 : RdRow (K.int .u8) w0 v2 a1) (hr1 : RdRow (K.int .u8) w0 v4 a3) :
 ∀ t w,(fun t w=>∃ b186:Nat,∃ x187:(Ar Int 4),∃ x188:Int,Qal.j13 N x177 r178 x187 x188=some r∧Fr t (fun O=>(oT O 0 (oT O 1 (oT O 2 (oT O 3 (oT O 4 (int .i64 x177::pointer (some ⟨b179,0,none⟩)::int .i64 r178.2::pointer (some ⟨b186,0,none⟩)::O 54::int .i64 x188::O 56::O 57::O 58::O 59::oT O 6 (oT O 7 (oT O 8 (oT O 9 (oT O 10 (oT O 11 (oT O 12 (oT O 13 (oT O 14 (oT O 15 (oT O 16 (oT O 17 (oT O 18 (oT O 19 (oT O 20 (oT O 21 (oT O 22 (oT O 23 (oT O 24 (oT O 25 (oT O 26 (oT O 27 (oT O 28 (oT O 29 (oT O 30 (oT O 31 (oT O 32 (oT O 33 (oT O 34 (oT O 35 (oT O 36 (oT O 37 (oT O 38 (oT O 39 (oT O 40 (oT O 41 (oT O 42 (O 430::O 431::O 432::O 433::O 434::O 435::[])))))))))))))))))))))))))))))))))))))))))):List Value))∧St w0 [Cells b179 ((encA (encI .i64)) r178.1) 47,Cells b186 ((encA (encI .i64)) x187) 47] w) t w→G Tryz.prog 3 (fun e w=>∃ v,e= .returned v∧Qal.post w0 r v w) [.code (Code.at_ (Tryz.f3.body.getD .skip) [1,1,1,1,1,1,1,1,1,1,1,1,1,1,1,1,1,1,1,1,1,1,1,1,1,1,1,1,1,1,1])] t w:=by
 rintro t w ⟨b186,x187,x188,H,hf,hs⟩
 obtain ⟨O,rfl⟩:=hf.open
 try dsimp only [oT]
 unfold Qal.j13 at H
 refine Qaf (Qak [0,1,2,3,4,5,6,7,8,9,10,11,12,13,14,15] rfl ?_)
 refine Qaa (v:=int .i64 x177) rfl rfl rfl (g_d rfl ?_)
 refine QaA (B:=x177==0) rfl rfl rfl ?_ ?_
 ·
  intro hb
  rw [if_pos (b_beq_t hb)] at H
  refine g_d rfl ?_
  refine Qaa (v:=bool true) rfl rfl rfl (g_d rfl ?_)
  refine Qaa (v:=int .i64 r178.2) rfl rfl rfl (g_d rfl ?_)
  refine Qaa (v:=bool (r178.2==0)) rfl rfl rfl (g_d rfl ?_)
  try dsimp only [Qai,Qaj]
  refine QaA (B:=r178.2==0) rfl rfl rfl ?_ ?_
  ·
   intro hb
   rw [if_pos (b_beq_t hb)] at H
   refine g_d rfl ?_
   refine Qaa (v:=bool true) rfl rfl rfl (g_d rfl ?_)
   refine Qaa (v:=int .i64 x188) rfl rfl rfl (g_d rfl ?_)
   refine Qaa (v:=bool (x188==0)) rfl rfl rfl (g_d rfl ?_)
   try dsimp only [Qai,Qaj]
   refine QaA (B:=x188==0) rfl rfl rfl ?_ ?_
   ·
    intro hb
    rw [if_pos (b_beq_t hb)] at H
    refine g_d rfl ?_
    refine Qaa (v:=bool true) rfl rfl rfl (g_d rfl ?_)
    refine QaG rfl rfl (es:=((encA (encI .i64)) r178.1)) rfl rfl (fun _=>rfl) (n:=4) (fun _=>rfl) ((fkA (n:=4) (he:=(fkI .i64).len) (h1:=(fkI .i64).one)).len _) (cells_all (hs.cells 0 rfl)) (g_d rfl ?_)
    try dsimp only [Qai,Qaj]
    refine QaG rfl rfl (es:=((encA (encI .i64)) x187)) rfl rfl (fun _=>rfl) (n:=4) (fun _=>rfl) ((fkA (n:=4) (he:=(fkI .i64).len) (h1:=(fkI .i64).one)).len _) (cells_all (hs.cells 1 rfl)) (g_d rfl ?_)
    refine Qaa (v:=bool (decide (r178.1=x187))) rfl rfl (Qdf rfl rfl rfl Qct (QcA _ _ _)) (g_d rfl ?_)
    try dsimp only [Qai,Qaj]
    refine Qaa (v:=bool (decide (r178.1=x187))) rfl rfl rfl (g_d rfl ?_)
    refine Qaa (v:=bool (decide (r178.1=x187))) rfl rfl rfl (g_d rfl ?_)
    try dsimp only [Qai,Qaj]
    refine Qab ?_
    obtain rfl:=QsJ H
    refine Qax Tryz.func3 (v:=bool (decide (r178.1=x187))) (res1 rfl rfl) ?_
    have hs:St _ [] _:=St.take (Γ':=[_,_]) hs
    exact ⟨_,rfl,rfl,hs⟩
   intro hb
   rw [if_neg (b_beq_f hb)] at H
   refine g_d rfl ?_
   refine Qaa (v:=bool false) rfl rfl rfl (g_d rfl (Qad rfl rfl (g_d rfl ?_)))
   try dsimp only [Qai,Qaj]
   refine Qad rfl rfl (g_d rfl (Qad rfl rfl (g_d rfl ?_)))
   try dsimp only [Qai,Qaj]
   refine Qaa (v:=bool false) rfl rfl rfl (g_d rfl ?_)
   refine Qaa (v:=bool false) rfl rfl rfl (g_d rfl ?_)
   try dsimp only [Qai,Qaj]
   refine Qab ?_
   obtain rfl:=QsJ H
   refine Qax Tryz.func3 (v:=bool false) (res1 rfl rfl) ?_
   have hs:St _ [] _:=St.take (Γ':=[_,_]) hs
   exact ⟨_,rfl,rfl,hs⟩
  intro hb
  rw [if_neg (b_beq_f hb)] at H
  refine g_d rfl ?_
  refine Qaa (v:=bool false) rfl rfl rfl (g_d rfl (Qad rfl rfl (g_d rfl (Qad rfl rfl (g_d rfl ?_)))))
  try dsimp only [Qai,Qaj]
  refine Qaa (v:=bool false) rfl rfl rfl (g_d rfl ?_)
  refine Qaa (v:=bool false) rfl rfl rfl (g_d rfl (Qad rfl rfl (g_d rfl ?_)))
  try dsimp only [Qai,Qaj]
  refine Qad rfl rfl (g_d rfl (Qad rfl rfl (g_d rfl ?_)))
  try dsimp only [Qai,Qaj]
  refine Qaa (v:=bool false) rfl rfl rfl (g_d rfl ?_)
  refine Qaa (v:=bool false) rfl rfl rfl (g_d rfl ?_)
  try dsimp only [Qai,Qaj]
  refine Qab ?_
  obtain rfl:=QsJ H
  refine Qax Tryz.func3 (v:=bool false) (res1 rfl rfl) ?_
  have hs:St _ [] _:=St.take (Γ':=[_,_]) hs
  exact ⟨_,rfl,rfl,hs⟩
 intro hb
 rw [if_neg (b_beq_f hb)] at H
 refine g_d rfl ?_
 refine Qaa (v:=bool false) rfl rfl rfl (g_d rfl (Qad rfl rfl (g_d rfl (Qad rfl rfl (g_d rfl ?_)))))
 try dsimp only [Qai,Qaj]
 refine Qaa (v:=bool false) rfl rfl rfl (g_d rfl ?_)
 refine Qaa (v:=bool false) rfl rfl rfl (g_d rfl (Qad rfl rfl (g_d rfl (Qad rfl rfl (g_d rfl ?_)))))
 try dsimp only [Qai,Qaj]
 refine Qaa (v:=bool false) rfl rfl rfl (g_d rfl ?_)
 refine Qaa (v:=bool false) rfl rfl rfl (g_d rfl (Qad rfl rfl (g_d rfl ?_)))
 try dsimp only [Qai,Qaj]
 refine Qad rfl rfl (g_d rfl (Qad rfl rfl (g_d rfl ?_)))
 try dsimp only [Qai,Qaj]
 refine Qaa (v:=bool false) rfl rfl rfl (g_d rfl ?_)
 refine Qaa (v:=bool false) rfl rfl rfl (g_d rfl ?_)
 try dsimp only [Qai,Qaj]
 refine Qab ?_
 obtain rfl:=QsJ H
 refine Qax Tryz.func3 (v:=bool false) (res1 rfl rfl) ?_
 have hs:St _ [] _:=St.take (Γ':=[_,_]) hs
 exact ⟨_,rfl,rfl,hs⟩
theorem Qal.seg1 {N : Nat} {a1 : (List Int)} {a3 : (List Int)} {v2 : Value} {v4 : Value} {r58 : Qag} {x85 : (Ar Int 4)} {x95 : (Ar Int 4)} {b61 : Nat} {b84 : Nat} {b94 : Nat} {v59 : Value} {w0 : World} {r : Bool} (htab : Lib.TabIs Tryz.prog w0 "internal/strconv.uint64pow10" .u64 Lib.pow10Tab) (hmax : CellI w0 0) (hsyn : CellE w0 2) (hrng : CellE w0 3) (hdbr : CellU w0 7 15 4) (hr0 : RdRow (K.int .u8) w0 v2 a1) (hr1 : RdRow (K.int .u8) w0 v4 a3) :
 ∀ t w,(fun t w=>∃ b171:Nat,∃ x172:Int,∃ x173:Int,∃ v174:Value,∃ x175:(List Qav),∃ x177:Int,Qal.j12 N r58 x85 x95 x172 x173 x175 x177=some r∧Fr t (fun O=>(oT O 0 (oT O 1 (O 20::O 21::O 22::O 23::O 24::pointer (some ⟨b61,0,none⟩)::O 26::O 27::O 28::O 29::O 30::O 31::pointer (some ⟨b84,0,none⟩)::O 33::O 34::O 35::pointer (some ⟨b94,0,none⟩)::O 37::O 38::O 39::O 40::O 41::O 42::O 43::O 44::O 45::O 46::O 47::O 48::pointer (some ⟨b171,0,none⟩)::int .i64 x177::O 51::O 52::O 53::O 54::O 55::O 56::O 57::O 58::O 59::oT O 6 (oT O 7 (oT O 8 (oT O 9 (oT O 10 (oT O 11 (oT O 12 (oT O 13 (oT O 14 (oT O 15 (oT O 16 (oT O 17 (oT O 18 (oT O 19 (oT O 20 (oT O 21 (oT O 22 (oT O 23 (oT O 24 (oT O 25 (oT O 26 (oT O 27 (oT O 28 (oT O 29 (oT O 30 (oT O 31 (oT O 32 (oT O 33 (oT O 34 (oT O 35 (oT O 36 (oT O 37 (oT O 38 (oT O 39 (oT O 40 (oT O 41 (oT O 42 (O 430::O 431::O 432::O 433::O 434::O 435::[]))))))))))))))))))))))))))))))))))))))):List Value))∧St w0 [Cells b61 (([int .i8 r58.Qac,int .i8 r58.Qae,v59]:List Value)) 30,Row 61 Qao v59 r58.Qah,Cells b84 ((encA (encI .i64)) x85) 47,Cells b94 ((encA (encI .i64)) x95) 47,Cells b171 (([int .i8 x172,int .i8 x173,v174]:List Value)) 30,Row 61 Qao v174 x175] w) t w→G Tryz.prog 3 (fun e w=>∃ v,e= .returned v∧Qal.post w0 r v w) [.code (Code.at_ (Tryz.f3.body.getD .skip) [1,1,1,1,1,1,1,1,1,1,1,1,1,1,1,1,1,1,1,1,1,1,1,1,1,1,1,1,1])] t w:=by
 rintro t w ⟨b171,x172,x173,v174,x175,x177,H,hf,hs⟩
 obtain ⟨O,rfl⟩:=hf.open
 try dsimp only [oT]
 unfold Qal.j12 at H
 refine Qaf (Qak [0,1,2,3,4,5,6,7] rfl ?_)
 refine QaG rfl rfl (es:=(([int .i8 x172,int .i8 x173,v174]:List Value))) rfl rfl (fun _=>rfl) (n:=3) (fun _=>rfl) rfl (cells_all (hs.cells 4 rfl)) (g_d rfl ?_)
 try dsimp only [Qai,Qaj]
 obtain ⟨r178,Hr178,H⟩:=bind_get H
 refine Qas (args:=[agg (([int .i8 x172,int .i8 x173,v174]:List Value)).toArray]) rfl rfl (Qat rfl (callFunc_enter Tryz.func20 rfl rfl) rfl) (QbZ.calls (a1:=(⟨x172,x173,x175⟩:Qag)) (hs.row 5 rfl) Hr178) ?_
 rintro _ w ⟨rfl,hs2⟩
 have hs:St _ [_,_,_,_,_,_] _:=hs.call hs2
 refine g_d rfl ?_
 refine Qaa (v:=tuple #[agg ((encA (encI .i64)) r178.1).toArray,int .i64 r178.2]) rfl rfl rfl (g_d rfl ?_)
 refine Qaa (v:=agg ((encA (encI .i64)) r178.1).toArray) rfl rfl rfl (g_d rfl ?_)
 refine Qaa (v:=int .i64 r178.2) rfl rfl rfl (g_d rfl ?_)
 refine Qa5 hs rfl rfl (z:=(agg #[int .i64 0,int .i64 0,int .i64 0,int .i64 0])) (cs:=((encA (encI .i64)) (Ar.rep 4 0))) rfl (fun _=>rfl) rfl ?_
 intro b179 w hs
 refine g_d rfl ?_
 try dsimp only [Qai,Qaj]
 refine QaB (n:=4) hs ((fkA (n:=4) (he:=(fkI .i64).len) (h1:=(fkI .i64).one)).len _) rfl rfl (vs:=((encA (encI .i64)) r178.1)) rfl rfl rfl (fun _=>rfl) ((fkA (n:=4) (he:=(fkI .i64).len) (h1:=(fkI .i64).one)).len _) ((fkA (n:=4) (he:=(fkI .i64).len) (h1:=(fkI .i64).one)).one _) ?_
 intro w hs
 refine g_n rfl ?_
 refine Qaa (v:=int .i64 r178.2) rfl rfl rfl (g_d rfl (Qab (Qaf ?_)))
 refine Qcp (J:=(fun t w=>∃ b186:Nat,∃ x187:(Ar Int 4),∃ x188:Int,Qal.j13 N x177 r178 x187 x188=some r∧Fr t (fun O=>(oT O 0 (oT O 1 (oT O 2 (oT O 3 (oT O 4 (int .i64 x177::pointer (some ⟨b179,0,none⟩)::int .i64 r178.2::pointer (some ⟨b186,0,none⟩)::O 54::int .i64 x188::O 56::O 57::O 58::O 59::oT O 6 (oT O 7 (oT O 8 (oT O 9 (oT O 10 (oT O 11 (oT O 12 (oT O 13 (oT O 14 (oT O 15 (oT O 16 (oT O 17 (oT O 18 (oT O 19 (oT O 20 (oT O 21 (oT O 22 (oT O 23 (oT O 24 (oT O 25 (oT O 26 (oT O 27 (oT O 28 (oT O 29 (oT O 30 (oT O 31 (oT O 32 (oT O 33 (oT O 34 (oT O 35 (oT O 36 (oT O 37 (oT O 38 (oT O 39 (oT O 40 (oT O 41 (oT O 42 (O 430::O 431::O 432::O 433::O 434::O 435::[])))))))))))))))))))))))))))))))))))))))))):List Value))∧St w0 [Cells b179 ((encA (encI .i64)) r178.1) 47,Cells b186 ((encA (encI .i64)) x187) 47] w)) ?_ ?_
 ·exact Qal.seg0 htab hmax hsyn hrng hdbr hr0 hr1
 intro ha
 refine Qak [0,1,2,3,4,5,6,7,8,9,10,11,12,13,14] rfl ?_
 refine Qaa (v:=pointer (some ⟨b61,1,none⟩)) rfl rfl rfl (g_d rfl ?_)
 refine Qaw rfl rfl (v:=int .i8 r58.Qae) rfl rfl (fun _=>rfl) (cells_load (hs.cells 1 rfl) 1 1 rfl) (g_d rfl ?_)
 try dsimp only [Qai,Qaj]
 refine Qaa (v:=int .i64 (i64w r58.Qae)) rfl rfl rfl (g_d rfl ?_)
 refine QaG rfl rfl (es:=((encA (encI .i64)) x85)) rfl rfl (fun _=>rfl) (n:=4) (fun _=>rfl) ((fkA (n:=4) (he:=(fkI .i64).len) (h1:=(fkI .i64).one)).len _) (cells_all (hs.cells 3 rfl)) (g_d rfl ?_)
 refine QaG rfl rfl (es:=((encA (encI .i64)) x95)) rfl rfl (fun _=>rfl) (n:=4) (fun _=>rfl) ((fkA (n:=4) (he:=(fkI .i64).len) (h1:=(fkI .i64).one)).len _) (cells_all (hs.cells 4 rfl)) (g_d rfl ?_)
 try dsimp only [Qai,Qaj]
 obtain ⟨r181,Hr181,H⟩:=bind_get H
 refine Qas (args:=[int .i64 (i64w r58.Qae),agg ((encA (encI .i64)) x85).toArray,agg ((encA (encI .i64)) x95).toArray]) rfl rfl (Qat rfl (callFunc_enter Tryz.func31 rfl rfl) rfl) (QbY.calls (a1:=i64w r58.Qae) (a2:=x85) (a3:=x95) Hr181) ?_
 rintro _ w ⟨rfl,hs2⟩
 have hs:St _ [_,_,_,_,_,_,_] _:=hs.call hs2
 refine g_d rfl ?_
 refine Qaa (v:=tuple #[agg ((encA (encI .i64)) r181.1).toArray,agg ((encA (encI .i64)) r181.2.1).toArray,int .i64 r181.2.2]) rfl rfl rfl (g_d rfl ?_)
 refine Qaa (v:=agg ((encA (encI .i64)) r181.1).toArray) rfl rfl rfl (g_d rfl ?_)
 refine Qaa (v:=agg ((encA (encI .i64)) r181.2.1).toArray) rfl rfl rfl (g_d rfl ?_)
 refine Qaa (v:=int .i64 r181.2.2) rfl rfl rfl (g_d rfl ?_)
 refine Qa5 hs rfl rfl (z:=(agg #[int .i64 0,int .i64 0,int .i64 0,int .i64 0])) (cs:=((encA (encI .i64)) (Ar.rep 4 0))) rfl (fun _=>rfl) rfl ?_
 intro b182 w hs
 refine g_d rfl ?_
 try dsimp only [Qai,Qaj]
 refine Qa5 hs rfl rfl (z:=(agg #[int .i64 0,int .i64 0,int .i64 0,int .i64 0])) (cs:=((encA (encI .i64)) (Ar.rep 4 0))) rfl (fun _=>rfl) rfl ?_
 intro b184 w hs
 refine g_d rfl ?_
 have hs:St _ [_,_,_,_,_,_,_,_,_] _:=hs.pull 1 rfl
 refine QaB (n:=4) hs ((fkA (n:=4) (he:=(fkI .i64).len) (h1:=(fkI .i64).one)).len _) rfl rfl (vs:=((encA (encI .i64)) r181.1)) rfl rfl rfl (fun _=>rfl) ((fkA (n:=4) (he:=(fkI .i64).len) (h1:=(fkI .i64).one)).len _) ((fkA (n:=4) (he:=(fkI .i64).len) (h1:=(fkI .i64).one)).one _) ?_
 intro w hs
 refine g_n rfl ?_
 have hs:St _ [_,_,_,_,_,_,_,_,_] _:=hs.pull 1 rfl
 refine QaB (n:=4) hs ((fkA (n:=4) (he:=(fkI .i64).len) (h1:=(fkI .i64).one)).len _) rfl rfl (vs:=((encA (encI .i64)) r181.2.1)) rfl rfl rfl (fun _=>rfl) ((fkA (n:=4) (he:=(fkI .i64).len) (h1:=(fkI .i64).one)).len _) ((fkA (n:=4) (he:=(fkI .i64).len) (h1:=(fkI .i64).one)).one _) ?_
 intro w hs
 refine g_n rfl ?_
 refine Qaa (v:=int .i64 r181.2.2) rfl rfl rfl (g_d rfl ?_)
 try dsimp only [Qai,Qaj]
 refine Qab ?_
 have hs:=hs.pull 1 rfl
 have hs:=hs.pull 2 rfl
 have hs:St _ [_,_] _:=St.take (Γ':=[_,_,_,_,_,_,_]) hs
 exact ha _ _ ⟨b182,r181.1,r181.2.2,H,rfl,hs⟩
theorem Qal.seg2 {N : Nat} {a1 : (List Int)} {a3 : (List Int)} {v2 : Value} {v4 : Value} {x85 : (Ar Int 4)} {x95 : (Ar Int 4)} {r58 : Qag} {r87 : (Int × Int)} {b61 : Nat} {b84 : Nat} {b94 : Nat} {b101 : Nat} {b103 : Nat} {v59 : Value} {w0 : World} {r : Bool} (htab : Lib.TabIs Tryz.prog w0 "internal/strconv.uint64pow10" .u64 Lib.pow10Tab) (hmax : CellI w0 0) (hsyn : CellE w0 2) (hrng : CellE w0 3) (hdbr : CellU w0 7 15 4) (hr0 : RdRow (K.int .u8) w0 v2 a1) (hr1 : RdRow (K.int .u8) w0 v4 a3) :
 ∀ t w,(fun t w=>∃ x163:(Ar Int 4),∃ x164:(Ar Int 4),Qal.j11 N x85 x95 r58 r87 x163 x164=some r∧Fr t (fun O=>(oT O 0 (oT O 1 (O 20::O 21::O 22::O 23::O 24::pointer (some ⟨b61,0,none⟩)::O 26::O 27::O 28::O 29::O 30::O 31::pointer (some ⟨b84,0,none⟩)::O 33::int .u64 r87.1::O 35::pointer (some ⟨b94,0,none⟩)::O 37::O 38::O 39::pointer (some ⟨b101,0,none⟩)::pointer (some ⟨b103,0,none⟩)::O 42::O 43::O 44::O 45::O 46::O 47::O 48::O 49::oT O 5 (oT O 6 (oT O 7 (oT O 8 (oT O 9 (oT O 10 (oT O 11 (oT O 12 (oT O 13 (oT O 14 (oT O 15 (oT O 16 (oT O 17 (oT O 18 (oT O 19 (oT O 20 (oT O 21 (oT O 22 (oT O 23 (oT O 24 (oT O 25 (oT O 26 (oT O 27 (oT O 28 (oT O 29 (oT O 30 (oT O 31 (oT O 32 (oT O 33 (oT O 34 (oT O 35 (oT O 36 (oT O 37 (oT O 38 (oT O 39 (oT O 40 (oT O 41 (oT O 42 (O 430::O 431::O 432::O 433::O 434::O 435::[])))))))))))))))))))))))))))))))))))))))):List Value))∧St w0 [Cells b61 (([int .i8 r58.Qac,int .i8 r58.Qae,v59]:List Value)) 30,Row 61 Qao v59 r58.Qah,Cells b84 ((encA (encI .i64)) x85) 47,Cells b94 ((encA (encI .i64)) x95) 47,Cells b101 ((encA (encI .i64)) x163) 47,Cells b103 ((encA (encI .i64)) x164) 47] w) t w→G Tryz.prog 3 (fun e w=>∃ v,e= .returned v∧Qal.post w0 r v w) [.code (Code.at_ (Tryz.f3.body.getD .skip) [1,1,1,1,1,1,1,1,1,1,1,1,1,1,1,1,1,1,1,1,1,1,1,1,1,1,1])] t w:=by
 rintro t w ⟨x163,x164,H,hf,hs⟩
 obtain ⟨O,rfl⟩:=hf.open
 try dsimp only [oT]
 unfold Qal.j11 at H
 refine Qaf (Qaf (Qak [0,1,2,3,4,5,6,7] rfl ?_))
 refine QaG rfl rfl (es:=((encA (encI .i64)) x164)) rfl rfl (fun _=>rfl) (n:=4) (fun _=>rfl) ((fkA (n:=4) (he:=(fkI .i64).len) (h1:=(fkI .i64).one)).len _) (cells_all (hs.cells 5 rfl)) (g_d rfl ?_)
 refine QaG rfl rfl (es:=((encA (encI .i64)) x85)) rfl rfl (fun _=>rfl) (n:=4) (fun _=>rfl) ((fkA (n:=4) (he:=(fkI .i64).len) (h1:=(fkI .i64).one)).len _) (cells_all (hs.cells 2 rfl)) (g_d rfl ?_)
 try dsimp only [Qai,Qaj]
 refine QaA (B:=!decide (x164=x85)) rfl rfl (QcH rfl rfl rfl Qct (QcA _ _ _)) ?_ ?_
 ·
  intro hb
  rw [if_neg (b_ndec_t hb)] at H
  refine g_d rfl ?_
  refine Qaa (v:=bool true) rfl rfl rfl (g_d rfl (Qad rfl rfl (g_d rfl ?_)))
  try dsimp only [Qai,Qaj]
  refine Qad rfl rfl (g_d rfl (Qad rfl rfl (g_d rfl ?_)))
  try dsimp only [Qai,Qaj]
  refine Qaa (v:=bool true) rfl rfl rfl (g_d rfl (Qab (Qam rfl (Qaf (Qak [0] rfl ?_)))))
  refine Qaa (v:=bool false) rfl rfl rfl (g_d rfl ?_)
  try dsimp only [Qai,Qaj]
  refine Qab ?_
  obtain rfl:=QsJ H
  refine Qax Tryz.func3 (v:=bool false) (res1 rfl rfl) ?_
  have hs:St _ [] _:=St.take (Γ':=[_,_,_,_,_,_]) hs
  exact ⟨_,rfl,rfl,hs⟩
 intro hb
 rw [if_pos (b_ndec_f hb)] at H
 refine g_d rfl ?_
 refine Qaa (v:=bool false) rfl rfl rfl (g_d rfl ?_)
 refine QaG rfl rfl (es:=((encA (encI .i64)) x163)) rfl rfl (fun _=>rfl) (n:=4) (fun _=>rfl) ((fkA (n:=4) (he:=(fkI .i64).len) (h1:=(fkI .i64).one)).len _) (cells_all (hs.cells 4 rfl)) (g_d rfl ?_)
 try dsimp only [Qai,Qaj]
 refine QaG rfl rfl (es:=((encA (encI .i64)) x95)) rfl rfl (fun _=>rfl) (n:=4) (fun _=>rfl) ((fkA (n:=4) (he:=(fkI .i64).len) (h1:=(fkI .i64).one)).len _) (cells_all (hs.cells 3 rfl)) (g_d rfl ?_)
 refine QaA (B:=!decide (x163=x95)) rfl rfl (QcH rfl rfl rfl Qct (QcA _ _ _)) ?_ ?_
 ·
  intro hb
  rw [if_neg (b_ndec_t hb)] at H
  refine g_d rfl ?_
  try dsimp only [Qai,Qaj]
  refine Qaa (v:=bool true) rfl rfl rfl (g_d rfl (Qab (Qam rfl (Qaf (Qak [0] rfl ?_)))))
  refine Qaa (v:=bool false) rfl rfl rfl (g_d rfl ?_)
  try dsimp only [Qai,Qaj]
  refine Qab ?_
  obtain rfl:=QsJ H
  refine Qax Tryz.func3 (v:=bool false) (res1 rfl rfl) ?_
  have hs:St _ [] _:=St.take (Γ':=[_,_,_,_,_,_]) hs
  exact ⟨_,rfl,rfl,hs⟩
 intro hb
 rw [if_pos (b_ndec_f hb)] at H
 refine g_d rfl ?_
 try dsimp only [Qai,Qaj]
 refine Qaa (v:=bool false) rfl rfl rfl (g_d rfl (Qab (Qap rfl (QaE (Qaf ?_)))))
 refine Qcp (J:=(fun t w=>∃ b171:Nat,∃ x172:Int,∃ x173:Int,∃ v174:Value,∃ x175:(List Qav),∃ x177:Int,Qal.j12 N r58 x85 x95 x172 x173 x175 x177=some r∧Fr t (fun O=>(oT O 0 (oT O 1 (O 20::O 21::O 22::O 23::O 24::pointer (some ⟨b61,0,none⟩)::O 26::O 27::O 28::O 29::O 30::O 31::pointer (some ⟨b84,0,none⟩)::O 33::O 34::O 35::pointer (some ⟨b94,0,none⟩)::O 37::O 38::O 39::O 40::O 41::O 42::O 43::O 44::O 45::O 46::O 47::O 48::pointer (some ⟨b171,0,none⟩)::int .i64 x177::O 51::O 52::O 53::O 54::O 55::O 56::O 57::O 58::O 59::oT O 6 (oT O 7 (oT O 8 (oT O 9 (oT O 10 (oT O 11 (oT O 12 (oT O 13 (oT O 14 (oT O 15 (oT O 16 (oT O 17 (oT O 18 (oT O 19 (oT O 20 (oT O 21 (oT O 22 (oT O 23 (oT O 24 (oT O 25 (oT O 26 (oT O 27 (oT O 28 (oT O 29 (oT O 30 (oT O 31 (oT O 32 (oT O 33 (oT O 34 (oT O 35 (oT O 36 (oT O 37 (oT O 38 (oT O 39 (oT O 40 (oT O 41 (oT O 42 (O 430::O 431::O 432::O 433::O 434::O 435::[]))))))))))))))))))))))))))))))))))))))):List Value))∧St w0 [Cells b61 (([int .i8 r58.Qac,int .i8 r58.Qae,v59]:List Value)) 30,Row 61 Qao v59 r58.Qah,Cells b84 ((encA (encI .i64)) x85) 47,Cells b94 ((encA (encI .i64)) x95) 47,Cells b171 (([int .i8 x172,int .i8 x173,v174]:List Value)) 30,Row 61 Qao v174 x175] w)) ?_ ?_
 ·exact Qal.seg1 htab hmax hsyn hrng hdbr hr0 hr1
 intro ha
 refine Qak [0,1,2,3,4,5,6,7,8] rfl ?_
 refine QaG rfl rfl (es:=(([int .i8 r58.Qac,int .i8 r58.Qae,v59]:List Value))) rfl rfl (fun _=>rfl) (n:=3) (fun _=>rfl) rfl (cells_all (hs.cells 0 rfl)) (g_d rfl ?_)
 try dsimp only [Qai,Qaj]
 refine Qaa (v:=int .u64 r87.1) rfl rfl rfl (g_d rfl ?_)
 obtain ⟨r165,Hr165,H⟩:=bind_get H
 refine Qas (args:=[agg (([int .i8 r58.Qac,int .i8 r58.Qae,v59]:List Value)).toArray,int .u64 r87.1,bool true]) rfl rfl (Qat rfl (callFunc_enter Tryz.func30 rfl rfl) rfl) (Qce.calls (a1:=(⟨r58.Qac,r58.Qae,r58.Qah⟩:Qag)) (a4:=r87.1) (a5:=true) (hs.row 1 rfl) Hr165) ?_
 rintro _ w ⟨v166,rfl,hs2⟩
 have hs:St _ [_,_,_,_,_,_,_] _:=hs.call hs2
 refine g_d rfl ?_
 refine Qaa (v:=tuple #[agg (([int .i8 r165.1.Qac,int .i8 r165.1.Qae,v166]:List Value)).toArray,int .i64 r165.2]) rfl rfl rfl (g_d rfl ?_)
 refine Qaa (v:=agg (([int .i8 r165.1.Qac,int .i8 r165.1.Qae,v166]:List Value)).toArray) rfl rfl rfl (g_d rfl ?_)
 refine Qaa (v:=int .i64 r165.2) rfl rfl rfl (g_d rfl ?_)
 refine Qa5 hs rfl rfl (z:=(agg #[int .i8 0,int .i8 0,slice none 0 0])) (cs:=(([int .i8 0,int .i8 0,slice none 0 0]:List Value))) rfl (fun _=>rfl) rfl ?_
 intro b168 w hs
 refine g_d rfl ?_
 try dsimp only [Qai,Qaj]
 refine QaB (n:=3) hs rfl rfl rfl (vs:=(([int .i8 r165.1.Qac,int .i8 r165.1.Qae,v166]:List Value))) rfl rfl rfl (fun _=>rfl) rfl (by intro v hv;simp only [List.mem_append,List.mem_cons,List.not_mem_nil,or_false] at hv;repeat (first|(subst hv;first|rfl|exact slOne (hs.row 1 rfl))|(rcases hv with hv|hv))) ?_
 intro w hs
 refine g_n rfl ?_
 refine Qaa (v:=int .i64 r165.2) rfl rfl rfl (g_d rfl (Qab ?_))
 have hs:=hs.pull 1 rfl
 have hs:=hs.pull 1 rfl
 have hs:=hs.pull 5 rfl
 have hs:=hs.pull 5 rfl
 have hs:=hs.pull 5 rfl
 have hs:=hs.pull 5 rfl
 have hs:St _ [_,_,_,_,_,_] _:=St.take (Γ':=[_,_]) hs
 exact ha _ _ ⟨b168,r165.1.Qac,r165.1.Qae,v166,r165.1.Qah,r165.2,H,rfl,hs⟩
end Go.Proofs.YtdnipilfcjkfoaaGreatDoorX
