import Derived.Test.YtgpdpedpmhonkaaProg
import Derived.Test.YtgpdpedpmhonkaaP3
import Derived.Test.YtgpdpedpmhonkaaP4
import Derived.Test.YtgpdpedpmhonkaaP6
import Derived.Test.YtgpdpedpmhonkaaP7
import Derived.Test.YtgpdpedpmhonkaaP8
import Derived.Test.YtgpdpedpmhonkaaP10
namespace Go.Proofs.YtgpdpedpmhonkaaX
open Go Go.RowKit Go.Proofs
open Go.Value (int pointer bool agg slice string tuple)
set_option maxHeartbeats 8000000
set_option maxRecDepth 100000
set_option linter.unusedVariables false
set_option linter.unusedSimpArgs false
def QaX.post (w0:World) (r:(Int×Int×Int)) (v:Value) (w:World):Prop:=v=tuple #[int .i64 r.1,int .i64 r.2.1,int .i64 r.2.2]∧St w0 [] w
theorem QaX.calls {N:Nat} {a1:Qaq} {a2:(List Qai)} {a4:(List (Ar Int 14))} {v3:Value} {v5:Value} {w0:World} {r:(Int×Int×Int)} (hr1:RdRow Qah w0 v3 a2) (hr2:RdRow (K.ar 14 1 (encI .i8) (fkI .i8).len (fkI .i8).one) w0 v5 a4) (H:QaX.f N a1 a2 a4=some r):
 Calls Try.prog 25 #[agg (Qae a1).toArray,v3,v5] w0 fun e w=>∃ v,e= .returned v∧QaX.post w0 r v w:=by
 unfold QaX.f at H
 have hs:St w0 [] w0:=St.refl w0
 refine calls_of_g (n:=58) Try.func25 rfl rfl ?_
 show G _ _ _ _ (_::_::_::_::_::_::_::_::_::_::_::_::_::_::_::_::_::_::_::_::_::_::_::_::_::_::_::_::_::_::_::_::_::_::_::_::_::_::_::_::_::_::_::_::_::_::_::_::_::_::_::_::_::_::_::_::_::_::_::_::_::[]) _
 refine Qag (Qan [0,1,2,3] rfl ?_)
 refine Qbw hs rfl rfl (cs:=(Qae a1)) rfl rfl ?_
 intro b6 w hs
 refine g_d rfl ?_
 refine Qab (v:=int .i64 0) rfl rfl rfl (g_d rfl ?_)
 try dsimp only [set0,setS]
 refine Qab (v:=int .i64 0) rfl rfl rfl (g_d rfl ?_)
 refine Qab (v:=int .i64 0) rfl rfl rfl (g_d rfl ?_)
 try dsimp only [set0,setS]
 refine Qaa (Qag (Qan [0,1,2,3,4] rfl ?_))
 refine QaG rfl rfl (es:=(Qae a1)) rfl rfl (fun _=>rfl) (n:=4) (fun _=>rfl) (QaJ.len _) (cells_all (hs.cells 0 rfl)) (g_d rfl ?_)
 refine Qab (v:=v5) rfl rfl rfl (g_d rfl ?_)
 refine Qab (v:=v3) rfl rfl rfl (g_d rfl ?_)
 obtain ⟨r8,Hr8,H⟩:=bind_get H
 refine QaP (args:=[agg (Qae a1).toArray,v5,v3]) rfl rfl (QaT rfl (callFunc_enter Try.func41 rfl rfl) rfl) (Qb6.calls (a1:=a1) (a2:=a4) (a4:=a2) (hs.rd hr2) (hs.rd hr1) Hr8) ?_
 rintro _ w ⟨rfl,hs2⟩
 have hs:St _ [_] _:=hs.call hs2
 refine g_d rfl ?_
 try dsimp only [set0,setS]
 refine Qab (v:=int .i64 r8) rfl rfl rfl (g_d rfl (Qaa (Qag (Qag ?_))))
 refine QcB (J:=(fun t w=>∃ x12:Int,QaX.j0 N a4 a2 x12=some r∧Fr t (fun O=>(O 0::v3::v5::O 3::O 4::O 5::O 6::O 7::O 8::int .i64 x12::oT O 1 (oT O 2 (oT O 3 (oT O 4 (oT O 5 (O 60::[]))))):List Value))∧St w0 [] w)) ?_ ?_
 ·
  rintro t w ⟨x12,H,hf,hs⟩
  obtain ⟨O,rfl⟩:=hf.open
  try dsimp only [oT]
  unfold QaX.j0 at H
  refine Qag (Qag (Qan [0,1] rfl ?_))
  refine Qab (v:=int .i64 x12) rfl rfl rfl (g_d rfl ?_)
  refine QaR (B:=x12 !=0) rfl rfl rfl ?_ ?_
  ·
   intro hb
   rw [if_neg (b_bne_t hb)] at H
   refine g_d rfl (Qaa (Qaw rfl (Qag (Qan [0,1,2,3] rfl ?_))))
   refine Qab (v:=int .i64 x12) rfl rfl rfl (g_d rfl ?_)
   refine Qab (v:=int .i64 0) rfl rfl rfl (g_d rfl ?_)
   try dsimp only [set0,setS]
   refine Qab (v:=int .i64 0) rfl rfl rfl (g_d rfl ?_)
   refine Qab (v:=int .i64 x12) rfl rfl rfl (g_d rfl ?_)
   try dsimp only [set0,setS]
   refine Qaa ?_
   obtain rfl:=QsJ H
   refine QaK Try.func25 (v:=tuple #[int .i64 0,int .i64 0,int .i64 x12]) (resN (l:=Try.f25.results.toList) (vs:=[int .i64 0,int .i64 0,int .i64 x12]) rfl ⟨rfl,rfl,rfl,trivial⟩ (by simp)) ?_
   have hs:St _ [] _:=St.take (Γ':=[]) hs
   exact ⟨_,rfl,rfl,hs⟩
  intro hb
  rw [if_pos (b_bne_f hb)] at H
  refine g_d rfl ?_
  try dsimp only [set0,setS]
  refine Qaa (Qax rfl (QaS (Qag (Qan [0,1] rfl ?_))))
  refine Qab (v:=int .i64 0) rfl rfl rfl (g_d rfl ?_)
  refine Qab (v:=int .i64 (-1)) rfl rfl rfl (g_d rfl ?_)
  try dsimp only [set0,setS]
  refine Qaa (Qag (Qag (Qan [0,1,2] rfl ?_)))
  refine Qab (v:=v5) rfl rfl rfl (g_d rfl ?_)
  refine Qb1 (hs.rd hr2) rfl rfl rfl rfl rfl (g_d rfl ?_)
  refine Qab (v:=int .i64 0) rfl rfl rfl (g_d rfl (Qaa ?_))
  obtain ⟨o1_,Ho,Hr1_⟩:=bind_get H
  refine Qa2 (J:=fun t w=>∃ x33:Int,∃ x34:Int,QaX.a1 N x33 x34=some r∧Fr t (fun O=>(oT O 0 (int .i64 x33::int .i64 x34::O 12::O 13::O 14::O 15::O 16::O 17::O 18::O 19::oT O 2 (oT O 3 (oT O 4 (oT O 5 (O 60::[]))))):List Value))∧St w0 [] w) ?_ ?_
  ·
   rintro t w ⟨x33,x34,H,hf,hs⟩
   obtain ⟨O,rfl⟩:=hf.open
   try dsimp only [oT]
   unfold QaX.a1 at H
   refine Qag (Qan [0,1,2,3,4] rfl ?_)
   refine Qab (v:=int .i64 x33) rfl rfl rfl (g_d rfl ?_)
   refine Qab (v:=int .i64 x34) rfl rfl rfl (g_d rfl ?_)
   refine Qab (v:=int .i64 x33) rfl rfl rfl (g_d rfl ?_)
   refine Qab (v:=int .i64 x34) rfl rfl rfl (g_d rfl ?_)
   try dsimp only [set0,setS]
   refine Qab (v:=int .i64 0) rfl rfl rfl (g_d rfl (Qaa ?_))
   obtain rfl:=QsJ H
   refine QaK Try.func25 (v:=tuple #[int .i64 x33,int .i64 x34,int .i64 0]) (resN (l:=Try.f25.results.toList) (vs:=[int .i64 x33,int .i64 x34,int .i64 0]) rfl ⟨rfl,rfl,rfl,trivial⟩ (by simp)) ?_
   have hs:St _ [] _:=St.take (Γ':=[]) hs
   exact ⟨_,rfl,rfl,hs⟩
  intro ha1_
  have hs:St _ [] _:=St.take (Γ':=[]) hs
  refine Qbk (I:=fun n_ t w=>∃ x13:Int,∃ x14:Int,∃ x15:Int,rounds (fun s=>QaX.b1 N a4 a2 s.1 s.2.1 s.2.2) n_ (x13,x14,x15)=some o1_∧Fr t (fun O=>(O 0::v3::O 2::O 3::O 4::O 5::O 6::O 7::O 8::O 9::int .i64 x13::int .i64 x14::O 12::O 13::O 14::O 15::O 16::O 17::O 18::O 19::O 20::O 21::O 22::O 23::O 24::O 25::O 26::O 27::O 28::v5::int .i64 (a4.length:Int)::int .i64 x15::O 32::O 33::O 34::O 35::O 36::O 37::O 38::O 39::oT O 4 (oT O 5 (O 60::[])):List Value))∧St w0 [] w) N ⟨0,(-1),0,Ho,rfl,hs⟩ ?_ ?_
  ·
   rintro _ _ ⟨x13,x14,x15,h,_⟩
   exact rounds_zero h
  intro n_ ih1_
  rintro t w ⟨x13,x14,x15,Ho,hf,hs⟩
  obtain ⟨O,rfl⟩:=hf.open
  try dsimp only [oT]
  obtain ⟨x2_,H,Hx1_⟩:=rounds_succ Ho
  have H:QaX.b1 N a4 a2 x13 x14 x15=some x2_:=H
  unfold QaX.b1 at H
  refine Qag (Qan [0] rfl ?_)
  refine QaR (B:=decide (x15< (a4.length:Int))) rfl rfl rfl ?_ ?_
  ·
   intro hb
   rw [if_pos (b_dec_t hb)] at H
   refine g_d rfl (Qaa (Qag (Qaw rfl (QaS (Qag ?_)))))
   refine Qa2 (J:=(fun t w=>∃ x31:Int,∃ x32:Int,QaX.j3 N x15 x31 x32=some x2_∧Fr t (fun O=>(O 0::v3::O 2::O 3::O 4::O 5::O 6::O 7::O 8::O 9::int .i64 x31::int .i64 x32::O 12::O 13::O 14::O 15::O 16::O 17::O 18::O 19::O 20::O 21::O 22::O 23::O 24::O 25::O 26::O 27::O 28::v5::int .i64 (a4.length:Int)::int .i64 x15::O 32::O 33::O 34::O 35::O 36::O 37::O 38::O 39::oT O 4 (oT O 5 (O 60::[])):List Value))∧St w0 [] w)) ?_ ?_
   ·
    rintro t w ⟨x31,x32,H,hf,hs⟩
    obtain ⟨O,rfl⟩:=hf.open
    try dsimp only [oT]
    unfold QaX.j3 at H
    refine Qan [0,1] rfl ?_
    refine Qab (v:=int .i64 (i64w (x15+1))) rfl rfl rfl (g_d rfl ?_)
    refine Qab (v:=int .i64 (i64w (x15+1))) rfl rfl rfl (g_d rfl (Qaa ?_))
    obtain rfl:=QsJ H
    have hs:St _ [] _:=St.take (Γ':=[]) hs
    exact ih1_ _ _ ⟨x31,x32,i64w (x15+1),Hx1_,rfl,hs⟩
   intro ha
   refine Qag (Qan [0,1,2,3,4,5] rfl ?_)
   refine Qab (v:=int .i64 x15) rfl rfl rfl (g_d rfl ?_)
   obtain ⟨g1,H⟩:=ite_get H
   refine QcS (fkA (n:=14) (he:=(fkI .i8).len) (h1:=(fkI .i8).one)) (Ar.rep 14 0) (hs.rd hr2) rfl (fun _=>rfl) g1.1 g1.2 rfl rfl rfl rfl rfl ?_
   intro p16 hp16 lp16 op16
   refine g_d rfl ?_
   try dsimp only [set0,setS]
   refine QaG rfl rfl (es:=((encA (encI .i8)) (rdL a4 x15 (Ar.rep 14 0)))) rfl rfl (fun _=>rfl) (n:=14) (fun _=>rfl) ((fkA (n:=14) (he:=(fkI .i8).len) (h1:=(fkI .i8).one)).len _) hp16 (g_d rfl ?_)
   refine QbH hs rfl rfl (z:=(agg #[int .i8 0,int .i8 0,int .i8 0,int .i8 0,int .i8 0,int .i8 0,int .i8 0,int .i8 0,int .i8 0,int .i8 0,int .i8 0,int .i8 0,int .i8 0,int .i8 0])) (cs:=((encA (encI .i8)) (Ar.rep 14 0))) rfl (fun _=>rfl) rfl ?_
   intro b17 w hs
   refine g_d rfl ?_
   try dsimp only [set0,setS]
   refine Qab (v:=int .i64 x15) rfl rfl rfl (g_d rfl ?_)
   refine Qa9 (n:=14) hs ((fkA (n:=14) (he:=(fkI .i8).len) (h1:=(fkI .i8).one)).len _) rfl rfl (vs:=((encA (encI .i8)) (rdL a4 x15 (Ar.rep 14 0)))) rfl rfl rfl (fun _=>rfl) ((fkA (n:=14) (he:=(fkI .i8).len) (h1:=(fkI .i8).one)).len _) ((fkA (n:=14) (he:=(fkI .i8).len) (h1:=(fkI .i8).one)).one _) ?_
   intro w hs
   refine g_n rfl (Qaa (Qag (Qan [0,1,2,3,4] rfl ?_)))
   refine QaG rfl rfl (es:=((encA (encI .i8)) (rdL a4 x15 (Ar.rep 14 0)))) rfl rfl (fun _=>rfl) (n:=14) (fun _=>rfl) ((fkA (n:=14) (he:=(fkI .i8).len) (h1:=(fkI .i8).one)).len _) (cells_all (hs.cells 0 rfl)) (g_d rfl ?_)
   try dsimp only [set0,setS]
   refine Qab (v:=v3) rfl rfl rfl (g_d rfl ?_)
   obtain ⟨r19,Hr19,H⟩:=bind_get H
   refine QaP (args:=[agg ((encA (encI .i8)) (rdL a4 x15 (Ar.rep 14 0))).toArray,v3]) rfl rfl (QaT rfl (callFunc_enter Try.func42 rfl rfl) rfl) (Qbx.calls (a1:=rdL a4 x15 (Ar.rep 14 0)) (a2:=a2) (hs.rd hr1) Hr19) ?_
   rintro _ w ⟨v20,v21,v22,rfl,hs2⟩
   have hs:St _ [_,_,_,_] _:=hs.call hs2
   refine g_d rfl ?_
   refine QbH hs rfl rfl (z:=(agg #[slice none 0 0,slice none 0 0,slice none 0 0])) (cs:=(([slice none 0 0,slice none 0 0,slice none 0 0]:List Value))) rfl (fun _=>rfl) rfl ?_
   intro b26 w hs
   refine g_d rfl ?_
   try dsimp only [set0,setS]
   refine Qa9 (n:=3) hs rfl rfl rfl (vs:=(([v20,v21,v22]:List Value))) rfl rfl rfl (fun _=>rfl) rfl (by intro v hv;simp only [List.mem_append,List.mem_cons,List.not_mem_nil,or_false] at hv;repeat (first|(subst hv;first|rfl|exact slOne (hs.row 1 rfl)|exact slOne (hs.row 2 rfl)|exact slOne (hs.row 3 rfl))|(rcases hv with hv|hv))) ?_
   intro w hs
   refine g_n rfl (Qaa (Qag ?_))
   obtain ⟨r28,Hr28,H⟩:=bind_get H
   obtain ⟨r29,Hr29,H⟩:=bind_get H
   obtain ⟨r30,Hr30,H⟩:=bind_get H
   refine QbT ?_
   intro T hT
   refine Qcg (n:=11) rfl [0,1,2,3,4,5,6,7,8,9,10] [0,1,2,3,4,5,6,7,8,9,10] rfl rfl (Inv:=fun D t w=>∃ O:Nat→Value,t=(O 0::v3::O 2::O 3::O 4::O 5::O 6::O 7::O 8::O 9::int .i64 x13::int .i64 x14::int .i64 x15::pointer (some ⟨b17,0,none⟩)::pointer (some ⟨b26,0,none⟩)::cnd (D 10) (int .i64 (mxI (mxI r28 r29) r30)) (O 15)::O 16::O 17::O 18::O 19::O 20::O 21::O 22::O 23::O 24::O 25::O 26::O 27::O 28::v5::int .i64 (a4.length:Int)::int .i64 x15::bool true::int .i64 x15::pointer (some p16)::agg ((encA (encI .i8)) (rdL a4 x15 (Ar.rep 14 0))).toArray::agg ((encA (encI .i8)) (rdL a4 x15 (Ar.rep 14 0))).toArray::v3::agg (([v20,v21,v22]:List Value)).toArray::cnd (D 0) (pointer (some ⟨b26,0+0*1,none⟩)) (O 39)::cnd (D 1) v20 (O 40)::cnd (D 2) (int .i64 r28) (O 41)::cnd (D 3) (pointer (some ⟨b26,0+1*1,none⟩)) (O 42)::cnd (D 4) v21 (O 43)::cnd (D 5) (int .i64 r29) (O 44)::cnd (D 6) (pointer (some ⟨b26,0+2*1,none⟩)) (O 45)::cnd (D 7) v22 (O 46)::cnd (D 8) (int .i64 r30) (O 47)::cnd (D 9) (int .i64 (mxI (mxI r28 r29) r30)) (O 48)::O 49::oT O 5 (O 60::[]))∧St w0 [Cells b26 (([v20,v21,v22]:List Value)) 42,Row 53 Qah v20 (r19.get 0 []),Row 53 Qah v21 (r19.get 1 []),Row 53 Qah v22 (r19.get 2 []),Cells b17 ((encA (encI .i8)) (rdL a4 x15 (Ar.rep 14 0))) 37] w) ?_ ⟨⟨⟨⟨⟨⟨⟨⟨⟨⟨⟨trivial,?_⟩,?_⟩,?_⟩,?_⟩,?_⟩,?_⟩,?_⟩,?_⟩,?_⟩,?_⟩,?_⟩ ?_
   ·
    intro w hh hbw
    have hs:=hs.samew hh hbw
    exact ⟨fun i=>T.getD i undef,(by subst hT;rfl),hs⟩
   ·
    rintro D t w hD hp hcl ⟨O,ht,hs⟩ rest hk
    have q1_:=nz hcl 1 0 hD
    have q2_:=nz hcl 2 0 q1_
    have q5_:=nz hcl 5 1 q2_
    have q8_:=nz hcl 8 1 q5_
    have q9_:=nz hcl 9 0 q2_
    have q10_:=nz hcl 10 0 q9_
    simp only [hD,q1_,q2_,q5_,q8_,q9_,q10_,cq,oT] at ht hs
    subst ht
    refine QbR (m:=1) 0 rfl (by decide) rfl (fun _=>rfl) rfl rfl rfl rfl rfl (g_d rfl ?_)
    try dsimp only [set0,setS]
    refine hk _ _ ⟨O,?_,hs.cast ?_⟩<;>simp only [oT,lq,cq,Nat.reduceBEq,q1_,q2_,q5_,q8_,q9_,q10_]
   ·
    rintro D t w hD hp hcl ⟨O,ht,hs⟩ rest hk
    obtain ⟨p0_,_⟩:=hp
    have q2_:=nz hcl 2 0 hD
    have q5_:=nz hcl 5 1 q2_
    have q8_:=nz hcl 8 1 q5_
    have q9_:=nz hcl 9 0 q2_
    have q10_:=nz hcl 10 0 q9_
    simp only [hD,p0_,q2_,q5_,q8_,q9_,q10_,cq,oT] at ht hs
    subst ht
    refine Qaz rfl rfl (v:=v20) rfl rfl (fun _=>rfl) (cells_load (hs.cells 0 rfl) 0 1 rfl) (g_d rfl ?_)
    try dsimp only [set0,setS]
    refine hk _ _ ⟨O,?_,hs.cast ?_⟩<;>simp only [oT,lq,cq,Nat.reduceBEq,p0_,q2_,q5_,q8_,q9_,q10_]
   ·
    rintro D t w hD hp hcl ⟨O,ht,hs⟩ rest hk
    obtain ⟨p1_,_⟩:=hp
    obtain ⟨p0_,_⟩:=(hcl.get 1 (by decide)) p1_
    have q5_:=nz hcl 5 1 hD
    have q8_:=nz hcl 8 1 q5_
    have q9_:=nz hcl 9 0 hD
    have q10_:=nz hcl 10 0 q9_
    simp only [hD,p0_,p1_,q5_,q8_,q9_,q10_,cq,oT] at ht hs
    subst ht
    refine QaP (args:=[v20]) rfl rfl (QaT rfl (callFunc_enter Try.func55 rfl rfl) rfl) (QbM.calls (a1:=(r19.get 0 [])) (hs.row 1 rfl) Hr28) ?_
    rintro _ w ⟨rfl,hs2⟩
    have hs:St _ [_,_,_,_,_] _:=hs.call hs2
    refine g_d rfl ?_
    try dsimp only [set0,setS]
    refine hk _ _ ⟨O,?_,hs.cast ?_⟩<;>simp only [oT,lq,cq,Nat.reduceBEq,p0_,p1_,q5_,q8_,q9_,q10_]
   ·
    rintro D t w hD hp hcl ⟨O,ht,hs⟩ rest hk
    have q4_:=nz hcl 4 0 hD
    have q5_:=nz hcl 5 0 q4_
    have q8_:=nz hcl 8 1 q5_
    have q9_:=nz hcl 9 1 q5_
    have q10_:=nz hcl 10 0 q9_
    simp only [hD,q4_,q5_,q8_,q9_,q10_,cq,oT] at ht hs
    subst ht
    refine QbR (m:=1) 1 rfl (by decide) rfl (fun _=>rfl) rfl rfl rfl rfl rfl (g_d rfl ?_)
    try dsimp only [set0,setS]
    refine hk _ _ ⟨O,?_,hs.cast ?_⟩<;>simp only [oT,lq,cq,Nat.reduceBEq,q4_,q5_,q8_,q9_,q10_]
   ·
    rintro D t w hD hp hcl ⟨O,ht,hs⟩ rest hk
    obtain ⟨p3_,_⟩:=hp
    have q5_:=nz hcl 5 0 hD
    have q8_:=nz hcl 8 1 q5_
    have q9_:=nz hcl 9 1 q5_
    have q10_:=nz hcl 10 0 q9_
    simp only [hD,p3_,q5_,q8_,q9_,q10_,cq,oT] at ht hs
    subst ht
    refine Qaz rfl rfl (v:=v21) rfl rfl (fun _=>rfl) (cells_load (hs.cells 0 rfl) 1 1 rfl) (g_d rfl ?_)
    try dsimp only [set0,setS]
    refine hk _ _ ⟨O,?_,hs.cast ?_⟩<;>simp only [oT,lq,cq,Nat.reduceBEq,p3_,q5_,q8_,q9_,q10_]
   ·
    rintro D t w hD hp hcl ⟨O,ht,hs⟩ rest hk
    obtain ⟨p4_,p2_,_⟩:=hp
    obtain ⟨p3_,_⟩:=(hcl.get 4 (by decide)) p4_
    obtain ⟨p1_,_⟩:=(hcl.get 2 (by decide)) p2_
    obtain ⟨p0_,_⟩:=(hcl.get 1 (by decide)) p1_
    have q8_:=nz hcl 8 1 hD
    have q9_:=nz hcl 9 1 hD
    have q10_:=nz hcl 10 0 q9_
    simp only [hD,p0_,p1_,p2_,p3_,p4_,q8_,q9_,q10_,cq,oT] at ht hs
    subst ht
    refine QaP (args:=[v21]) rfl rfl (QaT rfl (callFunc_enter Try.func55 rfl rfl) rfl) (QbM.calls (a1:=(r19.get 1 [])) (hs.row 2 rfl) Hr29) ?_
    rintro _ w ⟨rfl,hs2⟩
    have hs:St _ [_,_,_,_,_] _:=hs.call hs2
    refine g_d rfl ?_
    try dsimp only [set0,setS]
    refine hk _ _ ⟨O,?_,hs.cast ?_⟩<;>simp only [oT,lq,cq,Nat.reduceBEq,p0_,p1_,p2_,p3_,p4_,q8_,q9_,q10_]
   ·
    rintro D t w hD hp hcl ⟨O,ht,hs⟩ rest hk
    have q7_:=nz hcl 7 0 hD
    have q8_:=nz hcl 8 0 q7_
    have q9_:=nz hcl 9 2 q8_
    have q10_:=nz hcl 10 0 q9_
    simp only [hD,q7_,q8_,q9_,q10_,cq,oT] at ht hs
    subst ht
    refine QbR (m:=1) 2 rfl (by decide) rfl (fun _=>rfl) rfl rfl rfl rfl rfl (g_d rfl ?_)
    try dsimp only [set0,setS]
    refine hk _ _ ⟨O,?_,hs.cast ?_⟩<;>simp only [oT,lq,cq,Nat.reduceBEq,q7_,q8_,q9_,q10_]
   ·
    rintro D t w hD hp hcl ⟨O,ht,hs⟩ rest hk
    obtain ⟨p6_,_⟩:=hp
    have q8_:=nz hcl 8 0 hD
    have q9_:=nz hcl 9 2 q8_
    have q10_:=nz hcl 10 0 q9_
    simp only [hD,p6_,q8_,q9_,q10_,cq,oT] at ht hs
    subst ht
    refine Qaz rfl rfl (v:=v22) rfl rfl (fun _=>rfl) (cells_load (hs.cells 0 rfl) 2 1 rfl) (g_d rfl ?_)
    try dsimp only [set0,setS]
    refine hk _ _ ⟨O,?_,hs.cast ?_⟩<;>simp only [oT,lq,cq,Nat.reduceBEq,p6_,q8_,q9_,q10_]
   ·
    rintro D t w hD hp hcl ⟨O,ht,hs⟩ rest hk
    obtain ⟨p7_,p5_,_⟩:=hp
    obtain ⟨p6_,_⟩:=(hcl.get 7 (by decide)) p7_
    obtain ⟨p4_,p2_,_⟩:=(hcl.get 5 (by decide)) p5_
    obtain ⟨p3_,_⟩:=(hcl.get 4 (by decide)) p4_
    obtain ⟨p1_,_⟩:=(hcl.get 2 (by decide)) p2_
    obtain ⟨p0_,_⟩:=(hcl.get 1 (by decide)) p1_
    have q9_:=nz hcl 9 2 hD
    have q10_:=nz hcl 10 0 q9_
    simp only [hD,p0_,p1_,p2_,p3_,p4_,p5_,p6_,p7_,q9_,q10_,cq,oT] at ht hs
    subst ht
    refine QaP (args:=[v22]) rfl rfl (QaT rfl (callFunc_enter Try.func55 rfl rfl) rfl) (QbM.calls (a1:=(r19.get 2 [])) (hs.row 3 rfl) Hr30) ?_
    rintro _ w ⟨rfl,hs2⟩
    have hs:St _ [_,_,_,_,_] _:=hs.call hs2
    refine g_d rfl ?_
    try dsimp only [set0,setS]
    refine hk _ _ ⟨O,?_,hs.cast ?_⟩<;>simp only [oT,lq,cq,Nat.reduceBEq,p0_,p1_,p2_,p3_,p4_,p5_,p6_,p7_,q9_,q10_]
   ·
    rintro D t w hD hp hcl ⟨O,ht,hs⟩ rest hk
    obtain ⟨p2_,p5_,p8_,_⟩:=hp
    obtain ⟨p7_,_,_⟩:=(hcl.get 8 (by decide)) p8_
    obtain ⟨p6_,_⟩:=(hcl.get 7 (by decide)) p7_
    obtain ⟨p4_,_,_⟩:=(hcl.get 5 (by decide)) p5_
    obtain ⟨p3_,_⟩:=(hcl.get 4 (by decide)) p4_
    obtain ⟨p1_,_⟩:=(hcl.get 2 (by decide)) p2_
    obtain ⟨p0_,_⟩:=(hcl.get 1 (by decide)) p1_
    have q10_:=nz hcl 10 0 hD
    simp only [hD,p0_,p1_,p2_,p3_,p4_,p5_,p6_,p7_,p8_,q10_,cq,oT] at ht hs
    subst ht
    refine Qab (v:=int .i64 (mxI (mxI r28 r29) r30)) rfl rfl (QdN rfl rfl rfl rfl) (g_d rfl ?_)
    try dsimp only [set0,setS]
    refine hk _ _ ⟨O,?_,hs.cast ?_⟩<;>simp only [oT,lq,cq,Nat.reduceBEq,p0_,p1_,p2_,p3_,p4_,p5_,p6_,p7_,p8_,q10_]
   ·
    rintro D t w hD hp hcl ⟨O,ht,hs⟩ rest hk
    obtain ⟨p9_,p8_,p0_,p1_,p2_,p3_,p4_,p5_,p6_,p7_,_,_,_⟩:=hp
    simp only [hD,p0_,p1_,p2_,p3_,p4_,p5_,p6_,p7_,p8_,p9_,cq,oT] at ht hs
    subst ht
    refine Qab (v:=int .i64 (mxI (mxI r28 r29) r30)) rfl rfl rfl (g_d rfl ?_)
    try dsimp only [set0,setS]
    refine hk _ _ ⟨O,?_,hs.cast ?_⟩<;>simp only [oT,lq,cq,Nat.reduceBEq,p0_,p1_,p2_,p3_,p4_,p5_,p6_,p7_,p8_,p9_]
   intro D t w hall hI
   obtain ⟨O,ht,hs⟩:=hI
   have p0_:=hall 0 (by decide)
   have p1_:=hall 1 (by decide)
   have p2_:=hall 2 (by decide)
   have p3_:=hall 3 (by decide)
   have p4_:=hall 4 (by decide)
   have p5_:=hall 5 (by decide)
   have p6_:=hall 6 (by decide)
   have p7_:=hall 7 (by decide)
   have p8_:=hall 8 (by decide)
   have p9_:=hall 9 (by decide)
   have p10_:=hall 10 (by decide)
   simp only [p0_,p1_,p2_,p3_,p4_,p5_,p6_,p7_,p8_,p9_,p10_,cq,oT] at ht hs
   subst ht
   refine Qag (Qan [0,1,2,3,4,5,6] rfl ?_)
   refine Qab (v:=int .i64 x14) rfl rfl rfl (g_d rfl ?_)
   refine QaR (B:=decide (x14< 0)) rfl rfl rfl ?_ ?_
   ·
    intro hb
    rw [if_pos (b_dec_t hb)] at H
    refine g_d rfl ?_
    try dsimp only [set0,setS]
    refine Qab (v:=bool true) rfl rfl rfl (g_d rfl (Qal rfl rfl (g_d rfl (Qal rfl rfl (g_d rfl (Qal rfl rfl (g_d rfl ?_)))))))
    refine Qab (v:=bool true) rfl rfl rfl (g_d rfl ?_)
    try dsimp only [set0,setS]
    refine Qaa (Qaw rfl (Qan [0,1,2,3] rfl ?_))
    refine Qab (v:=int .i64 x15) rfl rfl rfl (g_d rfl ?_)
    refine Qab (v:=int .i64 (mxI (mxI r28 r29) r30)) rfl rfl rfl (g_d rfl ?_)
    refine Qab (v:=int .i64 x15) rfl rfl rfl (g_d rfl ?_)
    refine Qab (v:=int .i64 (mxI (mxI r28 r29) r30)) rfl rfl rfl (g_d rfl ?_)
    try dsimp only [set0,setS]
    refine Qaa ?_
    refine Qa5 ?_
    have hs:St _ [] _:=St.take (Γ':=[_,_,_,_,_]) hs
    exact ha _ _ ⟨x15,mxI (mxI r28 r29) r30,H,rfl,hs⟩
   intro hb
   rw [if_neg (b_dec_f hb)] at H
   refine g_d rfl ?_
   refine Qab (v:=bool false) rfl rfl rfl (g_d rfl ?_)
   refine Qab (v:=int .i64 (mxI (mxI r28 r29) r30)) rfl rfl rfl (g_d rfl ?_)
   refine Qab (v:=int .i64 x14) rfl rfl rfl (g_d rfl ?_)
   refine QaR (B:=decide ((mxI (mxI r28 r29) r30)< x14)) rfl rfl rfl ?_ ?_
   ·
    intro hb
    rw [if_pos (b_dec_t hb)] at H
    refine g_d rfl ?_
    try dsimp only [set0,setS]
    refine Qab (v:=bool true) rfl rfl rfl (g_d rfl (Qaa (Qaw rfl (Qan [0,1,2,3] rfl ?_))))
    refine Qab (v:=int .i64 x15) rfl rfl rfl (g_d rfl ?_)
    refine Qab (v:=int .i64 (mxI (mxI r28 r29) r30)) rfl rfl rfl (g_d rfl ?_)
    refine Qab (v:=int .i64 x15) rfl rfl rfl (g_d rfl ?_)
    try dsimp only [set0,setS]
    refine Qab (v:=int .i64 (mxI (mxI r28 r29) r30)) rfl rfl rfl (g_d rfl (Qaa ?_))
    refine Qa5 ?_
    have hs:St _ [] _:=St.take (Γ':=[_,_,_,_,_]) hs
    exact ha _ _ ⟨x15,mxI (mxI r28 r29) r30,H,rfl,hs⟩
   intro hb
   rw [if_neg (b_dec_f hb)] at H
   refine g_d rfl ?_
   try dsimp only [set0,setS]
   refine Qab (v:=bool false) rfl rfl rfl (g_d rfl (Qaa (Qax rfl (QaS ?_))))
   refine Qa5 ?_
   have hs:St _ [] _:=St.take (Γ':=[_,_,_,_,_]) hs
   exact ha _ _ ⟨x13,x14,H,rfl,hs⟩
  intro hb
  rw [if_neg (b_dec_f hb)] at H
  refine g_d rfl ?_
  try dsimp only [set0,setS]
  refine Qaa (Qag (Qax rfl ?_))
  obtain rfl:=QsJ H
  subst Hx1_
  have hs:St _ [] _:=St.take (Γ':=[]) hs
  refine QbG rfl ?_
  exact ha1_ _ _ ⟨x13,x14,Hr1_,rfl,hs⟩
 intro ha
 refine Qan [0,1] rfl ?_
 refine Qab (v:=int .i64 r8) rfl rfl rfl (g_d rfl ?_)
 refine QaR (B:=r8==0) rfl rfl rfl ?_ ?_
 ·
  intro hb
  rw [if_pos (b_beq_t hb)] at H
  refine g_d rfl (Qaa (Qaw rfl (Qan [0,1,2,3,4] rfl ?_)))
  refine Qab (v:=v5) rfl rfl rfl (g_d rfl ?_)
  obtain ⟨r9,Hr9,H⟩:=bind_get H
  refine QaP (args:=[v5]) rfl rfl (QaT rfl (callFunc_enter Try.func54 rfl rfl) rfl) (Qb5.calls (a1:=a4) (hs.rd hr2) Hr9) ?_
  rintro _ w ⟨rfl,hs2⟩
  have hs:St _ [_] _:=hs.call hs2
  refine g_d rfl ?_
  try dsimp only [set0,setS]
  obtain ⟨r10,Hr10,H⟩:=bind_get H
  refine QaP (args:=[int .i64 r9,int .i64 1,int .i64 60]) rfl rfl (QaT rfl (callFunc_enter Try.func31 rfl rfl) rfl) (Qb0.calls (a1:=r9) (a2:=1) (a3:=60) Hr10) ?_
  rintro _ w ⟨rfl,hs2⟩
  have hs:St _ [_] _:=hs.call hs2
  refine g_d rfl ?_
  obtain ⟨r11,Hr11,H⟩:=bind_get H
  refine QaP (args:=[bool r10,int .i64 2]) rfl rfl (QaT rfl (callFunc_enter Try.func53 rfl rfl) rfl) (Qct.calls (a1:=r10) (a2:=2) Hr11) ?_
  rintro _ w ⟨rfl,hs2⟩
  have hs:St _ [_] _:=hs.call hs2
  refine g_d rfl ?_
  try dsimp only [set0,setS]
  refine Qab (v:=int .i64 r11) rfl rfl rfl (g_d rfl (Qaa ?_))
  have hs:St _ [] _:=St.take (Γ':=[_]) hs
  exact ha _ _ ⟨r11,H,rfl,hs⟩
 intro hb
 rw [if_neg (b_beq_f hb)] at H
 refine g_d rfl ?_
 try dsimp only [set0,setS]
 refine Qaa (Qax rfl (QaS ?_))
 have hs:St _ [] _:=St.take (Γ':=[_]) hs
 exact ha _ _ ⟨r8,H,rfl,hs⟩
def QbJ.post (w0:World) (r:(Int×Int)) (v:Value) (w:World):Prop:=v=tuple #[int .i64 r.1,int .i64 r.2]∧St w0 [] w
theorem QbJ.calls {N:Nat} {a1:Qaq} {w0:World} {r:(Int×Int)} (H:QbJ.f N a1=some r):
 Calls Try.prog 26 #[agg (Qae a1).toArray] w0 fun e w=>∃ v,e= .returned v∧QbJ.post w0 r v w:=by
 unfold QbJ.f at H
 have hs:St w0 [] w0:=St.refl w0
 refine calls_of_g (n:=18) Try.func26 rfl rfl ?_
 show G _ _ _ _ [_,_,_,_,_,_,_,_,_,_,_,_,_,_,_,_,_,_,_] _
 refine Qag (Qan [0,1,2] rfl ?_)
 refine Qbw hs rfl rfl (cs:=(Qae a1)) rfl rfl ?_
 intro b2 w hs
 refine Qab (v:=int .i64 0) rfl rfl rfl ?_
 show G _ _ _ _ [_,_,_,_,_,_,_,_,_,_,_,_,_,_,_,_,_,_,_] _
 refine Qab (v:=int .i64 0) rfl rfl rfl (Qaa (Qag (Qag (Qan [0,1,2] rfl ?_))))
 refine QaG rfl rfl (es:=(Qae a1)) rfl rfl (fun _=>rfl) (n:=4) (fun _=>rfl) (QaJ.len _) (cells_all (hs.cells 0 rfl)) ?_
 obtain ⟨r4,Hr4,H⟩:=bind_get H
 refine QaP (args:=[agg (Qae a1).toArray]) rfl rfl (QaT rfl (callFunc_enter Try.func21 rfl rfl) rfl) (Qbr.calls (a1:=a1) Hr4) ?_
 rintro _ w ⟨rfl,hs2⟩
 have hs:St _ [_] _:=hs.call hs2
 cases r4 with
 |true=>
  rw [if_pos rfl] at H
  show G _ _ _ _ [_,_,_,_,_,_,_,_,_,_,_,_,_,_,_,_,_,_,_] _
  refine Qab (v:=bool false) rfl rfl rfl (Qaa (Qax rfl (QaS (Qag (Qan [0] rfl ?_)))))
  refine Qab (v:=int .i64 0) rfl rfl rfl (Qaa (Qag (Qag (Qan [0] rfl ?_))))
  refine Qab (v:=int .i64 1) rfl rfl rfl ?_
  show G _ _ _ _ [_,_,_,_,_,_,_,_,_,_,_,_,_,_,_,_,_,_,_] _
  refine Qaa ?_
  obtain ⟨o1_,Ho,Hr1_⟩:=bind_get H
  refine Qa2 (J:=fun t w=>∃ x11:Int,QbJ.a0 N x11=some r∧Fr t (fun O=>([O 0,O 1,O 2,O 3,int .i64 x11,O 5,O 6,O 7,O 8,O 9,O 10,O 11,O 12,O 13,O 14,O 15,O 16,O 17,O 18]:List Value))∧St w0 [] w) ?_ ?_
  ·
   rintro t w ⟨x11,H,hf,hs⟩
   obtain ⟨O,rfl⟩:=hf.open
   show G _ _ _ _ [_,_,_,_,_,_,_,_,_,_,_,_,_,_,_,_,_,_,_] _
   unfold QbJ.a0 at H
   refine Qag (Qan [0,1,2] rfl ?_)
   refine Qab (v:=int .i64 x11) rfl rfl rfl ?_
   refine Qab (v:=int .i64 x11) rfl rfl rfl ?_
   refine Qab (v:=int .i64 0) rfl rfl rfl ?_
   show G _ _ _ _ [_,_,_,_,_,_,_,_,_,_,_,_,_,_,_,_,_,_,_] _
   refine Qaa ?_
   obtain rfl:=QsJ H
   refine QaK Try.func26 (v:=tuple #[int .i64 x11,int .i64 0]) (resN (l:=Try.f26.results.toList) (vs:=[int .i64 x11,int .i64 0]) rfl ⟨rfl,rfl,trivial⟩ (by simp)) ?_
   have hs:St _ [] _:=St.take (Γ':=[]) hs
   exact ⟨_,rfl,rfl,hs⟩
  intro ha1_
  have hs:=hs.pull 0 rfl
  have hs:St _ [_] _:=St.take (Γ':=[]) hs
  refine Qbk (I:=fun n_ t w=>∃ x5:Int,∃ x6:Int,rounds (fun s=>QbJ.b0 N a1 s.1 s.2) n_ (x5,x6)=some o1_∧Fr t (fun O=>([O 0,pointer (some ⟨b2,0,none⟩),O 2,O 3,int .i64 x5,int .i64 x6,O 6,O 7,O 8,O 9,O 10,O 11,O 12,O 13,O 14,O 15,O 16,O 17,O 18]:List Value))∧St w0 [Cells b2 (Qae a1) 27] w) N ⟨0,1,Ho,rfl,hs⟩ ?_ ?_
  ·
   rintro _ _ ⟨x5,x6,h,_⟩
   exact rounds_zero h
  intro n_ ih1_
  rintro t w ⟨x5,x6,Ho,hf,hs⟩
  obtain ⟨O,rfl⟩:=hf.open
  show G _ _ _ _ [_,_,_,_,_,_,_,_,_,_,_,_,_,_,_,_,_,_,_] _
  obtain ⟨x1_,H,Hx1_⟩:=rounds_succ Ho
  have H:QbJ.b0 N a1 x5 x6=some x1_:=H
  unfold QbJ.b0 at H
  refine Qag (Qag (Qan [0,1,2,3,4] rfl ?_))
  refine Qab (v:=int .i64 x6) rfl rfl rfl ?_
  refine QaG rfl rfl (es:=(Qae a1)) rfl rfl (fun _=>rfl) (n:=4) (fun _=>rfl) (QaJ.len _) (cells_all (hs.cells 0 rfl)) ?_
  obtain ⟨r7,Hr7,H⟩:=bind_get H
  refine QaP (args:=[agg (Qae a1).toArray]) rfl rfl (QaT rfl (callFunc_enter Try.func39 rfl rfl) rfl) (QbL.calls (a1:=a1) Hr7) ?_
  intro v8 w hs2
  have hs:St _ [_,_] _:=hs.call hs2
  show G _ _ _ _ [_,_,_,_,_,_,_,_,_,_,_,_,_,_,_,_,_,_,_] _
  obtain ⟨r10,Hr10,H⟩:=bind_get H
  refine QaP (args:=[v8]) rfl rfl (QaT rfl (callFunc_enter Try.func55 rfl rfl) rfl) (QbM.calls (a1:=r7) (hs.row 0 rfl) Hr10) ?_
  rintro _ w ⟨rfl,hs2⟩
  have hs:St _ [_,_] _:=hs.call hs2
  refine QaR (B:=decide (x6< r10)) rfl rfl rfl ?_ ?_
  ·
   intro hb
   rw [if_pos (b_dec_t hb)] at H
   show G _ _ _ _ [_,_,_,_,_,_,_,_,_,_,_,_,_,_,_,_,_,_,_] _
   refine Qaa (Qaw rfl (QaS (Qag ?_)))
   refine QbP (Qan [0,1,2] rfl ?_)
   refine Qab (v:=int .i64 x5) rfl rfl rfl ?_
   refine Qab (v:=int .i64 (i64w (x5+1))) rfl rfl rfl ?_
   refine Qab (v:=int .i64 (i64w (x5+1))) rfl rfl rfl ?_
   show G _ _ _ _ [_,_,_,_,_,_,_,_,_,_,_,_,_,_,_,_,_,_,_] _
   refine Qaa ?_
   refine Qa5 (Qan [0,1,2] rfl ?_)
   refine Qab (v:=int .i64 x6) rfl rfl rfl ?_
   refine Qab (v:=int .i64 (i64w (x6*3))) rfl rfl rfl ?_
   refine Qab (v:=int .i64 (i64w (x6*3))) rfl rfl rfl ?_
   show G _ _ _ _ [_,_,_,_,_,_,_,_,_,_,_,_,_,_,_,_,_,_,_] _
   refine Qaa ?_
   obtain rfl:=QsJ H
   have hs:=hs.pull 1 rfl
   have hs:St _ [_] _:=St.take (Γ':=[_]) hs
   exact ih1_ _ _ ⟨i64w (x5+1),i64w (x6*3),Hx1_,rfl,hs⟩
  intro hb
  rw [if_neg (b_dec_f hb)] at H
  refine Qaa (Qax rfl ?_)
  obtain rfl:=QsJ H
  subst Hx1_
  have hs:St _ [] _:=St.take (Γ':=[_,_]) hs
  refine QbG rfl ?_
  exact ha1_ _ _ ⟨x5,Hr1_,rfl,hs⟩
 |false=>
  rw [if_neg Bool.false_ne_true] at H
  show G _ _ _ _ [_,_,_,_,_,_,_,_,_,_,_,_,_,_,_,_,_,_,_] _
  refine Qab (v:=bool true) rfl rfl rfl (Qaa (Qaw rfl (Qag (Qan [0,1] rfl ?_))))
  refine Qab (v:=int .i64 0) rfl rfl rfl ?_
  refine Qab (v:=int .i64 1) rfl rfl rfl ?_
  show G _ _ _ _ [_,_,_,_,_,_,_,_,_,_,_,_,_,_,_,_,_,_,_] _
  refine Qaa ?_
  obtain rfl:=QsJ H
  refine QaK Try.func26 (v:=tuple #[int .i64 0,int .i64 1]) (resN (l:=Try.f26.results.toList) (vs:=[int .i64 0,int .i64 1]) rfl ⟨rfl,rfl,trivial⟩ (by simp)) ?_
  have hs:St _ [] _:=St.take (Γ':=[_]) hs
  exact ⟨_,rfl,rfl,hs⟩
def Qba.post (w0:World) (r:(Ar (List Int) 4)) (v:Value) (w:World):Prop:=∃ u1:Value,∃ u2:Value,∃ u3:Value,∃ u4:Value,v=agg (([u1,u2,u3,u4]:List Value)).toArray∧St w0 [Row 22 (K.int .i8) u1 (r.get 0 []),Row 22 (K.int .i8) u2 (r.get 1 []),Row 22 (K.int .i8) u3 (r.get 2 []),Row 22 (K.int .i8) u4 (r.get 3 [])] w
theorem Qba.calls {N:Nat} {a1:Qaq} {w0:World} {r:(Ar (List Int) 4)} (H:Qba.f N a1=some r):
 Calls Try.prog 33 #[agg (Qae a1).toArray] w0 fun e w=>∃ v,e= .returned v∧Qba.post w0 r v w:=by
 unfold Qba.f at H
 have hs:St w0 [] w0:=St.refl w0
 refine calls_of_g (n:=32) Try.func33 rfl rfl ?_
 show G _ _ _ _ [_,_,_,_,_,_,_,_,_,_,_,_,_,_,_,_,_,_,_,_,_,_,_,_,_,_,_,_,_,_,_,_,_] _
 refine Qag (Qan [0,1] rfl ?_)
 refine Qbw hs rfl rfl (cs:=(Qae a1)) rfl rfl ?_
 intro b2 w hs
 show G _ _ _ _ [_,_,_,_,_,_,_,_,_,_,_,_,_,_,_,_,_,_,_,_,_,_,_,_,_,_,_,_,_,_,_,_,_] _
 refine QbH hs rfl rfl (z:=(agg #[slice none 0 0,slice none 0 0,slice none 0 0,slice none 0 0])) (cs:=(([slice none 0 0,slice none 0 0,slice none 0 0,slice none 0 0]:List Value))) rfl (fun _=>rfl) rfl ?_
 intro b4 w hs
 refine Qaa (Qag ?_)
 obtain ⟨gd1,H⟩:=ite_get H
 refine QbT ?_
 intro T hT
 refine Qcg (n:=9) rfl [0,1,2,3,4,5,6,7,8] [0,3,4,5,6,7,1,2,8] rfl rfl (Inv:=fun D t w=>∃ b6:Nat,∃ b7:Nat,∃ b9:Nat,∃ O:Nat→Value,t=[agg (Qae a1).toArray,pointer (some ⟨b2,0,none⟩),pointer (some ⟨b4,0,none⟩),cnd (D 6) (pointer (some ⟨b9,0,none⟩)) (O 3),cnd (D 8) (int .i64 (rdL ([1,2,0]:List Int) a1.Qa0 0)) (O 4),O 5,cnd (D 0) (agg (([slice none 0 0,slice none 0 0,slice none 0 0,slice none 0 0]:List Value)).toArray) (O 6),cnd (D 1) (slice (some ⟨b6,0,none⟩) ([1,2,0]:List Int).length b7) (O 7),cnd (D 2) (pointer (some ⟨b2,1,none⟩)) (O 8),cnd (D 3) (int .i8 a1.Qa0) (O 9),cnd (D 4) (pointer (some ((⟨b6,0,none⟩:Addr).add (a1.Qa0.toNat*1)))) (O 10),cnd (D 5) (int .i64 (rdL ([1,2,0]:List Int) a1.Qa0 0)) (O 11),O 12,O 13,O 14,O 15,O 16,O 17,O 18,O 19,O 20,O 21,O 22,O 23,O 24,O 25,O 26,O 27,O 28,O 29,O 30,O 31,O 32]∧St w0 [Asc (D 1) (Row 3 (K.int .i64) (slice (some ⟨b6,0,none⟩) ([1,2,0]:List Int).length b7) ([1,2,0]:List Int)),Asc (D 6) (Cells b9 (([slice none 0 0,slice none 0 0,slice none 0 0,slice none 0 0]:List Value)) 74),Cells b4 (([slice none 0 0,slice none 0 0,slice none 0 0,slice none 0 0]:List Value)) 74,Cells b2 (Qae a1) 27] w) ?_ ⟨⟨⟨⟨⟨⟨⟨⟨⟨trivial,?_⟩,?_⟩,?_⟩,?_⟩,?_⟩,?_⟩,?_⟩,?_⟩,?_⟩ ?_
 ·
  intro w hh hbw
  have hs:=hs.samew hh hbw
  have hs:=hs.emp
  have hs:=hs.emp
  exact ⟨0,0,0,fun i=>T.getD i undef,(by subst hT;rfl),hs⟩
 ·
  rintro D t w hD hp hcl ⟨b6,b7,b9,O,ht,hs⟩ rest hk
  have q7_:=nz hcl 7 1 hD
  have q8_:=nz hcl 8 1 q7_
  simp only [hD,q7_,q8_,cq,oT] at ht hs
  subst ht
  refine Qab (v:=agg (([slice none 0 0,slice none 0 0,slice none 0 0,slice none 0 0]:List Value)).toArray) rfl rfl (Qcr rfl rfl) ?_
  show G _ _ _ _ [_,_,_,_,_,_,_,_,_,_,_,_,_,_,_,_,_,_,_,_,_,_,_,_,_,_,_,_,_,_,_,_,_] _
  refine hk _ _ ⟨b6,b7,b9,O,?_,hs.cast ?_⟩<;>simp only [oT,lq,cq,Nat.reduceBEq,q7_,q8_]
 ·
  rintro D t w hD hp hcl ⟨b6,b7,b9,O,ht,hs⟩ rest hk
  have q4_:=nz hcl 4 0 hD
  have q5_:=nz hcl 5 0 q4_
  have q8_:=nz hcl 8 0 q5_
  simp only [hD,q4_,q5_,q8_,cq,oT] at ht hs
  subst ht
  refine Qdx (fkI .i64) (int .i64) (fun _=>rfl) rfl (ys:=([1,2,0]:List Int)) rfl hs rfl rfl rfl rfl (fun _=>rfl) (zv:=(int .i64 0)) (zc:=(int .i64 0)) (fun _=>rfl) rfl (by simp) (by simp) rfl ?_
  intro vq_ w hs
  obtain ⟨b6,b7,rfl⟩:=own_addr hs (by simp)
  show G _ _ _ _ [_,_,_,_,_,_,_,_,_,_,_,_,_,_,_,_,_,_,_,_,_,_,_,_,_,_,_,_,_,_,_,_,_] _
  have hs:=hs.fill 0 rfl
  refine hk _ _ ⟨b6,b7,b9,O,?_,hs.cast ?_⟩<;>simp only [oT,lq,cq,Nat.reduceBEq,q4_,q5_,q8_]
 ·
  rintro D t w hD hp hcl ⟨b6,b7,b9,O,ht,hs⟩ rest hk
  have q3_:=nz hcl 3 0 hD
  have q4_:=nz hcl 4 1 q3_
  have q5_:=nz hcl 5 0 q4_
  have q8_:=nz hcl 8 0 q5_
  simp only [hD,q3_,q4_,q5_,q8_,cq,oT] at ht hs
  subst ht
  refine Qab (v:=pointer (some ⟨b2,1,none⟩)) rfl rfl rfl ?_
  show G _ _ _ _ [_,_,_,_,_,_,_,_,_,_,_,_,_,_,_,_,_,_,_,_,_,_,_,_,_,_,_,_,_,_,_,_,_] _
  refine hk _ _ ⟨b6,b7,b9,O,?_,hs.cast ?_⟩<;>simp only [oT,lq,cq,Nat.reduceBEq,q3_,q4_,q5_,q8_]
 ·
  rintro D t w hD hp hcl ⟨b6,b7,b9,O,ht,hs⟩ rest hk
  obtain ⟨p2_,_⟩:=hp
  have q4_:=nz hcl 4 1 hD
  have q5_:=nz hcl 5 0 q4_
  have q8_:=nz hcl 8 0 q5_
  simp only [hD,p2_,q4_,q5_,q8_,cq,oT] at ht hs
  subst ht
  refine Qaz rfl rfl (v:=int .i8 a1.Qa0) rfl rfl (fun _=>rfl) (cells_load (hs.cells 3 rfl) 1 1 rfl) ?_
  show G _ _ _ _ [_,_,_,_,_,_,_,_,_,_,_,_,_,_,_,_,_,_,_,_,_,_,_,_,_,_,_,_,_,_,_,_,_] _
  refine hk _ _ ⟨b6,b7,b9,O,?_,hs.cast ?_⟩<;>simp only [oT,lq,cq,Nat.reduceBEq,p2_,q4_,q5_,q8_]
 ·
  rintro D t w hD hp hcl ⟨b6,b7,b9,O,ht,hs⟩ rest hk
  obtain ⟨p1_,p3_,_⟩:=hp
  obtain ⟨p2_,_⟩:=(hcl.get 3 (by decide)) p3_
  have q5_:=nz hcl 5 0 hD
  have q8_:=nz hcl 8 0 q5_
  simp only [hD,p1_,p2_,p3_,q5_,q8_,cq,oT] at ht hs
  subst ht
  refine QcI (κ:=(K.int .i64)) (m:=1) rfl (hs.row 0 rfl) rfl (fun _=>rfl) gd1.1 gd1.2 rfl rfl rfl rfl rfl rfl ?_
  show G _ _ _ _ [_,_,_,_,_,_,_,_,_,_,_,_,_,_,_,_,_,_,_,_,_,_,_,_,_,_,_,_,_,_,_,_,_] _
  refine hk _ _ ⟨b6,b7,b9,O,?_,hs.cast ?_⟩<;>simp only [oT,lq,cq,Nat.reduceBEq,p1_,p2_,p3_,q5_,q8_]
 ·
  rintro D t w hD hp hcl ⟨b6,b7,b9,O,ht,hs⟩ rest hk
  obtain ⟨p4_,_⟩:=hp
  obtain ⟨p1_,p3_,_⟩:=(hcl.get 4 (by decide)) p4_
  obtain ⟨p2_,_⟩:=(hcl.get 3 (by decide)) p3_
  have q8_:=nz hcl 8 0 hD
  simp only [hD,p1_,p2_,p3_,p4_,q8_,cq,oT] at ht hs
  subst ht
  refine Qaz rfl rfl (v:=int .i64 (rdL ([1,2,0]:List Int) a1.Qa0 0)) rfl rfl (fun _=>rfl) (cellsAt_of (fkI .i64) 0 (hs.row 0 rfl) rfl gd1.1 gd1.2) ?_
  show G _ _ _ _ [_,_,_,_,_,_,_,_,_,_,_,_,_,_,_,_,_,_,_,_,_,_,_,_,_,_,_,_,_,_,_,_,_] _
  refine hk _ _ ⟨b6,b7,b9,O,?_,hs.cast ?_⟩<;>simp only [oT,lq,cq,Nat.reduceBEq,p1_,p2_,p3_,p4_,q8_]
 ·
  rintro D t w hD hp hcl ⟨b6,b7,b9,O,ht,hs⟩ rest hk
  have q7_:=nz hcl 7 0 hD
  have q8_:=nz hcl 8 1 q7_
  simp only [hD,q7_,q8_,cq,oT] at ht hs
  subst ht
  refine QbH hs rfl rfl (z:=(agg #[slice none 0 0,slice none 0 0,slice none 0 0,slice none 0 0])) (cs:=(([slice none 0 0,slice none 0 0,slice none 0 0,slice none 0 0]:List Value))) rfl (fun _=>rfl) rfl ?_
  intro b9 w hs
  show G _ _ _ _ [_,_,_,_,_,_,_,_,_,_,_,_,_,_,_,_,_,_,_,_,_,_,_,_,_,_,_,_,_,_,_,_,_] _
  have hs:=hs.fill 1 rfl
  refine hk _ _ ⟨b6,b7,b9,O,?_,hs.cast ?_⟩<;>simp only [oT,lq,cq,Nat.reduceBEq,q7_,q8_]
 ·
  rintro D t w hD hp hcl ⟨b6,b7,b9,O,ht,hs⟩ rest hk
  obtain ⟨p6_,p0_,_,_,_⟩:=hp
  have q8_:=nz hcl 8 1 hD
  simp only [hD,p0_,p6_,q8_,cq,oT] at ht hs
  subst ht
  have hs:St _ [_,_,_,_] _:=hs.pull 1 rfl
  refine Qa9 (n:=4) hs rfl rfl rfl (vs:=(([slice none 0 0,slice none 0 0,slice none 0 0,slice none 0 0]:List Value))) rfl rfl rfl (fun _=>rfl) rfl (by simp [Value.oneCell']) ?_
  intro w hs
  show G _ _ _ _ [_,_,_,_,_,_,_,_,_,_,_,_,_,_,_,_,_,_,_,_,_,_,_,_,_,_,_,_,_,_,_,_,_] _
  have hs:=hs.push 1 (by simp)
  refine hk _ _ ⟨b6,b7,b9,O,?_,hs.cast ?_⟩<;>simp only [oT,lq,cq,Nat.reduceBEq,p0_,p6_,q8_]
 ·
  rintro D t w hD hp hcl ⟨b6,b7,b9,O,ht,hs⟩ rest hk
  obtain ⟨p5_,p7_,p0_,p1_,p2_,p3_,p4_,_,p6_,_,_⟩:=hp
  simp only [hD,p0_,p1_,p2_,p3_,p4_,p5_,p6_,p7_,cq,oT] at ht hs
  subst ht
  refine Qab (v:=int .i64 (rdL ([1,2,0]:List Int) a1.Qa0 0)) rfl rfl rfl ?_
  show G _ _ _ _ [_,_,_,_,_,_,_,_,_,_,_,_,_,_,_,_,_,_,_,_,_,_,_,_,_,_,_,_,_,_,_,_,_] _
  refine hk _ _ ⟨b6,b7,b9,O,?_,hs.cast ?_⟩<;>simp only [oT,lq,cq,Nat.reduceBEq,p0_,p1_,p2_,p3_,p4_,p5_,p6_,p7_]
 intro D t w hall hI
 obtain ⟨b6,b7,b9,O,ht,hs⟩:=hI
 have p0_:=hall 0 (by decide)
 have p1_:=hall 1 (by decide)
 have p2_:=hall 2 (by decide)
 have p3_:=hall 3 (by decide)
 have p4_:=hall 4 (by decide)
 have p5_:=hall 5 (by decide)
 have p6_:=hall 6 (by decide)
 have p7_:=hall 7 (by decide)
 have p8_:=hall 8 (by decide)
 simp only [p0_,p1_,p2_,p3_,p4_,p5_,p6_,p7_,p8_,cq,oT] at ht hs
 subst ht
 refine Qag (Qag (Qan [0,1,2] rfl ?_))
 refine Qab (v:=pointer (some ⟨b2,0,none⟩)) rfl rfl rfl ?_
 refine Qaz rfl rfl (v:=int .i8 a1.QaF) rfl rfl (fun _=>rfl) (cells_load (hs.cells 3 rfl) 0 1 rfl) ?_
 refine Qab (v:=int .i8 0) rfl rfl rfl (Qaa ?_)
 obtain ⟨o1_,Ho,Hr1_⟩:=bind_get H
 refine Qa2 (J:=fun t w=>∃ v87:Value,∃ x88:(List Int),∃ v90:Value,∃ x91:(List Int),∃ v93:Value,∃ x94:(List Int),∃ v96:Value,∃ x97:(List Int),Qba.a0 N a1 x88 x91 x94 x97=some r∧Fr t (fun O=>([O 0,pointer (some ⟨b2,0,none⟩),pointer (some ⟨b4,0,none⟩),pointer (some ⟨b9,0,none⟩),O 4,O 5,O 6,O 7,O 8,O 9,O 10,O 11,O 12,O 13,O 14,O 15,O 16,O 17,O 18,O 19,O 20,O 21,O 22,O 23,O 24,O 25,O 26,O 27,O 28,O 29,O 30,O 31,O 32]:List Value))∧St w0 [Cells b2 (Qae a1) 27,Cells b4 (([slice none 0 0,slice none 0 0,slice none 0 0,slice none 0 0]:List Value)) 74,Cells b9 (([v87,v90,v93,v96]:List Value)) 74,Row 22 (K.int .i8) v87 x88,Row 22 (K.int .i8) v90 x91,Row 22 (K.int .i8) v93 x94,Row 22 (K.int .i8) v96 x97] w) ?_ ?_
 ·
  rintro t w ⟨v87,x88,v90,x91,v93,x94,v96,x97,H,hf,hs⟩
  obtain ⟨O,rfl⟩:=hf.open
  show G _ _ _ _ [_,_,_,_,_,_,_,_,_,_,_,_,_,_,_,_,_,_,_,_,_,_,_,_,_,_,_,_,_,_,_,_,_] _
  unfold Qba.a0 at H
  refine Qag (Qag (Qan [0,1] rfl ?_))
  refine Qab (v:=pointer (some ⟨b2,3,none⟩)) rfl rfl rfl ?_
  by_cases hb10_:a1.QbI=true
  ·
   rw [if_pos hb10_] at H
   refine Qaz rfl rfl (v:=bool true) rfl rfl (fun _=>rfl) (cells_load (hs.cells 0 rfl) 3 1 (Eq.trans (b:=[bool a1.QbI]) rfl (congrArg (fun b=>[bool b]) hb10_))) (Qaa (Qaw rfl (Qan [0,1,2,3,4] rfl ?_)))
   refine Qab (v:=pointer (some ⟨b2,0,none⟩)) rfl rfl rfl ?_
   refine Qaz rfl rfl (v:=int .i8 a1.QaF) rfl rfl (fun _=>rfl) (cells_load (hs.cells 0 rfl) 0 1 rfl) ?_
   show G _ _ _ _ [_,_,_,_,_,_,_,_,_,_,_,_,_,_,_,_,_,_,_,_,_,_,_,_,_,_,_,_,_,_,_,_,_] _
   refine Qcx (fkI .i8) (y:=a1.QaF) hs rfl rfl rfl rfl (fun _=>rfl) (zv:=(int .i8 0)) (fun _=>rfl) rfl (by decide) (by decide) rfl ?_
   intro v99 w hs
   refine QbR (m:=1) 3 rfl (by decide) rfl (fun _=>rfl) rfl rfl rfl rfl rfl ?_
   have hs:St _ [_,_,_,_,_,_,_,_] _:=hs.pull 3 rfl
   refine Qb8 hs rfl rfl (vs:=[v99]) (cs':=(([v87,v90,v93,v99]:List Value))) rfl rfl (slCells (hs.row 1 rfl)) (n:=1) (fun _=>rfl) rfl (by first|exact Nat.le_of_ble_eq_true rfl|simp [encAI_len,encAB_len,encA_len]) (by intro v hv;simp only [List.mem_cons,List.not_mem_nil,or_false] at hv;subst hv;exact slOne (hs.row 1 rfl)) rfl ?_
   intro w hs
   refine Qaa (Qag (Qan [0,1] rfl ?_))
   refine QaG rfl rfl (es:=(([v87,v90,v93,v99]:List Value))) rfl rfl (fun _=>rfl) (n:=4) (fun _=>rfl) rfl (cells_all (hs.cells 0 rfl)) ?_
   show G _ _ _ _ [_,_,_,_,_,_,_,_,_,_,_,_,_,_,_,_,_,_,_,_,_,_,_,_,_,_,_,_,_,_,_,_,_] _
   have hs:St _ [_,_,_,_,_,_,_,_] _:=hs.pull 3 rfl
   refine Qa9 (n:=4) hs rfl rfl rfl (vs:=(([v87,v90,v93,v99]:List Value))) rfl rfl rfl (fun _=>rfl) rfl (by intro v hv;simp only [List.mem_append,List.mem_cons,List.not_mem_nil,or_false] at hv;repeat (first|(subst hv;first|rfl|exact slOne (hs.row 4 rfl)|exact slOne (hs.row 5 rfl)|exact slOne (hs.row 6 rfl)|exact slOne (hs.row 2 rfl))|(rcases hv with hv|hv))) ?_
   intro w hs
   refine Qaa ?_
   obtain rfl:=QsJ H
   refine QaK Try.func33 (v:=agg (([v87,v90,v93,v99]:List Value)).toArray) (resC rfl ⟨⟨_,rfl,(run_loadVar_agg (es:=(([v87,v90,v93,v99]:List Value))) rfl rfl (cells_all (hs.cells 0 rfl)))⟩,trivial⟩) ?_
   have hs:=hs.pull 2 rfl
   have hs:=hs.pull 6 rfl
   have hs:=hs.pull 6 rfl
   have hs:=hs.pull 6 rfl
   have hs:St _ [_,_,_,_] _:=St.take (Γ':=[_,_,_,_]) hs
   exact ⟨_,rfl,v87,v90,v93,v99,rfl,hs⟩
  rw [if_neg hb10_] at H
  refine Qaz rfl rfl (v:=bool false) rfl rfl (fun _=>rfl) (cells_load (hs.cells 0 rfl) 3 1 (Eq.trans (b:=[bool a1.QbI]) rfl (congrArg (fun b=>[bool b]) (Bool.eq_false_iff.2 hb10_)))) (Qaa (Qax rfl (QaS (Qag (Qan [0,1] rfl ?_)))))
  refine QaG rfl rfl (es:=(([v87,v90,v93,v96]:List Value))) rfl rfl (fun _=>rfl) (n:=4) (fun _=>rfl) rfl (cells_all (hs.cells 2 rfl)) ?_
  show G _ _ _ _ [_,_,_,_,_,_,_,_,_,_,_,_,_,_,_,_,_,_,_,_,_,_,_,_,_,_,_,_,_,_,_,_,_] _
  have hs:St _ [_,_,_,_,_,_,_] _:=hs.pull 1 rfl
  refine Qa9 (n:=4) hs rfl rfl rfl (vs:=(([v87,v90,v93,v96]:List Value))) rfl rfl rfl (fun _=>rfl) rfl (by intro v hv;simp only [List.mem_append,List.mem_cons,List.not_mem_nil,or_false] at hv;repeat (first|(subst hv;first|rfl|exact slOne (hs.row 3 rfl)|exact slOne (hs.row 4 rfl)|exact slOne (hs.row 5 rfl)|exact slOne (hs.row 6 rfl))|(rcases hv with hv|hv))) ?_
  intro w hs
  refine Qaa ?_
  obtain rfl:=QsJ H
  refine QaK Try.func33 (v:=agg (([v87,v90,v93,v96]:List Value)).toArray) (resC rfl ⟨⟨_,rfl,(run_loadVar_agg (es:=(([v87,v90,v93,v96]:List Value))) rfl rfl (cells_all (hs.cells 0 rfl)))⟩,trivial⟩) ?_
  have hs:=hs.pull 6 rfl
  have hs:=hs.pull 6 rfl
  have hs:=hs.pull 6 rfl
  have hs:=hs.pull 6 rfl
  have hs:St _ [_,_,_,_] _:=St.take (Γ':=[_,_,_]) hs
  exact ⟨_,rfl,v87,v90,v93,v96,rfl,hs⟩
 intro ha1_
 have hs:=hs.nil 22 (K.int .i8)
 have hs:=hs.nil 22 (K.int .i8)
 have hs:=hs.nil 22 (K.int .i8)
 have hs:=hs.nil 22 (K.int .i8)
 have hs:=hs.pull 5 rfl
 have hs:=hs.pull 1 rfl
 have hs:=hs.pull 2 rfl
 have hs:=hs.pull 3 rfl
 have hs:=hs.pull 4 rfl
 have hs:=hs.pull 6 rfl
 have hs:=hs.pull 7 rfl
 have hs:St _ [_,_,_,_,_,_,_] _:=St.take (Γ':=[_]) hs
 refine Qbk (I:=fun n_ t w=>∃ v47:Value,∃ x48:(List Int),∃ v50:Value,∃ x51:(List Int),∃ v53:Value,∃ x54:(List Int),∃ v56:Value,∃ x57:(List Int),∃ x58:Int,rounds (fun s=>Qba.b0 N a1 s.1 s.2.1 s.2.2.1 s.2.2.2.1 s.2.2.2.2) n_ (x48,x51,x54,x57,x58)=some o1_∧Fr t (fun O=>([O 0,pointer (some ⟨b2,0,none⟩),pointer (some ⟨b4,0,none⟩),pointer (some ⟨b9,0,none⟩),int .i64 (rdL ([1,2,0]:List Int) a1.Qa0 0),O 5,O 6,O 7,O 8,O 9,O 10,O 11,O 12,int .i8 a1.QaF,int .i8 x58,O 15,O 16,O 17,O 18,O 19,O 20,O 21,O 22,O 23,O 24,O 25,O 26,O 27,O 28,O 29,O 30,O 31,O 32]:List Value))∧St w0 [Cells b2 (Qae a1) 27,Cells b4 (([slice none 0 0,slice none 0 0,slice none 0 0,slice none 0 0]:List Value)) 74,Row 22 (K.int .i8) v47 x48,Row 22 (K.int .i8) v50 x51,Row 22 (K.int .i8) v53 x54,Row 22 (K.int .i8) v56 x57,Cells b9 (([v47,v50,v53,v56]:List Value)) 74] w) N ⟨slice none 0 0,[],slice none 0 0,[],slice none 0 0,[],slice none 0 0,[],0,Ho,rfl,hs⟩ ?_ ?_
 ·
  rintro _ _ ⟨v47,x48,v50,x51,v53,x54,v56,x57,x58,h,_⟩
  exact rounds_zero h
 intro n_ ih1_
 rintro t w ⟨v47,x48,v50,x51,v53,x54,v56,x57,x58,Ho,hf,hs⟩
 obtain ⟨O,rfl⟩:=hf.open
 show G _ _ _ _ [_,_,_,_,_,_,_,_,_,_,_,_,_,_,_,_,_,_,_,_,_,_,_,_,_,_,_,_,_,_,_,_,_] _
 obtain ⟨x11_,H,Hx1_⟩:=rounds_succ Ho
 have H:Qba.b0 N a1 x48 x51 x54 x57 x58=some x11_:=H
 unfold Qba.b0 at H
 refine Qag (Qan [0] rfl ?_)
 refine QaR (B:=decide (x58< a1.QaF)) rfl rfl rfl ?_ ?_
 ·
  intro hb
  rw [if_pos (b_dec_t hb)] at H
  refine Qaa (Qag (Qaw rfl (QaS (Qag ?_))))
  refine Qa2 (J:=(fun t w=>∃ v75:Value,∃ x76:(List Int),∃ v78:Value,∃ x79:(List Int),∃ v81:Value,∃ x82:(List Int),∃ v84:Value,∃ x85:(List Int),Qba.j2 N x58 x76 x79 x82 x85=some x11_∧Fr t (fun O=>([O 0,pointer (some ⟨b2,0,none⟩),pointer (some ⟨b4,0,none⟩),pointer (some ⟨b9,0,none⟩),int .i64 (rdL ([1,2,0]:List Int) a1.Qa0 0),O 5,O 6,O 7,O 8,O 9,O 10,O 11,O 12,int .i8 a1.QaF,int .i8 x58,O 15,O 16,O 17,O 18,O 19,O 20,O 21,O 22,O 23,O 24,O 25,O 26,O 27,O 28,O 29,O 30,O 31,O 32]:List Value))∧St w0 [Cells b2 (Qae a1) 27,Cells b4 (([slice none 0 0,slice none 0 0,slice none 0 0,slice none 0 0]:List Value)) 74,Cells b9 (([v75,v78,v81,v84]:List Value)) 74,Row 22 (K.int .i8) v75 x76,Row 22 (K.int .i8) v78 x79,Row 22 (K.int .i8) v81 x82,Row 22 (K.int .i8) v84 x85] w)) ?_ ?_
  ·
   rintro t w ⟨v75,x76,v78,x79,v81,x82,v84,x85,H,hf,hs⟩
   obtain ⟨O,rfl⟩:=hf.open
   show G _ _ _ _ [_,_,_,_,_,_,_,_,_,_,_,_,_,_,_,_,_,_,_,_,_,_,_,_,_,_,_,_,_,_,_,_,_] _
   unfold Qba.j2 at H
   refine Qan [0,1] rfl ?_
   refine Qab (v:=int .i8 (i8w (x58+1))) rfl rfl rfl ?_
   show G _ _ _ _ [_,_,_,_,_,_,_,_,_,_,_,_,_,_,_,_,_,_,_,_,_,_,_,_,_,_,_,_,_,_,_,_,_] _
   refine Qab (v:=int .i8 (i8w (x58+1))) rfl rfl rfl (Qaa ?_)
   obtain rfl:=QsJ H
   have hs:=hs.pull 2 rfl
   have hs:=hs.pull 6 rfl
   have hs:=hs.pull 6 rfl
   have hs:=hs.pull 6 rfl
   have hs:=hs.pull 6 rfl
   have hs:=hs.pull 6 rfl
   have hs:=hs.pull 6 rfl
   have hs:St _ [_,_,_,_,_,_,_] _:=St.take (Γ':=[]) hs
   exact ih1_ _ _ ⟨v75,x76,v78,x79,v81,x82,v84,x85,i8w (x58+1),Hx1_,rfl,hs⟩
  intro ha
  refine Qag (Qan [0,1] rfl ?_)
  refine Qab (v:=int .i8 x58) rfl rfl rfl ?_
  refine Qab (v:=int .i8 x58) rfl rfl rfl (Qaa ?_)
  by_cases hk6_:rdL ([1,2,0]:List Int) a1.Qa0 0=0
  ·
   rw [if_pos hk6_] at H
   refine Qan [0,1,2,3,4,5,6,7,8] rfl ?_
   refine Qab (v:=int .i64 (rdL ([1,2,0]:List Int) a1.Qa0 0)) rfl rfl rfl ?_
   refine Qab (v:=int .i64 (rdL ([1,2,0]:List Int) a1.Qa0 0)) rfl rfl rfl ?_
   refine QbR (m:=1) 0 hk6_ (by decide) rfl (fun _=>rfl) rfl rfl rfl rfl rfl ?_
   show G _ _ _ _ [_,_,_,_,_,_,_,_,_,_,_,_,_,_,_,_,_,_,_,_,_,_,_,_,_,_,_,_,_,_,_,_,_] _
   refine Qaz rfl rfl (v:=v47) rfl rfl (fun _=>rfl) (cells_load (hs.cells 6 rfl) 0 1 rfl) ?_
   refine Qab (v:=int .i8 x58) rfl rfl rfl ?_
   show G _ _ _ _ [_,_,_,_,_,_,_,_,_,_,_,_,_,_,_,_,_,_,_,_,_,_,_,_,_,_,_,_,_,_,_,_,_] _
   refine Qcx (fkI .i8) (y:=x58) hs rfl rfl rfl rfl (fun _=>rfl) (zv:=(int .i8 0)) (fun _=>rfl) rfl (by decide) (by decide) rfl ?_
   intro v59 w hs
   show G _ _ _ _ [_,_,_,_,_,_,_,_,_,_,_,_,_,_,_,_,_,_,_,_,_,_,_,_,_,_,_,_,_,_,_,_,_] _
   have hs:St _ [_,_,_,_,_,_,_,_] _:=hs.pull 3 rfl
   obtain ⟨g,H⟩:=ite_get H
   refine Qcf (fkI .i8) (zv:=(int .i8 0)) (B:=1) hs (hs.row 1 rfl) rfl rfl rfl rfl rfl rfl rfl rfl rfl (by decide) rfl rfl (by decide) (by omega) ?_
   intro v61 w hs
   refine QbR (m:=1) 0 hk6_ (by decide) rfl (fun _=>rfl) rfl rfl rfl rfl rfl ?_
   have hs:St _ [_,_,_,_,_,_,_,_] _:=hs.pull 7 rfl
   refine Qb8 hs rfl rfl (vs:=[v61]) (cs':=(([v61,v50,v53,v56]:List Value))) rfl rfl (slCells (hs.row 1 rfl)) (n:=1) (fun _=>rfl) rfl (by first|exact Nat.le_of_ble_eq_true rfl|simp [encAI_len,encAB_len,encA_len]) (by intro v hv;simp only [List.mem_cons,List.not_mem_nil,or_false] at hv;subst hv;exact slOne (hs.row 1 rfl)) rfl ?_
   intro w hs
   refine Qaa ?_
   refine Qa5 ?_
   have hs:=hs.pull 7 rfl
   have hs:=hs.pull 7 rfl
   have hs:=hs.pull 7 rfl
   have hs:=hs.pull 4 rfl
   have hs:=hs.pull 4 rfl
   have hs:=hs.pull 7 rfl
   have hs:=hs.pull 7 rfl
   have hs:St _ [_,_,_,_,_,_,_] _:=St.take (Γ':=[_]) hs
   exact ha _ _ ⟨v61,x48++([x58]),v50,x51,v53,x54,v56,x57,H,rfl,hs⟩
  rw [if_neg hk6_] at H
  by_cases hk7_:rdL ([1,2,0]:List Int) a1.Qa0 0=1
  ·
   rw [if_pos hk7_] at H
   refine Qan [0,1,2,3,4,5,6,7,8] rfl ?_
   refine Qab (v:=int .i64 (rdL ([1,2,0]:List Int) a1.Qa0 0)) rfl rfl rfl ?_
   refine Qab (v:=int .i64 (rdL ([1,2,0]:List Int) a1.Qa0 0)) rfl rfl rfl ?_
   refine QbR (m:=1) 1 hk7_ (by decide) rfl (fun _=>rfl) rfl rfl rfl rfl rfl ?_
   show G _ _ _ _ [_,_,_,_,_,_,_,_,_,_,_,_,_,_,_,_,_,_,_,_,_,_,_,_,_,_,_,_,_,_,_,_,_] _
   refine Qaz rfl rfl (v:=v50) rfl rfl (fun _=>rfl) (cells_load (hs.cells 6 rfl) 1 1 rfl) ?_
   refine Qab (v:=int .i8 x58) rfl rfl rfl ?_
   show G _ _ _ _ [_,_,_,_,_,_,_,_,_,_,_,_,_,_,_,_,_,_,_,_,_,_,_,_,_,_,_,_,_,_,_,_,_] _
   refine Qcx (fkI .i8) (y:=x58) hs rfl rfl rfl rfl (fun _=>rfl) (zv:=(int .i8 0)) (fun _=>rfl) rfl (by decide) (by decide) rfl ?_
   intro v63 w hs
   show G _ _ _ _ [_,_,_,_,_,_,_,_,_,_,_,_,_,_,_,_,_,_,_,_,_,_,_,_,_,_,_,_,_,_,_,_,_] _
   have hs:St _ [_,_,_,_,_,_,_,_] _:=hs.pull 4 rfl
   obtain ⟨g,H⟩:=ite_get H
   refine Qcf (fkI .i8) (zv:=(int .i8 0)) (B:=1) hs (hs.row 1 rfl) rfl rfl rfl rfl rfl rfl rfl rfl rfl (by decide) rfl rfl (by decide) (by omega) ?_
   intro v65 w hs
   refine QbR (m:=1) 1 hk7_ (by decide) rfl (fun _=>rfl) rfl rfl rfl rfl rfl ?_
   have hs:St _ [_,_,_,_,_,_,_,_] _:=hs.pull 7 rfl
   refine Qb8 hs rfl rfl (vs:=[v65]) (cs':=(([v47,v65,v53,v56]:List Value))) rfl rfl (slCells (hs.row 1 rfl)) (n:=1) (fun _=>rfl) rfl (by first|exact Nat.le_of_ble_eq_true rfl|simp [encAI_len,encAB_len,encA_len]) (by intro v hv;simp only [List.mem_cons,List.not_mem_nil,or_false] at hv;subst hv;exact slOne (hs.row 1 rfl)) rfl ?_
   intro w hs
   refine Qaa ?_
   refine Qa5 ?_
   have hs:=hs.pull 7 rfl
   have hs:=hs.pull 7 rfl
   have hs:=hs.pull 3 rfl
   have hs:=hs.pull 7 rfl
   have hs:=hs.pull 4 rfl
   have hs:=hs.pull 7 rfl
   have hs:=hs.pull 7 rfl
   have hs:St _ [_,_,_,_,_,_,_] _:=St.take (Γ':=[_]) hs
   exact ha _ _ ⟨v47,x48,v65,x51++([x58]),v53,x54,v56,x57,H,rfl,hs⟩
  rw [if_neg hk7_] at H
  by_cases hk8_:rdL ([1,2,0]:List Int) a1.Qa0 0=2
  ·
   rw [if_pos hk8_] at H
   refine Qan [0,1,2,3,4,5,6,7,8] rfl ?_
   refine Qab (v:=int .i64 (rdL ([1,2,0]:List Int) a1.Qa0 0)) rfl rfl rfl ?_
   refine Qab (v:=int .i64 (rdL ([1,2,0]:List Int) a1.Qa0 0)) rfl rfl rfl ?_
   refine QbR (m:=1) 2 hk8_ (by decide) rfl (fun _=>rfl) rfl rfl rfl rfl rfl ?_
   show G _ _ _ _ [_,_,_,_,_,_,_,_,_,_,_,_,_,_,_,_,_,_,_,_,_,_,_,_,_,_,_,_,_,_,_,_,_] _
   refine Qaz rfl rfl (v:=v53) rfl rfl (fun _=>rfl) (cells_load (hs.cells 6 rfl) 2 1 rfl) ?_
   refine Qab (v:=int .i8 x58) rfl rfl rfl ?_
   show G _ _ _ _ [_,_,_,_,_,_,_,_,_,_,_,_,_,_,_,_,_,_,_,_,_,_,_,_,_,_,_,_,_,_,_,_,_] _
   refine Qcx (fkI .i8) (y:=x58) hs rfl rfl rfl rfl (fun _=>rfl) (zv:=(int .i8 0)) (fun _=>rfl) rfl (by decide) (by decide) rfl ?_
   intro v67 w hs
   show G _ _ _ _ [_,_,_,_,_,_,_,_,_,_,_,_,_,_,_,_,_,_,_,_,_,_,_,_,_,_,_,_,_,_,_,_,_] _
   have hs:St _ [_,_,_,_,_,_,_,_] _:=hs.pull 5 rfl
   obtain ⟨g,H⟩:=ite_get H
   refine Qcf (fkI .i8) (zv:=(int .i8 0)) (B:=1) hs (hs.row 1 rfl) rfl rfl rfl rfl rfl rfl rfl rfl rfl (by decide) rfl rfl (by decide) (by omega) ?_
   intro v69 w hs
   refine QbR (m:=1) 2 hk8_ (by decide) rfl (fun _=>rfl) rfl rfl rfl rfl rfl ?_
   have hs:St _ [_,_,_,_,_,_,_,_] _:=hs.pull 7 rfl
   refine Qb8 hs rfl rfl (vs:=[v69]) (cs':=(([v47,v50,v69,v56]:List Value))) rfl rfl (slCells (hs.row 1 rfl)) (n:=1) (fun _=>rfl) rfl (by first|exact Nat.le_of_ble_eq_true rfl|simp [encAI_len,encAB_len,encA_len]) (by intro v hv;simp only [List.mem_cons,List.not_mem_nil,or_false] at hv;subst hv;exact slOne (hs.row 1 rfl)) rfl ?_
   intro w hs
   refine Qaa ?_
   refine Qa5 ?_
   have hs:=hs.pull 7 rfl
   have hs:=hs.pull 2 rfl
   have hs:=hs.pull 7 rfl
   have hs:=hs.pull 7 rfl
   have hs:=hs.pull 4 rfl
   have hs:=hs.pull 7 rfl
   have hs:=hs.pull 7 rfl
   have hs:St _ [_,_,_,_,_,_,_] _:=St.take (Γ':=[_]) hs
   exact ha _ _ ⟨v47,x48,v50,x51,v69,x54++([x58]),v56,x57,H,rfl,hs⟩
  rw [if_neg hk8_] at H
  by_cases hk9_:rdL ([1,2,0]:List Int) a1.Qa0 0=3
  ·
   rw [if_pos hk9_] at H
   refine Qan [0,1,2,3,4,5,6,7,8] rfl ?_
   refine Qab (v:=int .i64 (rdL ([1,2,0]:List Int) a1.Qa0 0)) rfl rfl rfl ?_
   refine Qab (v:=int .i64 (rdL ([1,2,0]:List Int) a1.Qa0 0)) rfl rfl rfl ?_
   refine QbR (m:=1) 3 hk9_ (by decide) rfl (fun _=>rfl) rfl rfl rfl rfl rfl ?_
   show G _ _ _ _ [_,_,_,_,_,_,_,_,_,_,_,_,_,_,_,_,_,_,_,_,_,_,_,_,_,_,_,_,_,_,_,_,_] _
   refine Qaz rfl rfl (v:=v56) rfl rfl (fun _=>rfl) (cells_load (hs.cells 6 rfl) 3 1 rfl) ?_
   refine Qab (v:=int .i8 x58) rfl rfl rfl ?_
   show G _ _ _ _ [_,_,_,_,_,_,_,_,_,_,_,_,_,_,_,_,_,_,_,_,_,_,_,_,_,_,_,_,_,_,_,_,_] _
   refine Qcx (fkI .i8) (y:=x58) hs rfl rfl rfl rfl (fun _=>rfl) (zv:=(int .i8 0)) (fun _=>rfl) rfl (by decide) (by decide) rfl ?_
   intro v71 w hs
   show G _ _ _ _ [_,_,_,_,_,_,_,_,_,_,_,_,_,_,_,_,_,_,_,_,_,_,_,_,_,_,_,_,_,_,_,_,_] _
   have hs:St _ [_,_,_,_,_,_,_,_] _:=hs.pull 6 rfl
   obtain ⟨g,H⟩:=ite_get H
   refine Qcf (fkI .i8) (zv:=(int .i8 0)) (B:=1) hs (hs.row 1 rfl) rfl rfl rfl rfl rfl rfl rfl rfl rfl (by decide) rfl rfl (by decide) (by omega) ?_
   intro v73 w hs
   refine QbR (m:=1) 3 hk9_ (by decide) rfl (fun _=>rfl) rfl rfl rfl rfl rfl ?_
   have hs:St _ [_,_,_,_,_,_,_,_] _:=hs.pull 7 rfl
   refine Qb8 hs rfl rfl (vs:=[v73]) (cs':=(([v47,v50,v53,v73]:List Value))) rfl rfl (slCells (hs.row 1 rfl)) (n:=1) (fun _=>rfl) rfl (by first|exact Nat.le_of_ble_eq_true rfl|simp [encAI_len,encAB_len,encA_len]) (by intro v hv;simp only [List.mem_cons,List.not_mem_nil,or_false] at hv;subst hv;exact slOne (hs.row 1 rfl)) rfl ?_
   intro w hs
   refine Qaa ?_
   refine Qa5 ?_
   have hs:=hs.pull 1 rfl
   have hs:=hs.pull 7 rfl
   have hs:=hs.pull 7 rfl
   have hs:=hs.pull 7 rfl
   have hs:=hs.pull 4 rfl
   have hs:=hs.pull 7 rfl
   have hs:=hs.pull 7 rfl
   have hs:St _ [_,_,_,_,_,_,_] _:=St.take (Γ':=[_]) hs
   exact ha _ _ ⟨v47,x48,v50,x51,v53,x54,v73,x57++([x58]),H,rfl,hs⟩
  rw [if_neg hk9_] at H
  cases H
 intro hb
 rw [if_neg (b_dec_f hb)] at H
 show G _ _ _ _ [_,_,_,_,_,_,_,_,_,_,_,_,_,_,_,_,_,_,_,_,_,_,_,_,_,_,_,_,_,_,_,_,_] _
 refine Qaa (Qag (Qax rfl ?_))
 obtain rfl:=QsJ H
 subst Hx1_
 have hs:=hs.pull 5 rfl
 have hs:=hs.pull 5 rfl
 have hs:=hs.pull 5 rfl
 have hs:=hs.pull 5 rfl
 have hs:=hs.pull 6 rfl
 have hs:=hs.pull 6 rfl
 have hs:=hs.pull 6 rfl
 have hs:St _ [_,_,_,_,_,_,_] _:=St.take (Γ':=[]) hs
 refine QbG rfl ?_
 exact ha1_ _ _ ⟨v47,x48,v50,x51,v53,x54,v56,x57,Hr1_,rfl,hs⟩
def Qbj.post (w0:World) (r:Qac) (v:Value) (w:World):Prop:=v=agg (Qaf r).toArray∧St w0 [] w
theorem Qbj.calls {N:Nat} {a1:(Ar (List Int) 4)} {a10:Bool} {v2:Value} {v4:Value} {v6:Value} {v8:Value} {w0:World} {r:Qac} (hr3:RdRow (K.int .i8) w0 v2 (a1.get 0 [])) (hr5:RdRow (K.int .i8) w0 v4 (a1.get 1 [])) (hr7:RdRow (K.int .i8) w0 v6 (a1.get 2 [])) (hr9:RdRow (K.int .i8) w0 v8 (a1.get 3 [])) (H:Qbj.f N a1 a10=some r):
 Calls Try.prog 34 #[agg (([v2,v4,v6,v8]:List Value)).toArray,bool a10] w0 fun e w=>∃ v,e= .returned v∧Qbj.post w0 r v w:=by
 unfold Qbj.f at H
 have hs:St w0 [] w0:=St.refl w0
 refine calls_of_g (n:=20) Try.func34 rfl rfl ?_
 show G _ _ _ _ [_,_,_,_,_,_,_,_,_,_,_,_,_,_,_,_,_,_,_,_,_,_] _
 refine Qag (Qan [0,1] rfl ?_)
 refine Qbw hs rfl rfl (cs:=(([v2,v4,v6,v8]:List Value))) rfl rfl ?_
 intro b11 w hs
 refine QbH hs rfl rfl (z:=(agg #[int .i64 0,int .i64 0,int .i64 0,int .i64 0,bool false])) (cs:=(Qaf QbC)) rfl (fun _=>rfl) rfl ?_
 intro b13 w hs
 refine Qaa (Qag (Qan [0,1,2,3] rfl ?_))
 refine Qab (v:=bool a10) rfl rfl rfl ?_
 show G _ _ _ _ [_,_,_,_,_,_,_,_,_,_,_,_,_,_,_,_,_,_,_,_,_,_] _
 refine Qab (v:=agg (Qaf (⟨(Ar.rep 4 0),a10⟩:Qac)).toArray) rfl rfl (Qcn (cs:=(Qaf (⟨(Ar.rep 4 0),a10⟩:Qac))) (segs:=[[int .i64 0,int .i64 0,int .i64 0,int .i64 0],[bool false]]) rfl rfl (fun _=>rfl) ⟨rfl,(fun _=>rfl),rfl,(fun _=>rfl),trivial⟩ (by simp only [List.map_cons,List.map_nil,List.forall_mem_cons,List.not_mem_nil,false_implies,implies_true,and_true];exact ⟨_,rfl,rfl⟩) (by first|rfl|(simp [ev,Qaf];done)|(simp [ev,Qaf];rfl))) ?_
 refine QbH hs rfl rfl (z:=(agg #[int .i64 0,int .i64 0,int .i64 0,int .i64 0,bool false])) (cs:=(Qaf QbC)) rfl (fun _=>rfl) rfl ?_
 intro b15 w hs
 refine Qa9 (n:=5) hs (Qbc.len _) rfl rfl (vs:=(Qaf (⟨(Ar.rep 4 0),a10⟩:Qac))) rfl rfl rfl (fun _=>rfl) (Qbc.len _) (Qbc.one _) ?_
 intro w hs
 refine Qaa (Qag (Qag (Qan [0,1] rfl ?_)))
 refine QaG rfl rfl (es:=(([v2,v4,v6,v8]:List Value))) rfl rfl (fun _=>rfl) (n:=4) (fun _=>rfl) rfl (cells_all (hs.cells 2 rfl)) ?_
 show G _ _ _ _ [_,_,_,_,_,_,_,_,_,_,_,_,_,_,_,_,_,_,_,_,_,_] _
 refine Qab (v:=int .i64 0) rfl rfl rfl (Qaa ?_)
 obtain ⟨o1_,Ho,Hr1_⟩:=bind_get H
 refine Qa2 (J:=fun t w=>∃ x22:Qac,Qbj.a0 N x22=some r∧Fr t (fun O=>([O 0,O 1,O 2,O 3,pointer (some ⟨b13,0,none⟩),pointer (some ⟨b15,0,none⟩),O 6,O 7,O 8,O 9,O 10,O 11,O 12,O 13,O 14,O 15,O 16,O 17,O 18,O 19,O 20,O 21]:List Value))∧St w0 [Cells b13 (Qaf QbC) 71,Cells b15 (Qaf x22) 71] w) ?_ ?_
 ·
  rintro t w ⟨x22,H,hf,hs⟩
  obtain ⟨O,rfl⟩:=hf.open
  show G _ _ _ _ [_,_,_,_,_,_,_,_,_,_,_,_,_,_,_,_,_,_,_,_,_,_] _
  unfold Qbj.a0 at H
  refine Qag (Qan [0,1] rfl ?_)
  refine QaG rfl rfl (es:=(Qaf x22)) rfl rfl (fun _=>rfl) (n:=5) (fun _=>rfl) (Qbc.len _) (cells_all (hs.cells 1 rfl)) ?_
  refine Qa9 (n:=5) hs (Qbc.len _) rfl rfl (vs:=(Qaf x22)) rfl rfl rfl (fun _=>rfl) (Qbc.len _) (Qbc.one _) ?_
  intro w hs
  refine Qaa ?_
  obtain rfl:=QsJ H
  refine QaK Try.func34 (v:=agg (Qaf x22).toArray) (resC rfl ⟨⟨_,rfl,(run_loadVar_agg (es:=(Qaf x22)) rfl (congrArg (Result.ok · _) (Qbc.len _).symm) (cells_all (hs.cells 0 rfl)))⟩,trivial⟩) ?_
  have hs:St _ [] _:=St.take (Γ':=[_,_]) hs
  exact ⟨_,rfl,rfl,hs⟩
 intro ha1_
 have hs:=hs.pull 0 rfl
 have hs:=hs.pull 1 rfl
 have hs:St _ [_,_] _:=St.take (Γ':=[_]) hs
 refine Qbk (I:=fun n_ t w=>∃ x19:Qac,∃ x20:Int,rounds (fun s=>Qbj.b0 N a1 s.1 s.2) n_ (x19,x20)=some o1_∧Fr t (fun O=>([O 0,O 1,O 2,O 3,pointer (some ⟨b13,0,none⟩),pointer (some ⟨b15,0,none⟩),O 6,O 7,O 8,O 9,agg (([v2,v4,v6,v8]:List Value)).toArray,int .i64 x20,O 12,O 13,O 14,O 15,O 16,O 17,O 18,O 19,O 20,O 21]:List Value))∧St w0 [Cells b13 (Qaf QbC) 71,Cells b15 (Qaf x19) 71] w) N ⟨(⟨(Ar.rep 4 0),a10⟩:Qac),0,Ho,rfl,hs⟩ ?_ ?_
 ·
  rintro _ _ ⟨x19,x20,h,_⟩
  exact rounds_zero h
 intro n_ ih1_
 rintro t w ⟨x19,x20,Ho,hf,hs⟩
 obtain ⟨O,rfl⟩:=hf.open
 show G _ _ _ _ [_,_,_,_,_,_,_,_,_,_,_,_,_,_,_,_,_,_,_,_,_,_] _
 obtain ⟨x17_,H,Hx1_⟩:=rounds_succ Ho
 have H:Qbj.b0 N a1 x19 x20=some x17_:=H
 unfold Qbj.b0 at H
 refine Qag (Qan [0] rfl ?_)
 refine QaR (B:=decide (x20< 4)) rfl rfl rfl ?_ ?_
 ·
  intro hb
  rw [if_pos (b_dec_t hb)] at H
  show G _ _ _ _ [_,_,_,_,_,_,_,_,_,_,_,_,_,_,_,_,_,_,_,_,_,_] _
  refine Qaa (Qag (Qaw rfl (QaS (Qag ?_))))
  refine Qa2 (J:=(fun t w=>∃ x21:Qac,Qbj.j2 N x20 x21=some x17_∧Fr t (fun O=>([O 0,O 1,O 2,O 3,pointer (some ⟨b13,0,none⟩),pointer (some ⟨b15,0,none⟩),O 6,O 7,O 8,O 9,agg (([v2,v4,v6,v8]:List Value)).toArray,int .i64 x20,O 12,O 13,O 14,O 15,O 16,O 17,O 18,O 19,O 20,O 21]:List Value))∧St w0 [Cells b13 (Qaf QbC) 71,Cells b15 (Qaf x21) 71] w)) ?_ ?_
  ·
   rintro t w ⟨x21,H,hf,hs⟩
   obtain ⟨O,rfl⟩:=hf.open
   show G _ _ _ _ [_,_,_,_,_,_,_,_,_,_,_,_,_,_,_,_,_,_,_,_,_,_] _
   unfold Qbj.j2 at H
   refine Qan [0,1] rfl ?_
   refine Qab (v:=int .i64 (i64w (x20+1))) rfl rfl rfl ?_
   refine Qab (v:=int .i64 (i64w (x20+1))) rfl rfl rfl ?_
   show G _ _ _ _ [_,_,_,_,_,_,_,_,_,_,_,_,_,_,_,_,_,_,_,_,_,_] _
   refine Qaa ?_
   obtain rfl:=QsJ H
   have hs:=hs.pull 1 rfl
   have hs:=hs.pull 1 rfl
   have hs:St _ [_,_] _:=St.take (Γ':=[]) hs
   exact ih1_ _ _ ⟨x21,i64w (x20+1),Hx1_,rfl,hs⟩
  intro ha
  refine Qag ?_
  by_cases hk9_:x20=0
  ·
   rw [if_pos hk9_] at H
   refine Qan [0,1,2,3] rfl ?_
   refine Qab (v:=int .i64 x20) rfl rfl rfl ?_
   refine Qc0 0 hk9_ (by decide) (cs:=([v2,v4,v6,v8]:List Value)) (v:=v2) rfl rfl (fun _=>rfl) (fun _=>rfl) rfl rfl rfl rfl rfl ?_
   refine Qab (v:=int .i64 x20) rfl rfl rfl ?_
   show G _ _ _ _ [_,_,_,_,_,_,_,_,_,_,_,_,_,_,_,_,_,_,_,_,_,_] _
   refine Qab (v:=v2) rfl rfl rfl (Qaa (Qan [0,1,2,3,4,5] rfl ?_))
   refine Qab (v:=int .i64 x20) rfl rfl rfl ?_
   refine Qab (v:=v2) rfl rfl rfl ?_
   show G _ _ _ _ [_,_,_,_,_,_,_,_,_,_,_,_,_,_,_,_,_,_,_,_,_,_] _
   refine Qb1 (hs.rd hr3) rfl rfl rfl rfl rfl ?_
   refine Qab (v:=pointer (some ⟨b15,0,none⟩)) rfl rfl rfl ?_
   obtain ⟨g10,H⟩:=ite_get H
   refine Qa1 (n:=x20) (m:=1) rfl (fun _=>rfl) g10.1 g10.2 rfl rfl rfl rfl rfl ?_
   show G _ _ _ _ [_,_,_,_,_,_,_,_,_,_,_,_,_,_,_,_,_,_,_,_,_,_] _
   have hs:St _ [_,_] _:=hs.pull 1 rfl
   refine Qcq (y:=((a1.get 0 []).length:Int)) (a:=x19.Qav) (fkI .i64).len (fkI .i64).one g10.1 g10.2 [] (encB x19.QaU) (by simp [Qaf,encI,encB,encS]) (by first|rfl|simp [encAI_len,encAB_len,encA_len]) hs rfl rfl (cs':=(Qaf (⟨x19.Qav.set x20 ((a1.get 0 []).length:Int),x19.QaU⟩:Qac))) (by simp [Qaf,encI,encB,encS]) rfl rfl rfl (fun _=>rfl) ?_
   intro w hs
   refine Qaa ?_
   refine Qa5 ?_
   have hs:=hs.pull 0 rfl
   have hs:=hs.pull 1 rfl
   have hs:St _ [_,_] _:=St.take (Γ':=[]) hs
   exact ha _ _ ⟨(⟨x19.Qav.set x20 ((a1.get 0 []).length:Int),x19.QaU⟩:Qac),H,rfl,hs⟩
  rw [if_neg hk9_] at H
  by_cases hk11_:x20=1
  ·
   rw [if_pos hk11_] at H
   refine Qan [0,1,2,3] rfl ?_
   refine Qab (v:=int .i64 x20) rfl rfl rfl ?_
   refine Qc0 1 hk11_ (by decide) (cs:=([v2,v4,v6,v8]:List Value)) (v:=v4) rfl rfl (fun _=>rfl) (fun _=>rfl) rfl rfl rfl rfl rfl ?_
   refine Qab (v:=int .i64 x20) rfl rfl rfl ?_
   show G _ _ _ _ [_,_,_,_,_,_,_,_,_,_,_,_,_,_,_,_,_,_,_,_,_,_] _
   refine Qab (v:=v4) rfl rfl rfl (Qaa (Qan [0,1,2,3,4,5] rfl ?_))
   refine Qab (v:=int .i64 x20) rfl rfl rfl ?_
   refine Qab (v:=v4) rfl rfl rfl ?_
   show G _ _ _ _ [_,_,_,_,_,_,_,_,_,_,_,_,_,_,_,_,_,_,_,_,_,_] _
   refine Qb1 (hs.rd hr5) rfl rfl rfl rfl rfl ?_
   refine Qab (v:=pointer (some ⟨b15,0,none⟩)) rfl rfl rfl ?_
   obtain ⟨g12,H⟩:=ite_get H
   refine Qa1 (n:=x20) (m:=1) rfl (fun _=>rfl) g12.1 g12.2 rfl rfl rfl rfl rfl ?_
   show G _ _ _ _ [_,_,_,_,_,_,_,_,_,_,_,_,_,_,_,_,_,_,_,_,_,_] _
   have hs:St _ [_,_] _:=hs.pull 1 rfl
   refine Qcq (y:=((a1.get 1 []).length:Int)) (a:=x19.Qav) (fkI .i64).len (fkI .i64).one g12.1 g12.2 [] (encB x19.QaU) (by simp [Qaf,encI,encB,encS]) (by first|rfl|simp [encAI_len,encAB_len,encA_len]) hs rfl rfl (cs':=(Qaf (⟨x19.Qav.set x20 ((a1.get 1 []).length:Int),x19.QaU⟩:Qac))) (by simp [Qaf,encI,encB,encS]) rfl rfl rfl (fun _=>rfl) ?_
   intro w hs
   refine Qaa ?_
   refine Qa5 ?_
   have hs:=hs.pull 0 rfl
   have hs:=hs.pull 1 rfl
   have hs:St _ [_,_] _:=St.take (Γ':=[]) hs
   exact ha _ _ ⟨(⟨x19.Qav.set x20 ((a1.get 1 []).length:Int),x19.QaU⟩:Qac),H,rfl,hs⟩
  rw [if_neg hk11_] at H
  by_cases hk13_:x20=2
  ·
   rw [if_pos hk13_] at H
   refine Qan [0,1,2,3] rfl ?_
   refine Qab (v:=int .i64 x20) rfl rfl rfl ?_
   refine Qc0 2 hk13_ (by decide) (cs:=([v2,v4,v6,v8]:List Value)) (v:=v6) rfl rfl (fun _=>rfl) (fun _=>rfl) rfl rfl rfl rfl rfl ?_
   refine Qab (v:=int .i64 x20) rfl rfl rfl ?_
   show G _ _ _ _ [_,_,_,_,_,_,_,_,_,_,_,_,_,_,_,_,_,_,_,_,_,_] _
   refine Qab (v:=v6) rfl rfl rfl (Qaa (Qan [0,1,2,3,4,5] rfl ?_))
   refine Qab (v:=int .i64 x20) rfl rfl rfl ?_
   refine Qab (v:=v6) rfl rfl rfl ?_
   show G _ _ _ _ [_,_,_,_,_,_,_,_,_,_,_,_,_,_,_,_,_,_,_,_,_,_] _
   refine Qb1 (hs.rd hr7) rfl rfl rfl rfl rfl ?_
   refine Qab (v:=pointer (some ⟨b15,0,none⟩)) rfl rfl rfl ?_
   obtain ⟨g14,H⟩:=ite_get H
   refine Qa1 (n:=x20) (m:=1) rfl (fun _=>rfl) g14.1 g14.2 rfl rfl rfl rfl rfl ?_
   show G _ _ _ _ [_,_,_,_,_,_,_,_,_,_,_,_,_,_,_,_,_,_,_,_,_,_] _
   have hs:St _ [_,_] _:=hs.pull 1 rfl
   refine Qcq (y:=((a1.get 2 []).length:Int)) (a:=x19.Qav) (fkI .i64).len (fkI .i64).one g14.1 g14.2 [] (encB x19.QaU) (by simp [Qaf,encI,encB,encS]) (by first|rfl|simp [encAI_len,encAB_len,encA_len]) hs rfl rfl (cs':=(Qaf (⟨x19.Qav.set x20 ((a1.get 2 []).length:Int),x19.QaU⟩:Qac))) (by simp [Qaf,encI,encB,encS]) rfl rfl rfl (fun _=>rfl) ?_
   intro w hs
   refine Qaa ?_
   refine Qa5 ?_
   have hs:=hs.pull 0 rfl
   have hs:=hs.pull 1 rfl
   have hs:St _ [_,_] _:=St.take (Γ':=[]) hs
   exact ha _ _ ⟨(⟨x19.Qav.set x20 ((a1.get 2 []).length:Int),x19.QaU⟩:Qac),H,rfl,hs⟩
  rw [if_neg hk13_] at H
  by_cases hk15_:x20=3
  ·
   rw [if_pos hk15_] at H
   refine Qan [0,1,2,3] rfl ?_
   refine Qab (v:=int .i64 x20) rfl rfl rfl ?_
   refine Qc0 3 hk15_ (by decide) (cs:=([v2,v4,v6,v8]:List Value)) (v:=v8) rfl rfl (fun _=>rfl) (fun _=>rfl) rfl rfl rfl rfl rfl ?_
   refine Qab (v:=int .i64 x20) rfl rfl rfl ?_
   show G _ _ _ _ [_,_,_,_,_,_,_,_,_,_,_,_,_,_,_,_,_,_,_,_,_,_] _
   refine Qab (v:=v8) rfl rfl rfl (Qaa (Qan [0,1,2,3,4,5] rfl ?_))
   refine Qab (v:=int .i64 x20) rfl rfl rfl ?_
   refine Qab (v:=v8) rfl rfl rfl ?_
   show G _ _ _ _ [_,_,_,_,_,_,_,_,_,_,_,_,_,_,_,_,_,_,_,_,_,_] _
   refine Qb1 (hs.rd hr9) rfl rfl rfl rfl rfl ?_
   refine Qab (v:=pointer (some ⟨b15,0,none⟩)) rfl rfl rfl ?_
   obtain ⟨g16,H⟩:=ite_get H
   refine Qa1 (n:=x20) (m:=1) rfl (fun _=>rfl) g16.1 g16.2 rfl rfl rfl rfl rfl ?_
   show G _ _ _ _ [_,_,_,_,_,_,_,_,_,_,_,_,_,_,_,_,_,_,_,_,_,_] _
   have hs:St _ [_,_] _:=hs.pull 1 rfl
   refine Qcq (y:=((a1.get 3 []).length:Int)) (a:=x19.Qav) (fkI .i64).len (fkI .i64).one g16.1 g16.2 [] (encB x19.QaU) (by simp [Qaf,encI,encB,encS]) (by first|rfl|simp [encAI_len,encAB_len,encA_len]) hs rfl rfl (cs':=(Qaf (⟨x19.Qav.set x20 ((a1.get 3 []).length:Int),x19.QaU⟩:Qac))) (by simp [Qaf,encI,encB,encS]) rfl rfl rfl (fun _=>rfl) ?_
   intro w hs
   refine Qaa ?_
   refine Qa5 ?_
   have hs:=hs.pull 0 rfl
   have hs:=hs.pull 1 rfl
   have hs:St _ [_,_] _:=St.take (Γ':=[]) hs
   exact ha _ _ ⟨(⟨x19.Qav.set x20 ((a1.get 3 []).length:Int),x19.QaU⟩:Qac),H,rfl,hs⟩
  rw [if_neg hk15_] at H
  cases H
 intro hb
 rw [if_neg (b_dec_f hb)] at H
 refine Qaa (Qag (Qax rfl ?_))
 obtain rfl:=QsJ H
 subst Hx1_
 have hs:=hs.pull 1 rfl
 have hs:=hs.pull 1 rfl
 have hs:St _ [_,_] _:=St.take (Γ':=[]) hs
 refine QbG rfl ?_
 exact ha1_ _ _ ⟨x19,Hr1_,rfl,hs⟩
def Qb4.post (w0:World) (r:Int) (v:Value) (w:World):Prop:=v=int .i64 r∧St w0 [] w
theorem Qb4.calls {N:Nat} {a1:Qac} {w0:World} {r:Int} (H:Qb4.f N a1=some r):
 Calls Try.prog 59 #[agg (Qaf a1).toArray] w0 fun e w=>∃ v,e= .returned v∧Qb4.post w0 r v w:=by
 unfold Qb4.f at H
 have hs:St w0 [] w0:=St.refl w0
 refine calls_of_g (n:=20) Try.func59 rfl rfl ?_
 show G _ _ _ _ [_,_,_,_,_,_,_,_,_,_,_,_,_,_,_,_,_,_,_,_,_] _
 refine Qag (Qan [0,1] rfl ?_)
 refine Qbw hs rfl rfl (cs:=(Qaf a1)) rfl rfl ?_
 intro b2 w hs
 refine Qab (v:=int .i64 0) rfl rfl rfl (Qaa (Qag (Qan [0,1,2,3,4,5,6,7,8,9,10,11,12] rfl ?_)))
 refine Qab (v:=pointer (some ⟨b2,0,none⟩)) rfl rfl rfl ?_
 show G _ _ _ _ [_,_,_,_,_,_,_,_,_,_,_,_,_,_,_,_,_,_,_,_,_] _
 obtain ⟨g1,H⟩:=ite_get H
 refine Qa1 (n:=0) (m:=1) rfl (fun _=>rfl) g1.1 g1.2 rfl rfl rfl rfl rfl ?_
 refine Qaz rfl rfl (v:=int .i64 (a1.Qav.get 0 0)) rfl rfl (fun _=>rfl) (cells_load (hs.cells 0 rfl) _ _ (part_get (i:=0) (fkI .i64).len a1.Qav 0 g1.1 g1.2 [] (encB a1.QaU) (by simp [Qaf,encI,encB,encS]) (by first|rfl|simp [encAI_len,encAB_len,encA_len]))) ?_
 refine Qab (v:=int .i64 (i64w (2*(a1.Qav.get 0 0)))) rfl rfl rfl ?_
 show G _ _ _ _ [_,_,_,_,_,_,_,_,_,_,_,_,_,_,_,_,_,_,_,_,_] _
 refine Qab (v:=pointer (some ⟨b2,0,none⟩)) rfl rfl rfl ?_
 obtain ⟨g2,H⟩:=ite_get H
 refine Qa1 (n:=1) (m:=1) rfl (fun _=>rfl) g2.1 g2.2 rfl rfl rfl rfl rfl ?_
 refine Qaz rfl rfl (v:=int .i64 (a1.Qav.get 1 0)) rfl rfl (fun _=>rfl) (cells_load (hs.cells 0 rfl) _ _ (part_get (i:=1) (fkI .i64).len a1.Qav 0 g2.1 g2.2 [] (encB a1.QaU) (by simp [Qaf,encI,encB,encS]) (by first|rfl|simp [encAI_len,encAB_len,encA_len]))) ?_
 show G _ _ _ _ [_,_,_,_,_,_,_,_,_,_,_,_,_,_,_,_,_,_,_,_,_] _
 refine Qab (v:=int .i64 (i64w ((i64w (2*(a1.Qav.get 0 0)))+(a1.Qav.get 1 0)))) rfl rfl rfl ?_
 refine Qab (v:=pointer (some ⟨b2,0,none⟩)) rfl rfl rfl ?_
 obtain ⟨g3,H⟩:=ite_get H
 refine Qa1 (n:=2) (m:=1) rfl (fun _=>rfl) g3.1 g3.2 rfl rfl rfl rfl rfl ?_
 show G _ _ _ _ [_,_,_,_,_,_,_,_,_,_,_,_,_,_,_,_,_,_,_,_,_] _
 refine Qaz rfl rfl (v:=int .i64 (a1.Qav.get 2 0)) rfl rfl (fun _=>rfl) (cells_load (hs.cells 0 rfl) _ _ (part_get (i:=2) (fkI .i64).len a1.Qav 0 g3.1 g3.2 [] (encB a1.QaU) (by simp [Qaf,encI,encB,encS]) (by first|rfl|simp [encAI_len,encAB_len,encA_len]))) ?_
 refine Qab (v:=int .i64 (i64w ((i64w ((i64w (2*(a1.Qav.get 0 0)))+(a1.Qav.get 1 0)))+(a1.Qav.get 2 0)))) rfl rfl rfl ?_
 refine Qab (v:=int .i64 (i64w ((i64w ((i64w (2*(a1.Qav.get 0 0)))+(a1.Qav.get 1 0)))+(a1.Qav.get 2 0)))) rfl rfl rfl ?_
 show G _ _ _ _ [_,_,_,_,_,_,_,_,_,_,_,_,_,_,_,_,_,_,_,_,_] _
 refine Qaa (Qag (Qag (Qan [0,1] rfl ?_)))
 refine Qab (v:=pointer (some ⟨b2,4,none⟩)) rfl rfl rfl ?_
 by_cases hb4_:a1.QaU=true
 ·
  rw [if_pos hb4_] at H
  refine Qaz rfl rfl (v:=bool true) rfl rfl (fun _=>rfl) (cells_load (hs.cells 0 rfl) 4 1 (Eq.trans (b:=[bool a1.QaU]) (by first|rfl|(simp only [Qaf];simp [List.drop_append,List.take_append,encAI_len,encAB_len,List.take_of_length_le])) (congrArg (fun b=>[bool b]) hb4_))) (Qaa (Qaw rfl (Qan [0,1,2] rfl ?_)))
  refine Qab (v:=int .i64 (i64w ((i64w ((i64w (2*(a1.Qav.get 0 0)))+(a1.Qav.get 1 0)))+(a1.Qav.get 2 0)))) rfl rfl rfl ?_
  refine Qab (v:=int .i64 (i64w ((i64w ((i64w ((i64w (2*(a1.Qav.get 0 0)))+(a1.Qav.get 1 0)))+(a1.Qav.get 2 0)))+1))) rfl rfl rfl ?_
  show G _ _ _ _ [_,_,_,_,_,_,_,_,_,_,_,_,_,_,_,_,_,_,_,_,_] _
  refine Qab (v:=int .i64 (i64w ((i64w ((i64w ((i64w (2*(a1.Qav.get 0 0)))+(a1.Qav.get 1 0)))+(a1.Qav.get 2 0)))+1))) rfl rfl rfl (Qaa (Qag (Qan [0,1] rfl ?_)))
  refine Qab (v:=int .i64 (i64w ((i64w ((i64w ((i64w (2*(a1.Qav.get 0 0)))+(a1.Qav.get 1 0)))+(a1.Qav.get 2 0)))+1))) rfl rfl rfl ?_
  refine Qab (v:=int .i64 (i64w ((i64w ((i64w ((i64w (2*(a1.Qav.get 0 0)))+(a1.Qav.get 1 0)))+(a1.Qav.get 2 0)))+1))) rfl rfl rfl ?_
  show G _ _ _ _ [_,_,_,_,_,_,_,_,_,_,_,_,_,_,_,_,_,_,_,_,_] _
  refine Qaa ?_
  obtain rfl:=QsJ H
  refine QaK Try.func59 (v:=int .i64 (i64w ((i64w ((i64w ((i64w (2*(a1.Qav.get 0 0)))+(a1.Qav.get 1 0)))+(a1.Qav.get 2 0)))+1))) (res1 rfl rfl) ?_
  have hs:St _ [] _:=St.take (Γ':=[_]) hs
  exact ⟨_,rfl,rfl,hs⟩
 rw [if_neg hb4_] at H
 refine Qaz rfl rfl (v:=bool false) rfl rfl (fun _=>rfl) (cells_load (hs.cells 0 rfl) 4 1 (Eq.trans (b:=[bool a1.QaU]) (by first|rfl|(simp only [Qaf];simp [List.drop_append,List.take_append,encAI_len,encAB_len,List.take_of_length_le])) (congrArg (fun b=>[bool b]) (Bool.eq_false_iff.2 hb4_)))) (Qaa (Qax rfl (QaS (Qag ?_))))
 refine Qan [0,1] rfl ?_
 refine Qab (v:=int .i64 (i64w ((i64w ((i64w (2*(a1.Qav.get 0 0)))+(a1.Qav.get 1 0)))+(a1.Qav.get 2 0)))) rfl rfl rfl ?_
 show G _ _ _ _ [_,_,_,_,_,_,_,_,_,_,_,_,_,_,_,_,_,_,_,_,_] _
 refine Qab (v:=int .i64 (i64w ((i64w ((i64w (2*(a1.Qav.get 0 0)))+(a1.Qav.get 1 0)))+(a1.Qav.get 2 0)))) rfl rfl rfl (Qaa ?_)
 obtain rfl:=QsJ H
 refine QaK Try.func59 (v:=int .i64 (i64w ((i64w ((i64w (2*(a1.Qav.get 0 0)))+(a1.Qav.get 1 0)))+(a1.Qav.get 2 0)))) (res1 rfl rfl) ?_
 have hs:St _ [] _:=St.take (Γ':=[_]) hs
 exact ⟨_,rfl,rfl,hs⟩
end Go.Proofs.YtgpdpedpmhonkaaX
