import Derived.Test.YtgpdpedpmhonkaaProg
import Derived.Test.YtgpdpedpmhonkaaP3
import Derived.Test.YtgpdpedpmhonkaaP4
import Derived.Test.YtgpdpedpmhonkaaP5
namespace Go.Proofs.YtgpdpedpmhonkaaX
open Go Go.RowKit Go.Proofs
open Go.Value (int pointer bool agg slice string tuple)
set_option maxHeartbeats 8000000
set_option maxRecDepth 100000
set_option linter.unusedVariables false
set_option linter.unusedSimpArgs false
def Qa7.post (wb:World) (Z:As) (b2:Nat) (v3:Value) (r:((Ar Int 14)×QaC)) (v:Value) (w:World):Prop:=v=agg ((encA (encI .i8)) r.1).toArray∧St wb [Cells b2 (([v3,int .i64 r.2.Qbp,int .u64 r.2.Qbf]:List Value)) 117,Z] w
theorem Qa7.calls {N:Nat} {a1:QaC} {a6:Qaq} {b2:Nat} {v3:Value} {wb:World} {Z:As} {w0:World} {r:((Ar Int 14)×QaC)} (hs:St wb [Cells b2 (([v3,int .i64 a1.Qbp,int .u64 a1.Qbf]:List Value)) 117,Z] w0) (hr4:RdRow (K.int .u8) wb v3 a1.Qbh) (H:Qa7.f N a1 a6=some r):
 Calls Try.prog 37 #[pointer (some ⟨b2,0,none⟩),agg (Qae a6).toArray] w0 fun e w=>∃ v,e= .returned v∧Qa7.post wb Z b2 v3 r v w:=by
 unfold Qa7.f at H
 refine calls_of_g (n:=61) Try.func37 rfl rfl ?_
 show G _ _ _ _ (_::_::_::_::_::_::_::_::_::_::_::_::_::_::_::_::_::_::_::_::_::_::_::_::_::_::_::_::_::_::_::_::_::_::_::_::_::_::_::_::_::_::_::_::_::_::_::_::_::_::_::_::_::_::_::_::_::_::_::_::_::_::_::[]) _
 refine Qag (Qan [0,1] rfl ?_)
 refine Qbw hs rfl rfl (cs:=(Qae a6)) rfl rfl ?_
 intro b7 w hs
 refine g_d rfl ?_
 try dsimp only [set0,setS]
 refine QbH hs rfl rfl (z:=(agg #[int .i8 0,int .i8 0,int .i8 0,int .i8 0,int .i8 0,int .i8 0,int .i8 0,int .i8 0,int .i8 0,int .i8 0,int .i8 0,int .i8 0,int .i8 0,int .i8 0])) (cs:=((encA (encI .i8)) (Ar.rep 14 0))) rfl (fun _=>rfl) rfl ?_
 intro b9 w hs
 refine g_d rfl (Qaa (Qag (Qan [0,1,2] rfl ?_)))
 refine Qab (v:=agg ((encA (encI .i8)) (Ar.rep 14 0)).toArray) rfl rfl (Qcr rfl rfl) (g_d rfl ?_)
 try dsimp only [set0,setS]
 refine QbH hs rfl rfl (z:=(agg #[int .i8 0,int .i8 0,int .i8 0,int .i8 0,int .i8 0,int .i8 0,int .i8 0,int .i8 0,int .i8 0,int .i8 0,int .i8 0,int .i8 0,int .i8 0,int .i8 0])) (cs:=((encA (encI .i8)) (Ar.rep 14 0))) rfl (fun _=>rfl) rfl ?_
 intro b11 w hs
 refine g_d rfl ?_
 refine Qa9 (n:=14) hs ((fkA (n:=14) (he:=(fkI .i8).len) (h1:=(fkI .i8).one)).len _) rfl rfl (vs:=((encA (encI .i8)) (Ar.rep 14 0))) rfl rfl rfl (fun _=>rfl) ((fkA (n:=14) (he:=(fkI .i8).len) (h1:=(fkI .i8).one)).len _) ((fkA (n:=14) (he:=(fkI .i8).len) (h1:=(fkI .i8).one)).one _) ?_
 intro w hs
 refine g_n rfl (Qaa (Qag (Qan [0] rfl ?_)))
 refine Qab (v:=int .i64 0) rfl rfl rfl (g_d rfl ?_)
 try dsimp only [set0,setS]
 refine Qaa (Qag (Qag (Qan [0] rfl ?_)))
 refine Qab (v:=int .i64 0) rfl rfl rfl (g_d rfl (Qaa ?_))
 obtain ⟨o1_,Ho,Hr1_⟩:=bind_get H
 refine Qa2 (J:=fun t w=>∃ x32:Int,∃ x33:Int,∃ x34:(Ar Int 14),∃ x35:Int,Qa7.a0 N a1 x32 x33 x34 x35=some r∧Fr t (fun O=>(pointer (some ⟨b2,0,none⟩)::O 1::O 2::O 3::pointer (some ⟨b9,0,none⟩)::pointer (some ⟨b11,0,none⟩)::int .i64 x35::O 7::O 8::O 9::oT O 1 (oT O 2 (oT O 3 (oT O 4 (oT O 5 (O 60::O 61::O 62::[]))))):List Value))∧St wb [Cells b2 (([v3,int .i64 x32,int .u64 x33]:List Value)) 117,Cells b9 ((encA (encI .i8)) (Ar.rep 14 0)) 37,Cells b11 ((encA (encI .i8)) x34) 37,Z] w) ?_ ?_
 ·
  rintro t w ⟨x32,x33,x34,x35,H,hf,hs⟩
  obtain ⟨O,rfl⟩:=hf.open
  try dsimp only [oT]
  unfold Qa7.a0 at H
  refine Qag (Qag (Qan [0] rfl ?_))
  refine Qab (v:=int .i64 0) rfl rfl rfl (g_d rfl ?_)
  try dsimp only [set0,setS]
  refine Qaa ?_
  obtain ⟨o1_,Ho,Hr1_⟩:=bind_get H
  refine Qa2 (J:=fun t w=>∃ x45:(Ar Int 14),Qa7.a2 N a1 x32 x33 x45=some r∧Fr t (fun O=>(pointer (some ⟨b2,0,none⟩)::O 1::O 2::O 3::pointer (some ⟨b9,0,none⟩)::pointer (some ⟨b11,0,none⟩)::O 6::O 7::O 8::O 9::oT O 1 (oT O 2 (oT O 3 (oT O 4 (oT O 5 (O 60::O 61::O 62::[]))))):List Value))∧St wb [Cells b2 (([v3,int .i64 x32,int .u64 x33]:List Value)) 117,Cells b9 ((encA (encI .i8)) (Ar.rep 14 0)) 37,Cells b11 ((encA (encI .i8)) x45) 37,Z] w) ?_ ?_
  ·
   rintro t w ⟨x45,H,hf,hs⟩
   obtain ⟨O,rfl⟩:=hf.open
   try dsimp only [oT]
   unfold Qa7.a2 at H
   refine Qag (Qag (Qan [0,1] rfl ?_))
   refine Qab (v:=pointer (some ⟨b2,0,none⟩)) rfl rfl rfl (g_d rfl ?_)
   obtain ⟨r46,Hr46,H⟩:=bind_get H
   have hs:St _ [_,_,_,_] _:=hs.pull 0 rfl
   have hs:=hs.pack 1
   refine QaP (args:=[pointer (some ⟨b2,0,none⟩),int .i64 20]) rfl rfl (QaT rfl (callFunc_enter Try.func64 rfl rfl) rfl) (QbO.calls (a1:=(⟨a1.Qbh,x32,x33⟩:QaC)) (a6:=20) hs hr4 Hr46) ?_
   rintro _ w ⟨rfl,hs⟩
   have hs:=St.unpack (Γ:=[_]) hs
   have hs:St _ [_,_,_,_] _:=hs
   generalize hb11_:r46.1=b_ at H ⊢
   cases b_ with
   |true=>
    rw [if_pos rfl] at H
    refine g_d rfl ?_
    try dsimp only [set0,setS]
    refine Qaa (Qaw rfl (Qan [0,1,2,3,4,5,6,7] rfl ?_))
    refine Qab (v:=pointer (some ⟨b2,0,none⟩)) rfl rfl rfl (g_d rfl ?_)
    obtain ⟨r47,Hr47,H⟩:=bind_get H
    have hs:St _ [_,_,_,_] _:=hs.pull 0 rfl
    have hs:=hs.pack 1
    refine QaP (args:=[pointer (some ⟨b2,0,none⟩),int .i64 14]) rfl rfl (QaT rfl (callFunc_enter Try.func63 rfl rfl) rfl) (Qbg.calls (a1:=(⟨a1.Qbh,r46.2.Qbp,r46.2.Qbf⟩:QaC)) (a6:=14) hs hr4 Hr47) ?_
    rintro _ w ⟨rfl,hs⟩
    have hs:=St.unpack (Γ:=[_]) hs
    have hs:St _ [_,_,_,_] _:=hs
    refine g_d rfl ?_
    refine Qab (v:=pointer (some ⟨b2,0,none⟩)) rfl rfl rfl (g_d rfl ?_)
    try dsimp only [set0,setS]
    refine Qdx (fkI .i64) (int .i64) (fun _=>rfl) rfl (ys:=[(-2),2,1,(-1)]) rfl hs rfl rfl rfl rfl (fun _=>rfl) (zv:=(int .i64 0)) (zc:=(int .i64 0)) (fun _=>rfl) rfl (by simp) (by simp) rfl ?_
    intro v48 w hs
    refine g_d rfl ?_
    obtain ⟨r50,Hr50,H⟩:=bind_get H
    have hs:=hs.pull 0 rfl
    have hs:St _ [_,_,_,_,_] _:=hs.pull 1 rfl
    have hs:=hs.pack 2
    refine QaP (args:=[pointer (some ⟨b2,0,none⟩),v48]) rfl rfl (QaT rfl (callFunc_enter Try.func66 rfl rfl) rfl) (QbX.calls (a1:=(⟨a1.Qbh,r47.2.Qbp,r47.2.Qbf⟩:QaC)) (a6:=[(-2),2,1,(-1)]) hs hr4 Hr50) ?_
    rintro _ w ⟨rfl,hs⟩
    have hs:=St.unpack (Γ:=[_,_]) hs
    have hs:St _ [_,_,_,_,_] _:=hs
    refine g_d rfl ?_
    try dsimp only [set0,setS]
    refine Qab (v:=int .i8 (i8w r50.1)) rfl rfl rfl (g_d rfl ?_)
    obtain ⟨g12,H⟩:=ite_get H
    refine Qa1 (n:=r47.1) (m:=1) rfl (fun _=>rfl) g12.1 g12.2 rfl rfl rfl rfl rfl (g_d rfl ?_)
    have hs:St _ [_,_,_,_,_] _:=hs.pull 3 rfl
    refine Qcl (y:=i8w r50.1) (fkI .i8).len (fkI .i8).one g12.1 g12.2 hs rfl rfl rfl rfl rfl (fun _=>rfl) ?_
    intro w hs
    refine g_n rfl (Qaa (Qag (Qan [0,1] rfl ?_)))
    refine QaG rfl rfl (es:=((encA (encI .i8)) (x45.set r47.1 (i8w r50.1)))) rfl rfl (fun _=>rfl) (n:=14) (fun _=>rfl) ((fkA (n:=14) (he:=(fkI .i8).len) (h1:=(fkI .i8).one)).len _) (cells_all (hs.cells 0 rfl)) (g_d rfl ?_)
    try dsimp only [set0,setS]
    have hs:St _ [_,_,_,_,_] _:=hs.pull 3 rfl
    refine Qa9 (n:=14) hs ((fkA (n:=14) (he:=(fkI .i8).len) (h1:=(fkI .i8).one)).len _) rfl rfl (vs:=((encA (encI .i8)) (x45.set r47.1 (i8w r50.1)))) rfl rfl rfl (fun _=>rfl) ((fkA (n:=14) (he:=(fkI .i8).len) (h1:=(fkI .i8).one)).len _) ((fkA (n:=14) (he:=(fkI .i8).len) (h1:=(fkI .i8).one)).one _) ?_
    intro w hs
    refine g_n rfl (Qaa ?_)
    obtain rfl:=QsJ H
    refine QaK Try.func37 (v:=agg ((encA (encI .i8)) (x45.set r47.1 (i8w r50.1))).toArray) (resC rfl ⟨⟨_,rfl,(run_loadVar_agg (es:=((encA (encI .i8)) (x45.set r47.1 (i8w r50.1)))) rfl (congrArg (Result.ok · _) ((fkA (n:=14) (he:=(fkI .i8).len) (h1:=(fkI .i8).one)).len _).symm) (cells_all (hs.cells 0 rfl)))⟩,trivial⟩) ?_
    have hs:=hs.pull 4 rfl
    have hs:=hs.pull 3 rfl
    have hs:St _ [_,_] _:=St.take (Γ':=[_,_,_]) hs
    exact ⟨_,rfl,rfl,hs⟩
   |false=>
    rw [if_neg Bool.false_ne_true] at H
    refine g_d rfl (Qaa (Qax rfl (QaS (Qag (Qan [0,1] rfl ?_)))))
    refine QaG rfl rfl (es:=((encA (encI .i8)) x45)) rfl rfl (fun _=>rfl) (n:=14) (fun _=>rfl) ((fkA (n:=14) (he:=(fkI .i8).len) (h1:=(fkI .i8).one)).len _) (cells_all (hs.cells 2 rfl)) (g_d rfl ?_)
    try dsimp only [set0,setS]
    have hs:St _ [_,_,_,_] _:=hs.pull 1 rfl
    refine Qa9 (n:=14) hs ((fkA (n:=14) (he:=(fkI .i8).len) (h1:=(fkI .i8).one)).len _) rfl rfl (vs:=((encA (encI .i8)) x45)) rfl rfl rfl (fun _=>rfl) ((fkA (n:=14) (he:=(fkI .i8).len) (h1:=(fkI .i8).one)).len _) ((fkA (n:=14) (he:=(fkI .i8).len) (h1:=(fkI .i8).one)).one _) ?_
    intro w hs
    refine g_n rfl (Qaa ?_)
    obtain rfl:=QsJ H
    refine QaK Try.func37 (v:=agg ((encA (encI .i8)) x45).toArray) (resC rfl ⟨⟨_,rfl,(run_loadVar_agg (es:=((encA (encI .i8)) x45)) rfl (congrArg (Result.ok · _) ((fkA (n:=14) (he:=(fkI .i8).len) (h1:=(fkI .i8).one)).len _).symm) (cells_all (hs.cells 0 rfl)))⟩,trivial⟩) ?_
    have hs:=hs.pull 3 rfl
    have hs:=hs.pull 2 rfl
    have hs:St _ [_,_] _:=St.take (Γ':=[_,_]) hs
    exact ⟨_,rfl,rfl,hs⟩
  intro ha1_
  have hs:=hs.pull 3 rfl
  have hs:=hs.pull 3 rfl
  have hs:=hs.pull 3 rfl
  have hs:=hs.pull 3 rfl
  have hs:St _ [_,_,_,_] _:=St.take (Γ':=[]) hs
  refine Qbk (I:=fun n_ t w=>∃ x40:(Ar Int 14),∃ x41:Int,∃ x42:Int,rounds (fun s=>Qa7.b2 N s.1 s.2.1 s.2.2) n_ (x40,x41,x42)=some o1_∧Fr t (fun O=>(pointer (some ⟨b2,0,none⟩)::O 1::O 2::O 3::pointer (some ⟨b9,0,none⟩)::pointer (some ⟨b11,0,none⟩)::int .i64 x41::O 7::int .i64 x42::O 9::oT O 1 (oT O 2 (oT O 3 (oT O 4 (oT O 5 (O 60::O 61::O 62::[]))))):List Value))∧St wb [Cells b2 (([v3,int .i64 x32,int .u64 x33]:List Value)) 117,Cells b9 ((encA (encI .i8)) (Ar.rep 14 0)) 37,Cells b11 ((encA (encI .i8)) x40) 37,Z] w) N ⟨x34,x35,0,Ho,rfl,hs⟩ ?_ ?_
  ·
   rintro _ _ ⟨x40,x41,x42,h,_⟩
   exact rounds_zero h
  intro n_ ih1_
  rintro t w ⟨x40,x41,x42,Ho,hf,hs⟩
  obtain ⟨O,rfl⟩:=hf.open
  try dsimp only [oT]
  obtain ⟨x13_,H,Hx1_⟩:=rounds_succ Ho
  have H:Qa7.b2 N x40 x41 x42=some x13_:=H
  unfold Qa7.b2 at H
  refine Qag (Qag (Qan [0,1,2,3,4,5] rfl ?_))
  refine Qab (v:=int .i64 x42) rfl rfl rfl (g_d rfl ?_)
  refine QaR (B:=decide (x42< 14)) rfl rfl rfl ?_ ?_
  ·
   intro hb
   rw [if_pos (b_dec_t hb)] at H
   refine g_d rfl ?_
   try dsimp only [set0,setS]
   refine Qab (v:=bool true) rfl rfl rfl (g_d rfl ?_)
   refine Qab (v:=int .i64 x41) rfl rfl rfl (g_d rfl ?_)
   refine QaR (B:=x41 !=0) rfl rfl rfl ?_ ?_
   ·
    intro hb
    rw [if_neg (b_bne_t hb)] at H
    refine g_d rfl ?_
    refine Qab (v:=bool true) rfl rfl rfl (g_d rfl ?_)
    try dsimp only [set0,setS]
    refine Qaa (Qaw rfl (QaS (Qag ?_)))
    refine Qa2 (J:=(fun t w=>∃ x43:(Ar Int 14),∃ x44:Int,Qa7.j4 N x42 x43 x44=some x13_∧Fr t (fun O=>(pointer (some ⟨b2,0,none⟩)::O 1::O 2::O 3::pointer (some ⟨b9,0,none⟩)::pointer (some ⟨b11,0,none⟩)::int .i64 x44::O 7::int .i64 x42::O 9::oT O 1 (oT O 2 (O 30::O 31::O 32::int .i64 x41::bool true::O 35::O 36::O 37::O 38::O 39::oT O 4 (oT O 5 (O 60::O 61::O 62::[])))):List Value))∧St wb [Cells b2 (([v3,int .i64 x32,int .u64 x33]:List Value)) 117,Cells b9 ((encA (encI .i8)) (Ar.rep 14 0)) 37,Cells b11 ((encA (encI .i8)) x43) 37,Z] w)) ?_ ?_
    ·
     rintro t w ⟨x43,x44,H,hf,hs⟩
     obtain ⟨O,rfl⟩:=hf.open
     try dsimp only [oT]
     unfold Qa7.j4 at H
     refine Qan [0,1,2] rfl ?_
     refine Qab (v:=int .i64 x42) rfl rfl rfl (g_d rfl ?_)
     refine Qab (v:=int .i64 (i64w (x42+1))) rfl rfl rfl (g_d rfl ?_)
     refine Qab (v:=int .i64 (i64w (x42+1))) rfl rfl rfl (g_d rfl ?_)
     try dsimp only [set0,setS]
     refine Qaa ?_
     obtain rfl:=QsJ H
     have hs:=hs.pull 3 rfl
     have hs:=hs.pull 3 rfl
     have hs:=hs.pull 3 rfl
     have hs:=hs.pull 3 rfl
     have hs:St _ [_,_,_,_] _:=St.take (Γ':=[]) hs
     exact ih1_ _ _ ⟨x43,x44,i64w (x42+1),Hx1_,rfl,hs⟩
    intro ha
    refine Qag (Qan [0,1,2,3,4,5,6] rfl ?_)
    refine Qab (v:=int .i64 x42) rfl rfl rfl (g_d rfl ?_)
    obtain ⟨g8,H⟩:=ite_get H
    refine Qa1 (n:=x42) (m:=1) rfl (fun _=>rfl) g8.1 g8.2 rfl rfl rfl rfl rfl (g_d rfl ?_)
    refine Qaz rfl rfl (v:=int .i8 (x40.get x42 0)) rfl rfl (fun _=>rfl) (by rw [Nat.zero_add];exact cells_load (hs.cells 2 rfl) _ _ (encA_at (fkI .i8).len _ _ 0 g8.1 g8.2)) (g_d rfl ?_)
    try dsimp only [set0,setS]
    refine Qab (v:=int .i64 (i64w (x40.get x42 0))) rfl rfl rfl (g_d rfl ?_)
    refine Qab (v:=int .i64 x41) rfl rfl rfl (g_d rfl ?_)
    refine Qab (v:=int .i64 (i64w ((i64w (x40.get x42 0))*x41))) rfl rfl rfl (g_d rfl ?_)
    refine QaR (B:=decide ((i64w ((i64w (x40.get x42 0))*x41))>0)) rfl rfl rfl ?_ ?_
    ·
     intro hb
     rw [if_pos (b_dec_t hb)] at H
     refine g_d rfl (Qaa (Qaw rfl (Qag (Qan [0,1,2,3,4,5,6] rfl ?_))))
     refine Qab (v:=int .i64 x41) rfl rfl rfl (g_d rfl ?_)
     refine Qab (v:=int .i64 x42) rfl rfl rfl (g_d rfl ?_)
     obtain ⟨g9,H⟩:=ite_get H
     refine Qa1 (n:=x42) (m:=1) rfl (fun _=>rfl) g9.1 g9.2 rfl rfl rfl rfl rfl (g_d rfl ?_)
     try dsimp only [set0,setS]
     refine Qaz rfl rfl (v:=int .i8 (x40.get x42 0)) rfl rfl (fun _=>rfl) (by rw [Nat.zero_add];exact cells_load (hs.cells 2 rfl) _ _ (encA_at (fkI .i8).len _ _ 0 g9.1 g9.2)) (g_d rfl ?_)
     refine Qab (v:=int .i64 (i64w (x40.get x42 0))) rfl rfl rfl (g_d rfl ?_)
     refine Qab (v:=int .i64 (i64w (x41 - (i64w (x40.get x42 0))))) rfl rfl rfl (g_d rfl ?_)
     try dsimp only [set0,setS]
     refine Qab (v:=int .i64 (i64w (x41 - (i64w (x40.get x42 0))))) rfl rfl rfl (g_d rfl (Qaa (Qan [0,1,2] rfl ?_)))
     refine Qab (v:=int .i64 x42) rfl rfl rfl (g_d rfl ?_)
     obtain ⟨g10,H⟩:=ite_get H
     refine Qa1 (n:=x42) (m:=1) rfl (fun _=>rfl) g10.1 g10.2 rfl rfl rfl rfl rfl (g_d rfl ?_)
     try dsimp only [set0,setS]
     have hs:St _ [_,_,_,_] _:=hs.pull 2 rfl
     refine Qcl (y:=0) (fkI .i8).len (fkI .i8).one g10.1 g10.2 hs rfl rfl rfl rfl rfl (fun _=>rfl) ?_
     intro w hs
     refine g_n rfl (Qaa ?_)
     refine Qa5 ?_
     have hs:=hs.pull 3 rfl
     have hs:=hs.pull 1 rfl
     have hs:=hs.pull 3 rfl
     have hs:=hs.pull 3 rfl
     have hs:St _ [_,_,_,_] _:=St.take (Γ':=[]) hs
     exact ha _ _ ⟨x40.set x42 0,i64w (x41 - (i64w (x40.get x42 0))),H,rfl,hs⟩
    intro hb
    rw [if_neg (b_dec_f hb)] at H
    refine g_d rfl ?_
    try dsimp only [set0,setS]
    refine Qaa (Qax rfl (QaS ?_))
    refine Qa5 ?_
    have hs:=hs.pull 3 rfl
    have hs:=hs.pull 3 rfl
    have hs:=hs.pull 3 rfl
    have hs:=hs.pull 3 rfl
    have hs:St _ [_,_,_,_] _:=St.take (Γ':=[]) hs
    exact ha _ _ ⟨x40,x41,H,rfl,hs⟩
   intro hb
   rw [if_pos (b_bne_f hb)] at H
   refine g_d rfl ?_
   refine Qab (v:=bool false) rfl rfl rfl (g_d rfl ?_)
   try dsimp only [set0,setS]
   refine Qaa (Qax rfl ?_)
   obtain rfl:=QsJ H
   subst Hx1_
   have hs:=hs.pull 3 rfl
   have hs:=hs.pull 3 rfl
   have hs:=hs.pull 3 rfl
   have hs:=hs.pull 3 rfl
   have hs:St _ [_,_,_,_] _:=St.take (Γ':=[]) hs
   refine QbG rfl ?_
   exact ha1_ _ _ ⟨x40,Hr1_,rfl,hs⟩
  intro hb
  rw [if_neg (b_dec_f hb)] at H
  refine g_d rfl ?_
  refine Qab (v:=bool false) rfl rfl rfl (g_d rfl (Qal rfl rfl (g_d rfl (Qal rfl rfl (g_d rfl ?_)))))
  try dsimp only [set0,setS]
  refine Qab (v:=bool false) rfl rfl rfl (g_d rfl (Qaa (Qax rfl ?_)))
  obtain rfl:=QsJ H
  subst Hx1_
  have hs:=hs.pull 3 rfl
  have hs:=hs.pull 3 rfl
  have hs:=hs.pull 3 rfl
  have hs:=hs.pull 3 rfl
  have hs:St _ [_,_,_,_] _:=St.take (Γ':=[]) hs
  refine QbG rfl ?_
  exact ha1_ _ _ ⟨x40,Hr1_,rfl,hs⟩
 intro ha1_
 have hs:=hs.pull 4 rfl
 have hs:=hs.pull 1 rfl
 have hs:=hs.pull 2 rfl
 have hs:=hs.pull 3 rfl
 have hs:=hs.pull 4 rfl
 have hs:St _ [_,_,_,_,_] _:=St.take (Γ':=[]) hs
 refine Qbk (I:=fun n_ t w=>∃ x21:Int,∃ x22:Int,∃ x23:(Ar Int 14),∃ x24:Int,∃ x25:Int,rounds (fun s=>Qa7.b0 N a6 a1 s.1 s.2.1 s.2.2.1 s.2.2.2.1 s.2.2.2.2) n_ (x21,x22,x23,x24,x25)=some o1_∧Fr t (fun O=>(pointer (some ⟨b2,0,none⟩)::O 1::O 2::pointer (some ⟨b7,0,none⟩)::pointer (some ⟨b9,0,none⟩)::pointer (some ⟨b11,0,none⟩)::int .i64 x24::int .i64 x25::O 8::O 9::oT O 1 (oT O 2 (oT O 3 (oT O 4 (oT O 5 (O 60::O 61::O 62::[]))))):List Value))∧St wb [Cells b2 (([v3,int .i64 x21,int .u64 x22]:List Value)) 117,Cells b7 (Qae a6) 27,Cells b9 ((encA (encI .i8)) (Ar.rep 14 0)) 37,Cells b11 ((encA (encI .i8)) x23) 37,Z] w) N ⟨a1.Qbp,a1.Qbf,(Ar.rep 14 0),0,0,Ho,rfl,hs⟩ ?_ ?_
 ·
  rintro _ _ ⟨x21,x22,x23,x24,x25,h,_⟩
  exact rounds_zero h
 intro n_ ih1_
 rintro t w ⟨x21,x22,x23,x24,x25,Ho,hf,hs⟩
 obtain ⟨O,rfl⟩:=hf.open
 try dsimp only [oT]
 obtain ⟨x14_,H,Hx1_⟩:=rounds_succ Ho
 have H:Qa7.b0 N a6 a1 x21 x22 x23 x24 x25=some x14_:=H
 unfold Qa7.b0 at H
 refine Qag (Qag (Qan [0,1] rfl ?_))
 refine Qab (v:=int .i64 x25) rfl rfl rfl (g_d rfl ?_)
 refine QaR (B:=decide (x25< 14)) rfl rfl rfl ?_ ?_
 ·
  intro hb
  rw [if_pos (b_dec_t hb)] at H
  refine g_d rfl (Qaa (Qaw rfl (QaS (Qag ?_))))
  refine Qa2 (J:=(fun t w=>∃ x28:Int,∃ x29:Int,∃ x30:(Ar Int 14),∃ x31:Int,Qa7.j5 N x25 x28 x29 x30 x31=some x14_∧Fr t (fun O=>(pointer (some ⟨b2,0,none⟩)::O 1::O 2::pointer (some ⟨b7,0,none⟩)::pointer (some ⟨b9,0,none⟩)::pointer (some ⟨b11,0,none⟩)::int .i64 x31::int .i64 x25::O 8::O 9::oT O 1 (oT O 2 (oT O 3 (oT O 4 (oT O 5 (O 60::O 61::O 62::[]))))):List Value))∧St wb [Cells b2 (([v3,int .i64 x28,int .u64 x29]:List Value)) 117,Cells b7 (Qae a6) 27,Cells b9 ((encA (encI .i8)) (Ar.rep 14 0)) 37,Cells b11 ((encA (encI .i8)) x30) 37,Z] w)) ?_ ?_
  ·
   rintro t w ⟨x28,x29,x30,x31,H,hf,hs⟩
   obtain ⟨O,rfl⟩:=hf.open
   try dsimp only [oT]
   unfold Qa7.j5 at H
   refine Qan [0,1,2] rfl ?_
   refine Qab (v:=int .i64 x25) rfl rfl rfl (g_d rfl ?_)
   refine Qab (v:=int .i64 (i64w (x25+1))) rfl rfl rfl (g_d rfl ?_)
   try dsimp only [set0,setS]
   refine Qab (v:=int .i64 (i64w (x25+1))) rfl rfl rfl (g_d rfl (Qaa ?_))
   obtain rfl:=QsJ H
   have hs:=hs.pull 4 rfl
   have hs:=hs.pull 4 rfl
   have hs:=hs.pull 4 rfl
   have hs:=hs.pull 4 rfl
   have hs:=hs.pull 4 rfl
   have hs:St _ [_,_,_,_,_] _:=St.take (Γ':=[]) hs
   exact ih1_ _ _ ⟨x28,x29,x30,x31,i64w (x25+1),Hx1_,rfl,hs⟩
  intro ha
  refine Qag (Qag (Qan [0,1,2,3] rfl ?_))
  refine QaG rfl rfl (es:=(Qae a6)) rfl rfl (fun _=>rfl) (n:=4) (fun _=>rfl) (QaJ.len _) (cells_all (hs.cells 1 rfl)) (g_d rfl ?_)
  try dsimp only [set0,setS]
  refine Qab (v:=int .i64 x25) rfl rfl rfl (g_d rfl ?_)
  obtain ⟨r26,Hr26,H⟩:=bind_get H
  refine QaP (args:=[agg (Qae a6).toArray,int .i64 x25]) rfl rfl (QaT rfl (callFunc_enter Try.func65 rfl rfl) rfl) (Qcc.calls (a1:=a6) (a2:=x25) Hr26) ?_
  rintro _ w ⟨rfl,hs2⟩
  have hs:St _ [_,_,_,_,_] _:=hs.call hs2
  cases r26 with
  |true=>
   rw [if_pos rfl] at H
   refine g_d rfl ?_
   refine Qab (v:=bool false) rfl rfl rfl (g_d rfl ?_)
   try dsimp only [set0,setS]
   refine Qaa (Qax rfl (QaS (Qag (Qan [0,1,2,3,4,5,6] rfl ?_))))
   refine Qab (v:=int .i64 x25) rfl rfl rfl (g_d rfl ?_)
   refine Qab (v:=pointer (some ⟨b2,0,none⟩)) rfl rfl rfl (g_d rfl ?_)
   obtain ⟨r27,Hr27,H⟩:=bind_get H
   have hs:St _ [_,_,_,_,_] _:=hs.pull 0 rfl
   have hs:=hs.pack 1
   refine QaP (args:=[pointer (some ⟨b2,0,none⟩),int .i64 3]) rfl rfl (QaT rfl (callFunc_enter Try.func63 rfl rfl) rfl) (Qbg.calls (a1:=(⟨a1.Qbh,x21,x22⟩:QaC)) (a6:=3) hs hr4 Hr27) ?_
   rintro _ w ⟨rfl,hs⟩
   have hs:=St.unpack (Γ:=[_]) hs
   have hs:St _ [_,_,_,_,_] _:=hs
   refine g_d rfl ?_
   refine Qab (v:=int .i64 (i64w (r27.1 - 1))) rfl rfl rfl (g_d rfl ?_)
   try dsimp only [set0,setS]
   refine Qab (v:=int .i8 (i8w (i64w (r27.1 - 1)))) rfl rfl rfl (g_d rfl ?_)
   obtain ⟨g3,H⟩:=ite_get H
   refine Qa1 (n:=x25) (m:=1) rfl (fun _=>rfl) g3.1 g3.2 rfl rfl rfl rfl rfl (g_d rfl ?_)
   have hs:St _ [_,_,_,_,_] _:=hs.pull 3 rfl
   refine Qcl (y:=i8w (i64w (r27.1 - 1))) (fkI .i8).len (fkI .i8).one g3.1 g3.2 hs rfl rfl rfl rfl rfl (fun _=>rfl) ?_
   intro w hs
   refine g_n rfl (Qaa (Qan [0,1,2,3,4,5,6] rfl ?_))
   refine Qab (v:=int .i64 x24) rfl rfl rfl (g_d rfl ?_)
   refine Qab (v:=int .i64 x25) rfl rfl rfl (g_d rfl ?_)
   obtain ⟨g4,H⟩:=ite_get H
   refine Qa1 (n:=x25) (m:=1) rfl (fun _=>rfl) g4.1 g4.2 rfl rfl rfl rfl rfl (g_d rfl ?_)
   try dsimp only [set0,setS]
   refine Qaz rfl rfl (v:=int .i8 ((x23.set x25 (i8w (i64w (r27.1 - 1)))).get x25 0)) rfl rfl (fun _=>rfl) (by rw [Nat.zero_add];exact cells_load (hs.cells 0 rfl) _ _ (encA_at (fkI .i8).len _ _ 0 g4.1 g4.2)) (g_d rfl ?_)
   refine Qab (v:=int .i64 (i64w ((x23.set x25 (i8w (i64w (r27.1 - 1)))).get x25 0))) rfl rfl rfl (g_d rfl ?_)
   refine Qab (v:=int .i64 (i64w (x24+(i64w ((x23.set x25 (i8w (i64w (r27.1 - 1)))).get x25 0))))) rfl rfl rfl (g_d rfl ?_)
   try dsimp only [set0,setS]
   refine Qab (v:=int .i64 (i64w (x24+(i64w ((x23.set x25 (i8w (i64w (r27.1 - 1)))).get x25 0))))) rfl rfl rfl (g_d rfl (Qaa ?_))
   refine Qa5 ?_
   have hs:=hs.pull 4 rfl
   have hs:=hs.pull 1 rfl
   have hs:=hs.pull 4 rfl
   have hs:=hs.pull 4 rfl
   have hs:=hs.pull 4 rfl
   have hs:St _ [_,_,_,_,_] _:=St.take (Γ':=[]) hs
   exact ha _ _ ⟨r27.2.Qbp,r27.2.Qbf,x23.set x25 (i8w (i64w (r27.1 - 1))),i64w (x24+(i64w ((x23.set x25 (i8w (i64w (r27.1 - 1)))).get x25 0))),H,rfl,hs⟩
  |false=>
   rw [if_neg Bool.false_ne_true] at H
   refine g_d rfl ?_
   refine Qab (v:=bool true) rfl rfl rfl (g_d rfl ?_)
   try dsimp only [set0,setS]
   refine Qaa (Qaw rfl ?_)
   refine QbG rfl ?_
   have hs:=hs.pull 4 rfl
   have hs:=hs.pull 4 rfl
   have hs:=hs.pull 4 rfl
   have hs:=hs.pull 4 rfl
   have hs:=hs.pull 4 rfl
   have hs:St _ [_,_,_,_,_] _:=St.take (Γ':=[]) hs
   exact ha _ _ ⟨x21,x22,x23,x24,H,rfl,hs⟩
 intro hb
 rw [if_neg (b_dec_f hb)] at H
 refine g_d rfl ?_
 try dsimp only [set0,setS]
 refine Qaa (Qax rfl ?_)
 obtain rfl:=QsJ H
 subst Hx1_
 have hs:=hs.pull 4 rfl
 have hs:=hs.pull 4 rfl
 have hs:=hs.pull 4 rfl
 have hs:=hs.pull 3 rfl
 have hs:St _ [_,_,_,_] _:=St.take (Γ':=[_]) hs
 refine QbG rfl ?_
 exact ha1_ _ _ ⟨x21,x22,x23,x24,Hr1_,rfl,hs⟩
def Qbb.post (w0:World) (r:Bool) (v:Value) (w:World):Prop:=v=bool r∧St w0 [] w
theorem Qbb.calls {N:Nat} {a1:Qaq} {a2:(Ar Int 14)} {w0:World} {r:Bool} (H:Qbb.f N a1 a2=some r):
 Calls Try.prog 38 #[agg (Qae a1).toArray,agg ((encA (encI .i8)) a2).toArray] w0 fun e w=>∃ v,e= .returned v∧Qbb.post w0 r v w:=by
 unfold Qbb.f at H
 have hs:St w0 [] w0:=St.refl w0
 refine calls_of_g (n:=39) Try.func38 rfl rfl ?_
 show G _ _ _ _ [_,_,_,_,_,_,_,_,_,_,_,_,_,_,_,_,_,_,_,_,_,_,_,_,_,_,_,_,_,_,_,_,_,_,_,_,_,_,_,_,_] _
 refine Qag (Qan [0,1,2] rfl ?_)
 refine Qbw hs rfl rfl (cs:=(Qae a1)) rfl rfl ?_
 intro b3 w hs
 show G _ _ _ _ [_,_,_,_,_,_,_,_,_,_,_,_,_,_,_,_,_,_,_,_,_,_,_,_,_,_,_,_,_,_,_,_,_,_,_,_,_,_,_,_,_] _
 refine Qbw hs rfl rfl (cs:=((encA (encI .i8)) a2)) rfl rfl ?_
 intro b5 w hs
 refine Qab (v:=bool false) rfl rfl rfl (Qaa (Qag (Qan [0] rfl ?_)))
 refine Qab (v:=int .i64 0) rfl rfl rfl ?_
 show G _ _ _ _ [_,_,_,_,_,_,_,_,_,_,_,_,_,_,_,_,_,_,_,_,_,_,_,_,_,_,_,_,_,_,_,_,_,_,_,_,_,_,_,_,_] _
 refine Qaa (Qag (Qag (Qan [0] rfl ?_)))
 refine Qab (v:=int .i64 0) rfl rfl rfl (Qaa ?_)
 obtain ⟨o1_,Ho,Hr1_⟩:=bind_get H
 refine Qa2 (J:=fun t w=>∃ x11:Int,Qbb.a0 N x11=some r∧Fr t (fun O=>([O 0,O 1,O 2,O 3,O 4,int .i64 x11,O 6,O 7,O 8,O 9,O 10,O 11,O 12,O 13,O 14,O 15,O 16,O 17,O 18,O 19,O 20,O 21,O 22,O 23,O 24,O 25,O 26,O 27,O 28,O 29,O 30,O 31,O 32,O 33,O 34,O 35,O 36,O 37,O 38,O 39,O 40]:List Value))∧St w0 [] w) ?_ ?_
 ·
  rintro t w ⟨x11,H,hf,hs⟩
  obtain ⟨O,rfl⟩:=hf.open
  show G _ _ _ _ [_,_,_,_,_,_,_,_,_,_,_,_,_,_,_,_,_,_,_,_,_,_,_,_,_,_,_,_,_,_,_,_,_,_,_,_,_,_,_,_,_] _
  unfold Qbb.a0 at H
  refine Qag (Qan [0,1,2] rfl ?_)
  refine Qab (v:=int .i64 x11) rfl rfl rfl ?_
  refine Qab (v:=bool (x11==0)) rfl rfl rfl ?_
  refine Qab (v:=bool (x11==0)) rfl rfl rfl (Qaa ?_)
  obtain rfl:=QsJ H
  refine QaK Try.func38 (v:=bool (x11==0)) (res1 rfl rfl) ?_
  have hs:St _ [] _:=St.take (Γ':=[]) hs
  exact ⟨_,rfl,rfl,hs⟩
 intro ha1_
 have hs:=hs.pull 0 rfl
 have hs:=hs.pull 1 rfl
 have hs:St _ [_,_] _:=St.take (Γ':=[]) hs
 refine Qbk (I:=fun n_ t w=>∃ x7:Int,∃ x8:Int,rounds (fun s=>Qbb.b0 N a2 a1 s.1 s.2) n_ (x7,x8)=some o1_∧Fr t (fun O=>([O 0,O 1,pointer (some ⟨b3,0,none⟩),pointer (some ⟨b5,0,none⟩),O 4,int .i64 x7,int .i64 x8,O 7,O 8,O 9,O 10,O 11,O 12,O 13,O 14,O 15,O 16,O 17,O 18,O 19,O 20,O 21,O 22,O 23,O 24,O 25,O 26,O 27,O 28,O 29,O 30,O 31,O 32,O 33,O 34,O 35,O 36,O 37,O 38,O 39,O 40]:List Value))∧St w0 [Cells b3 (Qae a1) 27,Cells b5 ((encA (encI .i8)) a2) 37] w) N ⟨0,0,Ho,rfl,hs⟩ ?_ ?_
 ·
  rintro _ _ ⟨x7,x8,h,_⟩
  exact rounds_zero h
 intro n_ ih1_
 rintro t w ⟨x7,x8,Ho,hf,hs⟩
 obtain ⟨O,rfl⟩:=hf.open
 show G _ _ _ _ [_,_,_,_,_,_,_,_,_,_,_,_,_,_,_,_,_,_,_,_,_,_,_,_,_,_,_,_,_,_,_,_,_,_,_,_,_,_,_,_,_] _
 obtain ⟨x5_,H,Hx1_⟩:=rounds_succ Ho
 have H:Qbb.b0 N a2 a1 x7 x8=some x5_:=H
 unfold Qbb.b0 at H
 refine Qag (Qag (Qan [0,1] rfl ?_))
 refine Qab (v:=int .i64 x8) rfl rfl rfl ?_
 refine QaR (B:=decide (x8< 14)) rfl rfl rfl ?_ ?_
 ·
  intro hb
  rw [if_pos (b_dec_t hb)] at H
  show G _ _ _ _ [_,_,_,_,_,_,_,_,_,_,_,_,_,_,_,_,_,_,_,_,_,_,_,_,_,_,_,_,_,_,_,_,_,_,_,_,_,_,_,_,_] _
  refine Qaa (Qaw rfl (QaS (Qag ?_)))
  refine QbP (Qag (Qag ?_))
  refine QcB (J:=(fun t w=>∃ x10:Bool,Qbb.j2 N x8 x7 a2 x10=some x5_∧Fr t (fun O=>([O 0,O 1,pointer (some ⟨b3,0,none⟩),pointer (some ⟨b5,0,none⟩),O 4,int .i64 x7,int .i64 x8,O 7,O 8,O 9,O 10,O 11,O 12,O 13,O 14,O 15,int .i64 x8,O 17,int .i8 (a2.get x8 0),bool (decide ((a2.get x8 0)>1)),O 20,O 21,int .i64 x8,O 23,int .i8 (a2.get x8 0),bool x10,bool x10,O 27,O 28,O 29,O 30,bool false,O 32,O 33,O 34,O 35,O 36,O 37,O 38,O 39,O 40]:List Value))∧St w0 [Cells b3 (Qae a1) 27,Cells b5 ((encA (encI .i8)) a2) 37] w)) ?_ ?_
  ·
   rintro t w ⟨x10,H,hf,hs⟩
   obtain ⟨O,rfl⟩:=hf.open
   show G _ _ _ _ [_,_,_,_,_,_,_,_,_,_,_,_,_,_,_,_,_,_,_,_,_,_,_,_,_,_,_,_,_,_,_,_,_,_,_,_,_,_,_,_,_] _
   unfold Qbb.j2 at H
   refine Qan [0,1,2,3,4,5,6] rfl ?_
   refine Qab (v:=int .i64 x7) rfl rfl rfl ?_
   refine Qab (v:=int .i64 x8) rfl rfl rfl ?_
   obtain ⟨g4,H⟩:=ite_get H
   refine Qa1 (n:=x8) (m:=1) rfl (fun _=>rfl) g4.1 g4.2 rfl rfl rfl rfl rfl ?_
   refine Qaz rfl rfl (v:=int .i8 (a2.get x8 0)) rfl rfl (fun _=>rfl) (by rw [Nat.zero_add];exact cells_load (hs.cells 1 rfl) _ _ (encA_at (fkI .i8).len _ _ 0 g4.1 g4.2)) ?_
   refine Qab (v:=int .i64 (i64w (a2.get x8 0))) rfl rfl rfl ?_
   refine Qab (v:=int .i64 (i64w (x7+(i64w (a2.get x8 0))))) rfl rfl rfl ?_
   show G _ _ _ _ [_,_,_,_,_,_,_,_,_,_,_,_,_,_,_,_,_,_,_,_,_,_,_,_,_,_,_,_,_,_,_,_,_,_,_,_,_,_,_,_,_] _
   refine Qab (v:=int .i64 (i64w (x7+(i64w (a2.get x8 0))))) rfl rfl rfl (Qaa ?_)
   refine Qa5 (Qan [0,1,2] rfl ?_)
   refine Qab (v:=int .i64 x8) rfl rfl rfl ?_
   refine Qab (v:=int .i64 (i64w (x8+1))) rfl rfl rfl ?_
   refine Qab (v:=int .i64 (i64w (x8+1))) rfl rfl rfl ?_
   show G _ _ _ _ [_,_,_,_,_,_,_,_,_,_,_,_,_,_,_,_,_,_,_,_,_,_,_,_,_,_,_,_,_,_,_,_,_,_,_,_,_,_,_,_,_] _
   refine Qaa ?_
   obtain rfl:=QsJ H
   have hs:=hs.pull 1 rfl
   have hs:=hs.pull 1 rfl
   have hs:St _ [_,_] _:=St.take (Γ':=[]) hs
   exact ih1_ _ _ ⟨i64w (x7+(i64w (a2.get x8 0))),i64w (x8+1),Hx1_,rfl,hs⟩
  intro ha
  refine Qan [0,1,2,3,4,5,6,7,8,9,10,11,12,13,14,15,16,17,18,19,20,21] rfl ?_
  refine Qab (v:=int .i64 x8) rfl rfl rfl ?_
  obtain ⟨g1,H⟩:=ite_get H
  refine Qa1 (n:=x8) (m:=1) rfl (fun _=>rfl) g1.1 g1.2 rfl rfl rfl rfl rfl ?_
  refine Qaz rfl rfl (v:=int .i8 (a2.get x8 0)) rfl rfl (fun _=>rfl) (by rw [Nat.zero_add];exact cells_load (hs.cells 1 rfl) _ _ (encA_at (fkI .i8).len _ _ 0 g1.1 g1.2)) ?_
  refine QaR (B:=decide ((a2.get x8 0)< (-1))) rfl rfl rfl ?_ ?_
  ·
   intro hb
   rw [if_pos (b_dec_t hb)] at H
   refine Qab (v:=bool true) rfl rfl rfl (Qal rfl rfl (Qal rfl rfl ?_))
   show G _ _ _ _ [_,_,_,_,_,_,_,_,_,_,_,_,_,_,_,_,_,_,_,_,_,_,_,_,_,_,_,_,_,_,_,_,_,_,_,_,_,_,_,_,_] _
   refine Qal rfl rfl (Qal rfl rfl ?_)
   refine Qab (v:=bool true) rfl rfl rfl ?_
   show G _ _ _ _ [_,_,_,_,_,_,_,_,_,_,_,_,_,_,_,_,_,_,_,_,_,_,_,_,_,_,_,_,_,_,_,_,_,_,_,_,_,_,_,_,_] _
   refine Qab (v:=bool true) rfl rfl rfl (Qal rfl rfl (Qal rfl rfl (Qal rfl rfl (Qal rfl rfl ?_))))
   show G _ _ _ _ [_,_,_,_,_,_,_,_,_,_,_,_,_,_,_,_,_,_,_,_,_,_,_,_,_,_,_,_,_,_,_,_,_,_,_,_,_,_,_,_,_] _
   refine Qal rfl rfl (Qal rfl rfl (Qal rfl rfl (Qal rfl rfl (Qal rfl rfl ?_))))
   show G _ _ _ _ [_,_,_,_,_,_,_,_,_,_,_,_,_,_,_,_,_,_,_,_,_,_,_,_,_,_,_,_,_,_,_,_,_,_,_,_,_,_,_,_,_] _
   refine Qal rfl rfl ?_
   refine Qab (v:=bool true) rfl rfl rfl (Qaa (Qaw rfl (Qag (Qan [0] rfl ?_))))
   refine Qab (v:=bool false) rfl rfl rfl ?_
   show G _ _ _ _ [_,_,_,_,_,_,_,_,_,_,_,_,_,_,_,_,_,_,_,_,_,_,_,_,_,_,_,_,_,_,_,_,_,_,_,_,_,_,_,_,_] _
   refine Qaa ?_
   obtain rfl:=QsJ H
   subst Hx1_
   have H:=QsJ Hr1_
   subst H
   refine QaK Try.func38 (v:=bool false) (res1 rfl rfl) ?_
   have hs:St _ [] _:=St.take (Γ':=[_,_]) hs
   exact ⟨_,rfl,rfl,hs⟩
  intro hb
  rw [if_neg (b_dec_f hb)] at H
  show G _ _ _ _ [_,_,_,_,_,_,_,_,_,_,_,_,_,_,_,_,_,_,_,_,_,_,_,_,_,_,_,_,_,_,_,_,_,_,_,_,_,_,_,_,_] _
  refine Qab (v:=bool false) rfl rfl rfl ?_
  refine Qab (v:=int .i64 x8) rfl rfl rfl ?_
  obtain ⟨g2,H⟩:=ite_get H
  refine Qa1 (n:=x8) (m:=1) rfl (fun _=>rfl) g2.1 g2.2 rfl rfl rfl rfl rfl ?_
  refine Qaz rfl rfl (v:=int .i8 (a2.get x8 0)) rfl rfl (fun _=>rfl) (by rw [Nat.zero_add];exact cells_load (hs.cells 1 rfl) _ _ (encA_at (fkI .i8).len _ _ 0 g2.1 g2.2)) ?_
  refine Qab (v:=bool (decide ((a2.get x8 0)>1))) rfl rfl rfl ?_
  show G _ _ _ _ [_,_,_,_,_,_,_,_,_,_,_,_,_,_,_,_,_,_,_,_,_,_,_,_,_,_,_,_,_,_,_,_,_,_,_,_,_,_,_,_,_] _
  refine QaR (B:=decide ((a2.get x8 0)>1)) rfl rfl rfl ?_ ?_
  ·
   intro hb
   rw [if_pos (b_dec_t hb)] at H
   refine Qab (v:=bool true) rfl rfl rfl (Qal rfl rfl (Qal rfl rfl (Qal rfl rfl ?_)))
   show G _ _ _ _ [_,_,_,_,_,_,_,_,_,_,_,_,_,_,_,_,_,_,_,_,_,_,_,_,_,_,_,_,_,_,_,_,_,_,_,_,_,_,_,_,_] _
   refine Qal rfl rfl (Qal rfl rfl (Qal rfl rfl (Qal rfl rfl (Qal rfl rfl ?_))))
   show G _ _ _ _ [_,_,_,_,_,_,_,_,_,_,_,_,_,_,_,_,_,_,_,_,_,_,_,_,_,_,_,_,_,_,_,_,_,_,_,_,_,_,_,_,_] _
   refine Qal rfl rfl (Qal rfl rfl ?_)
   refine Qab (v:=bool true) rfl rfl rfl ?_
   show G _ _ _ _ [_,_,_,_,_,_,_,_,_,_,_,_,_,_,_,_,_,_,_,_,_,_,_,_,_,_,_,_,_,_,_,_,_,_,_,_,_,_,_,_,_] _
   refine Qaa (Qaw rfl (Qag (Qan [0] rfl ?_)))
   refine Qab (v:=bool false) rfl rfl rfl (Qaa ?_)
   obtain rfl:=QsJ H
   subst Hx1_
   have H:=QsJ Hr1_
   subst H
   refine QaK Try.func38 (v:=bool false) (res1 rfl rfl) ?_
   have hs:St _ [] _:=St.take (Γ':=[_,_]) hs
   exact ⟨_,rfl,rfl,hs⟩
  intro hb
  rw [if_neg (b_dec_f hb)] at H
  refine Qab (v:=bool false) rfl rfl rfl ?_
  refine Qab (v:=int .i64 x8) rfl rfl rfl ?_
  obtain ⟨g3,H⟩:=ite_get H
  refine Qa1 (n:=x8) (m:=1) rfl (fun _=>rfl) g3.1 g3.2 rfl rfl rfl rfl rfl ?_
  refine Qaz rfl rfl (v:=int .i8 (a2.get x8 0)) rfl rfl (fun _=>rfl) (by rw [Nat.zero_add];exact cells_load (hs.cells 1 rfl) _ _ (encA_at (fkI .i8).len _ _ 0 g3.1 g3.2)) ?_
  show G _ _ _ _ [_,_,_,_,_,_,_,_,_,_,_,_,_,_,_,_,_,_,_,_,_,_,_,_,_,_,_,_,_,_,_,_,_,_,_,_,_,_,_,_,_] _
  refine QaR (B:=(a2.get x8 0) !=0) rfl rfl rfl ?_ ?_
  ·
   intro hb
   rw [if_neg (b_bne_t hb)] at H
   refine Qab (v:=bool true) rfl rfl rfl ?_
   refine QaG rfl rfl (es:=(Qae a1)) rfl rfl (fun _=>rfl) (n:=4) (fun _=>rfl) (QaJ.len _) (cells_all (hs.cells 0 rfl)) ?_
   refine Qab (v:=int .i64 x8) rfl rfl rfl ?_
   obtain ⟨r9,Hr9,H⟩:=bind_get H
   refine QaP (args:=[agg (Qae a1).toArray,int .i64 x8]) rfl rfl (QaT rfl (callFunc_enter Try.func65 rfl rfl) rfl) (Qcc.calls (a1:=a1) (a2:=x8) Hr9) ?_
   rintro _ w ⟨rfl,hs2⟩
   have hs:St _ [_,_] _:=hs.call hs2
   show G _ _ _ _ [_,_,_,_,_,_,_,_,_,_,_,_,_,_,_,_,_,_,_,_,_,_,_,_,_,_,_,_,_,_,_,_,_,_,_,_,_,_,_,_,_] _
   refine Qab (v:=bool (!r9)) rfl rfl rfl ?_
   refine QaR (B:=!r9) rfl rfl rfl ?_ ?_
   ·
    intro hb
    rw [if_neg (b_not_t hb)] at H
    refine Qab (v:=bool true) rfl rfl rfl (Qaa (Qaw rfl (Qag (Qan [0] rfl ?_))))
    refine Qab (v:=bool false) rfl rfl rfl ?_
    show G _ _ _ _ [_,_,_,_,_,_,_,_,_,_,_,_,_,_,_,_,_,_,_,_,_,_,_,_,_,_,_,_,_,_,_,_,_,_,_,_,_,_,_,_,_] _
    refine Qaa ?_
    obtain rfl:=QsJ H
    subst Hx1_
    have H:=QsJ Hr1_
    subst H
    refine QaK Try.func38 (v:=bool false) (res1 rfl rfl) ?_
    have hs:St _ [] _:=St.take (Γ':=[_,_]) hs
    exact ⟨_,rfl,rfl,hs⟩
   intro hb
   rw [if_pos (b_not_f hb)] at H
   refine Qab (v:=bool false) rfl rfl rfl ?_
   show G _ _ _ _ [_,_,_,_,_,_,_,_,_,_,_,_,_,_,_,_,_,_,_,_,_,_,_,_,_,_,_,_,_,_,_,_,_,_,_,_,_,_,_,_,_] _
   refine Qaa (Qax rfl (QaS ?_))
   have hs:=hs.pull 1 rfl
   have hs:=hs.pull 1 rfl
   have hs:St _ [_,_] _:=St.take (Γ':=[]) hs
   exact ha _ _ ⟨true,H,rfl,hs⟩
  intro hb
  rw [if_pos (b_bne_f hb)] at H
  refine Qab (v:=bool false) rfl rfl rfl (Qal rfl rfl (Qal rfl rfl (Qal rfl rfl ?_)))
  show G _ _ _ _ [_,_,_,_,_,_,_,_,_,_,_,_,_,_,_,_,_,_,_,_,_,_,_,_,_,_,_,_,_,_,_,_,_,_,_,_,_,_,_,_,_] _
  refine Qal rfl rfl ?_
  refine Qab (v:=bool false) rfl rfl rfl ?_
  refine Qab (v:=bool false) rfl rfl rfl ?_
  show G _ _ _ _ [_,_,_,_,_,_,_,_,_,_,_,_,_,_,_,_,_,_,_,_,_,_,_,_,_,_,_,_,_,_,_,_,_,_,_,_,_,_,_,_,_] _
  refine Qaa (Qax rfl (QaS ?_))
  have hs:=hs.pull 1 rfl
  have hs:=hs.pull 1 rfl
  have hs:St _ [_,_] _:=St.take (Γ':=[]) hs
  exact ha _ _ ⟨false,H,rfl,hs⟩
 intro hb
 rw [if_neg (b_dec_f hb)] at H
 refine Qaa (Qax rfl ?_)
 obtain rfl:=QsJ H
 subst Hx1_
 have hs:St _ [] _:=St.take (Γ':=[_,_]) hs
 refine QbG rfl ?_
 exact ha1_ _ _ ⟨x7,Hr1_,rfl,hs⟩
def QcE.post (w0:World) (r:(Ar Int 14)) (v:Value) (w:World):Prop:=v=agg ((encA (encI .i8)) r).toArray∧St w0 [] w
theorem QcE.calls {N:Nat} {a1:(List Int)} {a3:Qaq} {v2:Value} {w0:World} {r:(Ar Int 14)} (hr0:RdRow (K.int .u8) w0 v2 a1) (H:QcE.f N a1 a3=some r):
 Calls Try.prog 13 #[v2,agg (Qae a3).toArray] w0 fun e w=>∃ v,e= .returned v∧QcE.post w0 r v w:=by
 unfold QcE.f at H
 have hs:St w0 [] w0:=St.refl w0
 refine calls_of_g (n:=14) Try.func13 rfl rfl ?_
 show G _ _ _ _ [_,_,_,_,_,_,_,_,_,_,_,_,_,_,_,_] _
 refine Qag (Qan [0,1] rfl ?_)
 refine Qbw hs rfl rfl (cs:=(Qae a3)) rfl rfl ?_
 intro b4 w hs
 show G _ _ _ _ [_,_,_,_,_,_,_,_,_,_,_,_,_,_,_,_] _
 refine QbH hs rfl rfl (z:=(agg #[int .i8 0,int .i8 0,int .i8 0,int .i8 0,int .i8 0,int .i8 0,int .i8 0,int .i8 0,int .i8 0,int .i8 0,int .i8 0,int .i8 0,int .i8 0,int .i8 0])) (cs:=((encA (encI .i8)) (Ar.rep 14 0))) rfl (fun _=>rfl) rfl ?_
 intro b6 w hs
 refine Qaa (Qag ?_)
 obtain ⟨r8,Hr8,H⟩:=bind_get H
 obtain ⟨r11,Hr11,H⟩:=bind_get H
 refine QbT ?_
 intro T hT
 refine Qcg (n:=6) rfl [0,1,2,3,4,5] [0,1,2,3,4,5] rfl rfl (Inv:=fun D t w=>∃ b9:Nat,∃ b12:Nat,∃ O:Nat→Value,t=[v2,agg (Qae a3).toArray,O 2,pointer (some ⟨b4,0,none⟩),pointer (some ⟨b6,0,none⟩),cnd (D 4) (pointer (some ⟨b12,0,none⟩)) (O 5),cnd (D 0) v2 (O 6),cnd (D 1) (pointer (some ⟨b9,0,none⟩)) (O 7),cnd (D 2) (agg (Qae a3).toArray) (O 8),cnd (D 3) (agg ((encA (encI .i8)) r11.1).toArray) (O 9),O 10,O 11,O 12,O 13,O 14,O 15]∧St w0 [Asc (D 1) (Cells b9 (cnd (D 3) (([v2,int .i64 r11.2.Qbp,int .u64 r11.2.Qbf]:List Value)) (([v2,int .i64 r8.Qbp,int .u64 r8.Qbf]:List Value))) 117),Asc (D 4) (Cells b12 (cnd (D 5) ((encA (encI .i8)) r11.1) ((encA (encI .i8)) (Ar.rep 14 0))) 37),Cells b6 ((encA (encI .i8)) (Ar.rep 14 0)) 37,Cells b4 (Qae a3) 27] w) ?_ ⟨⟨⟨⟨⟨⟨trivial,?_⟩,?_⟩,?_⟩,?_⟩,?_⟩,?_⟩ ?_
 ·
  intro w hh hbw
  have hs:=hs.samew hh hbw
  have hs:=hs.emp
  have hs:=hs.emp
  exact ⟨0,0,fun i=>T.getD i undef,(by subst hT;rfl),hs⟩
 ·
  rintro D t w hD hp hcl ⟨b9,b12,O,ht,hs⟩ rest hk
  have q1_:=nz hcl 1 0 hD
  have q3_:=nz hcl 3 0 q1_
  have q5_:=nz hcl 5 1 q3_
  simp only [hD,q1_,q3_,q5_,cq,oT] at ht hs
  subst ht
  refine Qab (v:=v2) rfl rfl rfl ?_
  show G _ _ _ _ [_,_,_,_,_,_,_,_,_,_,_,_,_,_,_,_] _
  refine hk _ _ ⟨b9,b12,O,?_,hs.cast ?_⟩<;>simp only [oT,lq,cq,Nat.reduceBEq,q1_,q3_,q5_]
 ·
  rintro D t w hD hp hcl ⟨b9,b12,O,ht,hs⟩ rest hk
  obtain ⟨p0_,_⟩:=hp
  have q3_:=nz hcl 3 0 hD
  have q5_:=nz hcl 5 1 q3_
  simp only [hD,p0_,q3_,q5_,cq,oT] at ht hs
  subst ht
  refine QaP (args:=[v2]) rfl rfl (QaT rfl (callFunc_enter Try.func36 rfl rfl) rfl) (Qcm.calls (a1:=a1) (hs.rd hr0) Hr8) ?_
  rintro _ w ⟨b9,rfl,hs2⟩
  have hs:St _ [_,_,_,_,_] _:=hs.call hs2
  show G _ _ _ _ [_,_,_,_,_,_,_,_,_,_,_,_,_,_,_,_] _
  have hs:=hs.fill 0 rfl
  refine hk _ _ ⟨b9,b12,O,?_,hs.cast ?_⟩<;>simp only [oT,lq,cq,Nat.reduceBEq,p0_,q3_,q5_]
 ·
  rintro D t w hD hp hcl ⟨b9,b12,O,ht,hs⟩ rest hk
  have q3_:=nz hcl 3 1 hD
  have q5_:=nz hcl 5 1 q3_
  simp only [hD,q3_,q5_,cq,oT] at ht hs
  subst ht
  refine QaG rfl rfl (es:=(Qae a3)) rfl rfl (fun _=>rfl) (n:=4) (fun _=>rfl) (QaJ.len _) (cells_all (hs.cells 3 rfl)) ?_
  show G _ _ _ _ [_,_,_,_,_,_,_,_,_,_,_,_,_,_,_,_] _
  refine hk _ _ ⟨b9,b12,O,?_,hs.cast ?_⟩<;>simp only [oT,lq,cq,Nat.reduceBEq,q3_,q5_]
 ·
  rintro D t w hD hp hcl ⟨b9,b12,O,ht,hs⟩ rest hk
  obtain ⟨p1_,p2_,_,_⟩:=hp
  obtain ⟨p0_,_⟩:=(hcl.get 1 (by decide)) p1_
  have q5_:=nz hcl 5 1 hD
  simp only [hD,p0_,p1_,p2_,q5_,cq,oT] at ht hs
  subst ht
  have hs:St _ [_,_,_,_] _:=hs.pull 0 rfl
  have hs:=hs.pack 1
  refine QaP (args:=[pointer (some ⟨b9,0,none⟩),agg (Qae a3).toArray]) rfl rfl (QaT rfl (callFunc_enter Try.func37 rfl rfl) rfl) (Qa7.calls (a1:=(⟨a1,r8.Qbp,r8.Qbf⟩:QaC)) (a6:=a3) hs hr0 Hr11) ?_
  rintro _ w ⟨rfl,hs⟩
  have hs:=St.unpack (Γ:=[_]) hs
  have hs:St _ [_,_,_,_] _:=hs
  show G _ _ _ _ [_,_,_,_,_,_,_,_,_,_,_,_,_,_,_,_] _
  have hs:=hs.push 0 (by simp)
  refine hk _ _ ⟨b9,b12,O,?_,hs.cast ?_⟩<;>simp only [oT,lq,cq,Nat.reduceBEq,p0_,p1_,p2_,q5_]
 ·
  rintro D t w hD hp hcl ⟨b9,b12,O,ht,hs⟩ rest hk
  have q5_:=nz hcl 5 0 hD
  simp only [hD,q5_,cq,oT] at ht hs
  subst ht
  refine QbH hs rfl rfl (z:=(agg #[int .i8 0,int .i8 0,int .i8 0,int .i8 0,int .i8 0,int .i8 0,int .i8 0,int .i8 0,int .i8 0,int .i8 0,int .i8 0,int .i8 0,int .i8 0,int .i8 0])) (cs:=((encA (encI .i8)) (Ar.rep 14 0))) rfl (fun _=>rfl) rfl ?_
  intro b12 w hs
  show G _ _ _ _ [_,_,_,_,_,_,_,_,_,_,_,_,_,_,_,_] _
  have hs:=hs.fill 1 rfl
  refine hk _ _ ⟨b9,b12,O,?_,hs.cast ?_⟩<;>simp only [oT,lq,cq,Nat.reduceBEq,q5_]
 ·
  rintro D t w hD hp hcl ⟨b9,b12,O,ht,hs⟩ rest hk
  obtain ⟨p4_,p3_,_,p0_,p1_,p2_,_,_,_⟩:=hp
  simp only [hD,p0_,p1_,p2_,p3_,p4_,cq,oT] at ht hs
  subst ht
  have hs:St _ [_,_,_,_] _:=hs.pull 1 rfl
  refine Qa9 (n:=14) hs ((fkA (n:=14) (he:=(fkI .i8).len) (h1:=(fkI .i8).one)).len _) rfl rfl (vs:=((encA (encI .i8)) r11.1)) rfl rfl rfl (fun _=>rfl) ((fkA (n:=14) (he:=(fkI .i8).len) (h1:=(fkI .i8).one)).len _) ((fkA (n:=14) (he:=(fkI .i8).len) (h1:=(fkI .i8).one)).one _) ?_
  intro w hs
  show G _ _ _ _ [_,_,_,_,_,_,_,_,_,_,_,_,_,_,_,_] _
  have hs:=hs.push 1 (by simp)
  refine hk _ _ ⟨b9,b12,O,?_,hs.cast ?_⟩<;>simp only [oT,lq,cq,Nat.reduceBEq,p0_,p1_,p2_,p3_,p4_]
 intro D t w hall hI
 obtain ⟨b9,b12,O,ht,hs⟩:=hI
 have p0_:=hall 0 (by decide)
 have p1_:=hall 1 (by decide)
 have p2_:=hall 2 (by decide)
 have p3_:=hall 3 (by decide)
 have p4_:=hall 4 (by decide)
 have p5_:=hall 5 (by decide)
 simp only [p0_,p1_,p2_,p3_,p4_,p5_,cq,oT] at ht hs
 subst ht
 refine Qag (Qag (Qan [0,1,2,3] rfl ?_))
 refine QaG rfl rfl (es:=(Qae a3)) rfl rfl (fun _=>rfl) (n:=4) (fun _=>rfl) (QaJ.len _) (cells_all (hs.cells 3 rfl)) ?_
 refine QaG rfl rfl (es:=((encA (encI .i8)) r11.1)) rfl rfl (fun _=>rfl) (n:=14) (fun _=>rfl) ((fkA (n:=14) (he:=(fkI .i8).len) (h1:=(fkI .i8).one)).len _) (cells_all (hs.cells 1 rfl)) ?_
 show G _ _ _ _ [_,_,_,_,_,_,_,_,_,_,_,_,_,_,_,_] _
 obtain ⟨r16,Hr16,H⟩:=bind_get H
 refine QaP (args:=[agg (Qae a3).toArray,agg ((encA (encI .i8)) r11.1).toArray]) rfl rfl (QaT rfl (callFunc_enter Try.func38 rfl rfl) rfl) (Qbb.calls (a1:=a3) (a2:=r11.1) Hr16) ?_
 rintro _ w ⟨rfl,hs2⟩
 have hs:St _ [_,_,_,_] _:=hs.call hs2
 cases r16 with
 |true=>
  rw [if_pos rfl] at H
  refine Qab (v:=bool false) rfl rfl rfl (Qaa (Qax rfl (QaS (Qag (Qan [0,1] rfl ?_)))))
  refine QaG rfl rfl (es:=((encA (encI .i8)) r11.1)) rfl rfl (fun _=>rfl) (n:=14) (fun _=>rfl) ((fkA (n:=14) (he:=(fkI .i8).len) (h1:=(fkI .i8).one)).len _) (cells_all (hs.cells 1 rfl)) ?_
  show G _ _ _ _ [_,_,_,_,_,_,_,_,_,_,_,_,_,_,_,_] _
  have hs:St _ [_,_,_,_] _:=hs.pull 2 rfl
  refine Qa9 (n:=14) hs ((fkA (n:=14) (he:=(fkI .i8).len) (h1:=(fkI .i8).one)).len _) rfl rfl (vs:=((encA (encI .i8)) r11.1)) rfl rfl rfl (fun _=>rfl) ((fkA (n:=14) (he:=(fkI .i8).len) (h1:=(fkI .i8).one)).len _) ((fkA (n:=14) (he:=(fkI .i8).len) (h1:=(fkI .i8).one)).one _) ?_
  intro w hs
  refine Qaa ?_
  obtain rfl:=QsJ H
  refine QaK Try.func13 (v:=agg ((encA (encI .i8)) r11.1).toArray) (resC rfl ⟨⟨_,rfl,(run_loadVar_agg (es:=((encA (encI .i8)) r11.1)) rfl (congrArg (Result.ok · _) ((fkA (n:=14) (he:=(fkI .i8).len) (h1:=(fkI .i8).one)).len _).symm) (cells_all (hs.cells 0 rfl)))⟩,trivial⟩) ?_
  have hs:St _ [] _:=St.take (Γ':=[_,_,_,_]) hs
  exact ⟨_,rfl,rfl,hs⟩
 |false=>
  rw [if_neg Bool.false_ne_true] at H
  refine Qab (v:=bool true) rfl rfl rfl (Qaa (Qaw rfl (Qag (Qan [0,1] rfl ?_))))
  refine Qab (v:=agg ((encA (encI .i8)) (Ar.rep 14 0)).toArray) rfl rfl (Qcr rfl rfl) ?_
  show G _ _ _ _ [_,_,_,_,_,_,_,_,_,_,_,_,_,_,_,_] _
  have hs:St _ [_,_,_,_] _:=hs.pull 2 rfl
  refine Qa9 (n:=14) hs ((fkA (n:=14) (he:=(fkI .i8).len) (h1:=(fkI .i8).one)).len _) rfl rfl (vs:=((encA (encI .i8)) (Ar.rep 14 0))) rfl rfl rfl (fun _=>rfl) ((fkA (n:=14) (he:=(fkI .i8).len) (h1:=(fkI .i8).one)).len _) ((fkA (n:=14) (he:=(fkI .i8).len) (h1:=(fkI .i8).one)).one _) ?_
  intro w hs
  refine Qaa ?_
  obtain rfl:=QsJ H
  refine QaK Try.func13 (v:=agg ((encA (encI .i8)) (Ar.rep 14 0)).toArray) (resC rfl ⟨⟨_,rfl,(run_loadVar_agg (es:=((encA (encI .i8)) (Ar.rep 14 0))) rfl (congrArg (Result.ok · _) ((fkA (n:=14) (he:=(fkI .i8).len) (h1:=(fkI .i8).one)).len _).symm) (cells_all (hs.cells 0 rfl)))⟩,trivial⟩) ?_
  have hs:St _ [] _:=St.take (Γ':=[_,_,_,_]) hs
  exact ⟨_,rfl,rfl,hs⟩
def Qb0.post (w0:World) (r:Bool) (v:Value) (w:World):Prop:=v=bool r∧St w0 [] w
theorem Qb0.calls {N:Nat} {a1:Int} {a2:Int} {a3:Int} {w0:World} {r:Bool} (H:Qb0.f N a1 a2 a3=some r):
 Calls Try.prog 31 #[int .i64 a1,int .i64 a2,int .i64 a3] w0 fun e w=>∃ v,e= .returned v∧Qb0.post w0 r v w:=by
 unfold Qb0.f at H
 have hs:St w0 [] w0:=St.refl w0
 refine calls_of_g (n:=12) Try.func31 rfl rfl ?_
 show G _ _ _ _ [_,_,_,_,_,_,_,_,_,_,_,_,_,_,_] _
 refine Qag (Qan [0] rfl ?_)
 refine Qab (v:=bool false) rfl rfl rfl (Qaa (Qag (Qan [0,1,2,3,4,5,6,7,8] rfl ?_)))
 refine Qab (v:=int .i64 a2) rfl rfl rfl ?_
 show G _ _ _ _ [_,_,_,_,_,_,_,_,_,_,_,_,_,_,_] _
 refine Qab (v:=int .i64 a1) rfl rfl rfl ?_
 refine QaR (B:=decide (a2≤a1)) rfl rfl rfl ?_ ?_
 ·
  intro hb
  rw [if_pos (b_dec_t hb)] at H
  show G _ _ _ _ [_,_,_,_,_,_,_,_,_,_,_,_,_,_,_] _
  refine Qab (v:=bool true) rfl rfl rfl ?_
  refine Qab (v:=int .i64 a1) rfl rfl rfl ?_
  refine Qab (v:=int .i64 a3) rfl rfl rfl ?_
  show G _ _ _ _ [_,_,_,_,_,_,_,_,_,_,_,_,_,_,_] _
  refine Qab (v:=bool (decide (a1≤a3))) rfl rfl rfl ?_
  refine Qab (v:=bool (decide (a1≤a3))) rfl rfl rfl ?_
  refine Qab (v:=bool (decide (a1≤a3))) rfl rfl rfl ?_
  show G _ _ _ _ [_,_,_,_,_,_,_,_,_,_,_,_,_,_,_] _
  refine Qaa ?_
  obtain rfl:=QsJ H
  refine QaK Try.func31 (v:=bool (decide (a1≤a3))) (res1 rfl rfl) ?_
  have hs:St _ [] _:=St.take (Γ':=[]) hs
  exact ⟨_,rfl,rfl,hs⟩
 intro hb
 rw [if_neg (b_dec_f hb)] at H
 refine Qab (v:=bool false) rfl rfl rfl ?_
 show G _ _ _ _ [_,_,_,_,_,_,_,_,_,_,_,_,_,_,_] _
 refine Qal rfl rfl (Qal rfl rfl (Qal rfl rfl ?_))
 show G _ _ _ _ [_,_,_,_,_,_,_,_,_,_,_,_,_,_,_] _
 refine Qab (v:=bool false) rfl rfl rfl ?_
 refine Qab (v:=bool false) rfl rfl rfl (Qaa ?_)
 obtain rfl:=QsJ H
 refine QaK Try.func31 (v:=bool false) (res1 rfl rfl) ?_
 have hs:St _ [] _:=St.take (Γ':=[]) hs
 exact ⟨_,rfl,rfl,hs⟩
def QcH.post (w0:World) (r:Bool) (v:Value) (w:World):Prop:=v=bool r∧St w0 [] w
theorem QcH.calls {N:Nat} {a1:Int} {w0:World} {r:Bool} (H:QcH.f N a1=some r):
 Calls Try.prog 49 #[int .i64 a1] w0 fun e w=>∃ v,e= .returned v∧QcH.post w0 r v w:=by
 unfold QcH.f at H
 have hs:St w0 [] w0:=St.refl w0
 refine calls_of_g (n:=4) Try.func49 rfl rfl ?_
 show G _ _ _ _ [_,_,_,_,_] _
 refine Qag (Qan [0] rfl ?_)
 refine Qab (v:=bool false) rfl rfl rfl (Qaa (Qag (Qan [0,1,2] rfl ?_)))
 refine Qab (v:=int .i64 a1) rfl rfl rfl ?_
 obtain ⟨r2,Hr2,H⟩:=bind_get H
 refine QaP (args:=[int .i64 a1,int .i64 0,int .i64 2]) rfl rfl (QaT rfl (callFunc_enter Try.func31 rfl rfl) rfl) (Qb0.calls (a1:=a1) (a2:=0) (a3:=2) Hr2) ?_
 rintro _ w ⟨rfl,hs2⟩
 have hs:St _ [] _:=hs.call hs2
 show G _ _ _ _ [_,_,_,_,_] _
 refine Qab (v:=bool r2) rfl rfl rfl (Qaa ?_)
 obtain rfl:=QsJ H
 refine QaK Try.func49 (v:=bool r2) (res1 rfl rfl) ?_
 have hs:St _ [] _:=St.take (Γ':=[]) hs
 exact ⟨_,rfl,rfl,hs⟩
def Qbr.post (w0:World) (r:Bool) (v:Value) (w:World):Prop:=v=bool r∧St w0 [] w
theorem Qbr.calls {N:Nat} {a1:Qaq} {w0:World} {r:Bool} (H:Qbr.f N a1=some r):
 Calls Try.prog 21 #[agg (Qae a1).toArray] w0 fun e w=>∃ v,e= .returned v∧Qbr.post w0 r v w:=by
 unfold Qbr.f at H
 have hs:St w0 [] w0:=St.refl w0
 refine calls_of_g (n:=12) Try.func21 rfl rfl ?_
 show G _ _ _ _ [_,_,_,_,_,_,_,_,_,_,_,_,_] _
 refine Qag (Qan [0,1] rfl ?_)
 refine Qbw hs rfl rfl (cs:=(Qae a1)) rfl rfl ?_
 intro b2 w hs
 show G _ _ _ _ [_,_,_,_,_,_,_,_,_,_,_,_,_] _
 refine Qab (v:=bool false) rfl rfl rfl (Qaa (Qag (Qan [0,1,2,3,4,5,6,7,8,9,10] rfl ?_)))
 refine Qab (v:=pointer (some ⟨b2,0,none⟩)) rfl rfl rfl ?_
 refine Qaz rfl rfl (v:=int .i8 a1.QaF) rfl rfl (fun _=>rfl) (cells_load (hs.cells 0 rfl) 0 1 rfl) ?_
 show G _ _ _ _ [_,_,_,_,_,_,_,_,_,_,_,_,_] _
 refine Qab (v:=int .i64 (i64w a1.QaF)) rfl rfl rfl ?_
 obtain ⟨r4,Hr4,H⟩:=bind_get H
 refine QaP (args:=[int .i64 (i64w a1.QaF),int .i64 1,int .i64 13]) rfl rfl (QaT rfl (callFunc_enter Try.func31 rfl rfl) rfl) (Qb0.calls (a1:=i64w a1.QaF) (a2:=1) (a3:=13) Hr4) ?_
 rintro _ w ⟨rfl,hs2⟩
 have hs:St _ [_] _:=hs.call hs2
 cases r4 with
 |true=>
  rw [if_pos rfl] at H
  refine Qab (v:=bool true) rfl rfl rfl ?_
  refine Qab (v:=pointer (some ⟨b2,1,none⟩)) rfl rfl rfl ?_
  show G _ _ _ _ [_,_,_,_,_,_,_,_,_,_,_,_,_] _
  refine Qaz rfl rfl (v:=int .i8 a1.Qa0) rfl rfl (fun _=>rfl) (cells_load (hs.cells 0 rfl) 1 1 rfl) ?_
  refine Qab (v:=int .i64 (i64w a1.Qa0)) rfl rfl rfl ?_
  obtain ⟨r5,Hr5,H⟩:=bind_get H
  refine QaP (args:=[int .i64 (i64w a1.Qa0)]) rfl rfl (QaT rfl (callFunc_enter Try.func49 rfl rfl) rfl) (QcH.calls (a1:=i64w a1.Qa0) Hr5) ?_
  rintro _ w ⟨rfl,hs2⟩
  have hs:St _ [_] _:=hs.call hs2
  show G _ _ _ _ [_,_,_,_,_,_,_,_,_,_,_,_,_] _
  refine Qab (v:=bool r5) rfl rfl rfl ?_
  refine Qab (v:=bool r5) rfl rfl rfl (Qaa ?_)
  obtain rfl:=QsJ H
  refine QaK Try.func21 (v:=bool r5) (res1 rfl rfl) ?_
  have hs:St _ [] _:=St.take (Γ':=[_]) hs
  exact ⟨_,rfl,rfl,hs⟩
 |false=>
  rw [if_neg Bool.false_ne_true] at H
  refine Qab (v:=bool false) rfl rfl rfl ?_
  show G _ _ _ _ [_,_,_,_,_,_,_,_,_,_,_,_,_] _
  refine Qal rfl rfl (Qal rfl rfl (Qal rfl rfl ?_))
  show G _ _ _ _ [_,_,_,_,_,_,_,_,_,_,_,_,_] _
  refine Qal rfl rfl ?_
  refine Qab (v:=bool false) rfl rfl rfl ?_
  refine Qab (v:=bool false) rfl rfl rfl ?_
  show G _ _ _ _ [_,_,_,_,_,_,_,_,_,_,_,_,_] _
  refine Qaa ?_
  obtain rfl:=QsJ H
  refine QaK Try.func21 (v:=bool false) (res1 rfl rfl) ?_
  have hs:St _ [] _:=St.take (Γ':=[_]) hs
  exact ⟨_,rfl,rfl,hs⟩
def Qbi.post (w0:World) (r:(List Qai)) (v:Value) (w:World):Prop:=St w0 [Row 53 Qah v r] w
theorem Qbi.calls {N:Nat} {a1:Int} {a2:Int} {a3:Bool} {w0:World} {r:(List Qai)} (H:Qbi.f N a1 a2 a3=some r):
 Calls Try.prog 67 #[int .i64 a1,int .i8 a2,bool a3] w0 fun e w=>∃ v,e= .returned v∧Qbi.post w0 r v w:=by
 unfold Qbi.f at H
 have hs:St w0 [] w0:=St.refl w0
 refine calls_of_g (n:=34) Try.func67 rfl rfl ?_
 show G _ _ _ _ [_,_,_,_,_,_,_,_,_,_,_,_,_,_,_,_,_,_,_,_,_,_,_,_,_,_,_,_,_,_,_,_,_,_,_,_,_] _
 refine Qag (Qan [0] rfl ?_)
 refine Qab (v:=slice none 0 0) rfl rfl rfl (Qaa (Qag (Qan [0,1] rfl ?_)))
 refine QcU (κ:=Qah) hs rfl rfl rfl rfl (fun _=>rfl) ?_
 intro v4 w hs
 show G _ _ _ _ [_,_,_,_,_,_,_,_,_,_,_,_,_,_,_,_,_,_,_,_,_,_,_,_,_,_,_,_,_,_,_,_,_,_,_,_,_] _
 refine Qab (v:=v4) rfl rfl rfl (Qaa (Qag (Qag ?_)))
 refine QcB (J:=(fun t w=>∃ v10:Value,∃ x11:(List Qai),Qbi.j0 N a1 a2 x11=some r∧Fr t (fun O=>([int .i64 a1,int .i8 a2,O 2,O 3,O 4,O 5,O 6,v10,O 8,O 9,O 10,O 11,O 12,O 13,O 14,O 15,O 16,O 17,O 18,O 19,O 20,O 21,O 22,O 23,O 24,O 25,O 26,O 27,O 28,O 29,O 30,O 31,O 32,O 33,O 34,O 35,O 36]:List Value))∧St w0 [Row 53 Qah v10 x11] w)) ?_ ?_
 ·
  rintro t w ⟨v10,x11,H,hf,hs⟩
  obtain ⟨O,rfl⟩:=hf.open
  show G _ _ _ _ [_,_,_,_,_,_,_,_,_,_,_,_,_,_,_,_,_,_,_,_,_,_,_,_,_,_,_,_,_,_,_,_,_,_,_,_,_] _
  unfold Qbi.j0 at H
  refine Qag (Qag (Qan [0,1] rfl ?_))
  refine Qab (v:=int .i64 a1) rfl rfl rfl ?_
  refine Qab (v:=int .i64 0) rfl rfl rfl (Qaa ?_)
  obtain ⟨o1_,Ho,Hr1_⟩:=bind_get H
  refine Qa2 (J:=fun t w=>∃ v31:Value,∃ x32:(List Qai),Qbi.a1 N x32=some r∧Fr t (fun O=>([O 0,O 1,O 2,O 3,O 4,O 5,O 6,v31,O 8,O 9,O 10,O 11,O 12,O 13,O 14,O 15,O 16,O 17,O 18,O 19,O 20,O 21,O 22,O 23,O 24,O 25,O 26,O 27,O 28,O 29,O 30,O 31,O 32,O 33,O 34,O 35,O 36]:List Value))∧St w0 [Row 53 Qah v31 x32] w) ?_ ?_
  ·
   rintro t w ⟨v31,x32,H,hf,hs⟩
   obtain ⟨O,rfl⟩:=hf.open
   show G _ _ _ _ [_,_,_,_,_,_,_,_,_,_,_,_,_,_,_,_,_,_,_,_,_,_,_,_,_,_,_,_,_,_,_,_,_,_,_,_,_] _
   unfold Qbi.a1 at H
   refine Qag (Qan [0,1] rfl ?_)
   refine Qab (v:=v31) rfl rfl rfl ?_
   refine Qab (v:=v31) rfl rfl rfl (Qaa ?_)
   obtain rfl:=QsJ H
   refine QaK Try.func67 (v:=v31) (res1 rfl rfl) ?_
   have hs:=hs.pull 0 rfl
   have hs:St _ [_] _:=St.take (Γ':=[]) hs
   exact ⟨_,rfl,hs⟩
  intro ha1_
  have hs:=hs.pull 0 rfl
  have hs:St _ [_] _:=St.take (Γ':=[]) hs
  refine Qbk (I:=fun n_ t w=>∃ v14:Value,∃ x15:(List Qai),∃ x16:Int,rounds (fun s=>Qbi.b1 N a1 a2 s.1 s.2) n_ (x15,x16)=some o1_∧Fr t (fun O=>([O 0,int .i8 a2,O 2,O 3,O 4,O 5,O 6,v14,O 8,O 9,O 10,O 11,O 12,O 13,O 14,int .i64 a1,int .i64 x16,O 17,O 18,O 19,O 20,O 21,O 22,O 23,O 24,O 25,O 26,O 27,O 28,O 29,O 30,O 31,O 32,O 33,O 34,O 35,O 36]:List Value))∧St w0 [Row 53 Qah v14 x15] w) N ⟨v10,x11,0,Ho,rfl,hs⟩ ?_ ?_
  ·
   rintro _ _ ⟨v14,x15,x16,h,_⟩
   exact rounds_zero h
  intro n_ ih1_
  rintro t w ⟨v14,x15,x16,Ho,hf,hs⟩
  obtain ⟨O,rfl⟩:=hf.open
  show G _ _ _ _ [_,_,_,_,_,_,_,_,_,_,_,_,_,_,_,_,_,_,_,_,_,_,_,_,_,_,_,_,_,_,_,_,_,_,_,_,_] _
  obtain ⟨x1_,H,Hx1_⟩:=rounds_succ Ho
  have H:Qbi.b1 N a1 a2 x15 x16=some x1_:=H
  unfold Qbi.b1 at H
  refine Qag (Qan [0] rfl ?_)
  refine QaR (B:=decide (x16< a1)) rfl rfl rfl ?_ ?_
  ·
   intro hb
   rw [if_pos (b_dec_t hb)] at H
   refine Qaa (Qag (Qaw rfl (QaS (Qag ?_))))
   refine Qa2 (J:=(fun t w=>∃ v28:Value,∃ x29:(List Qai),Qbi.j3 N x16 x29=some x1_∧Fr t (fun O=>([O 0,int .i8 a2,O 2,O 3,O 4,O 5,O 6,v28,O 8,O 9,O 10,O 11,O 12,O 13,O 14,int .i64 a1,int .i64 x16,O 17,O 18,O 19,O 20,O 21,O 22,O 23,O 24,O 25,O 26,O 27,O 28,O 29,O 30,O 31,O 32,O 33,O 34,O 35,O 36]:List Value))∧St w0 [Row 53 Qah v28 x29] w)) ?_ ?_
   ·
    rintro t w ⟨v28,x29,H,hf,hs⟩
    obtain ⟨O,rfl⟩:=hf.open
    show G _ _ _ _ [_,_,_,_,_,_,_,_,_,_,_,_,_,_,_,_,_,_,_,_,_,_,_,_,_,_,_,_,_,_,_,_,_,_,_,_,_] _
    unfold Qbi.j3 at H
    refine Qan [0,1] rfl ?_
    refine Qab (v:=int .i64 (i64w (x16+1))) rfl rfl rfl ?_
    refine Qab (v:=int .i64 (i64w (x16+1))) rfl rfl rfl (Qaa ?_)
    obtain rfl:=QsJ H
    have hs:=hs.pull 0 rfl
    have hs:St _ [_] _:=St.take (Γ':=[]) hs
    exact ih1_ _ _ ⟨v28,x29,i64w (x16+1),Hx1_,rfl,hs⟩
   intro ha
   refine Qag (Qan [0,1] rfl ?_)
   refine Qab (v:=int .i64 x16) rfl rfl rfl ?_
   refine Qab (v:=int .i64 x16) rfl rfl rfl ?_
   show G _ _ _ _ [_,_,_,_,_,_,_,_,_,_,_,_,_,_,_,_,_,_,_,_,_,_,_,_,_,_,_,_,_,_,_,_,_,_,_,_,_] _
   refine Qaa (Qag (Qag ?_))
   refine QcB (J:=(fun t w=>∃ v21:Value,∃ x22:(List Qai),Qbi.j4 N a2 x16 x22=some x1_∧Fr t (fun O=>([O 0,int .i8 a2,O 2,O 3,O 4,O 5,O 6,v21,int .i64 x16,O 9,O 10,O 11,O 12,O 13,O 14,int .i64 a1,int .i64 x16,O 17,O 18,O 19,O 20,O 21,O 22,O 23,O 24,O 25,O 26,O 27,O 28,O 29,O 30,O 31,O 32,O 33,O 34,O 35,O 36]:List Value))∧St w0 [Row 53 Qah v21 x22] w)) ?_ ?_
   ·
    rintro t w ⟨v21,x22,H,hf,hs⟩
    obtain ⟨O,rfl⟩:=hf.open
    show G _ _ _ _ [_,_,_,_,_,_,_,_,_,_,_,_,_,_,_,_,_,_,_,_,_,_,_,_,_,_,_,_,_,_,_,_,_,_,_,_,_] _
    unfold Qbi.j4 at H
    refine Qag (Qan [0,1] rfl ?_)
    refine Qab (v:=int .i8 a2) rfl rfl rfl ?_
    refine QaR (B:=a2 !=0) rfl rfl rfl ?_ ?_
    ·
     intro hb
     rw [if_neg (b_bne_t hb)] at H
     show G _ _ _ _ [_,_,_,_,_,_,_,_,_,_,_,_,_,_,_,_,_,_,_,_,_,_,_,_,_,_,_,_,_,_,_,_,_,_,_,_,_] _
     refine Qaa (Qaw rfl (Qan [0,1,2,3,4,5,6] rfl ?_))
     refine Qab (v:=v21) rfl rfl rfl ?_
     refine Qab (v:=int .i64 x16) rfl rfl rfl ?_
     refine Qab (v:=int .i8 (i8w x16)) rfl rfl rfl ?_
     show G _ _ _ _ [_,_,_,_,_,_,_,_,_,_,_,_,_,_,_,_,_,_,_,_,_,_,_,_,_,_,_,_,_,_,_,_,_,_,_,_,_] _
     refine Qab (v:=agg (Qau (⟨i8w x16,false⟩:Qai)).toArray) rfl rfl (Qcn (cs:=(Qau (⟨i8w x16,false⟩:Qai))) (segs:=[[int .i8 0],[bool false]]) rfl rfl (fun _=>rfl) ⟨rfl,(fun _=>rfl),rfl,(fun _=>rfl),trivial⟩ (by simp only [List.map_cons,List.map_nil,List.forall_mem_cons,List.not_mem_nil,false_implies,implies_true,and_true];exact ⟨⟨_,rfl,rfl⟩,⟨_,rfl,rfl⟩⟩) (by first|rfl|(simp [ev,Qau];done)|(simp [ev,Qau];rfl))) ?_
     show G _ _ _ _ [_,_,_,_,_,_,_,_,_,_,_,_,_,_,_,_,_,_,_,_,_,_,_,_,_,_,_,_,_,_,_,_,_,_,_,_,_] _
     refine Qcx QaL (y:=(⟨i8w x16,false⟩:Qai)) hs rfl rfl rfl rfl (fun _=>rfl) (zv:=(agg #[int .i8 0,bool false])) (fun _=>rfl) rfl (by decide) (by decide) rfl ?_
     intro v24 w hs
     show G _ _ _ _ [_,_,_,_,_,_,_,_,_,_,_,_,_,_,_,_,_,_,_,_,_,_,_,_,_,_,_,_,_,_,_,_,_,_,_,_,_] _
     have hs:St _ [_,_] _:=hs.pull 1 rfl
     obtain ⟨g,H⟩:=ite_get H
     refine Qcf QaL (zv:=(agg #[int .i8 0,bool false])) (B:=2) hs (hs.row 1 rfl) rfl rfl rfl rfl rfl rfl rfl rfl rfl (by decide) rfl rfl (by decide) (by omega) ?_
     intro v26 w hs
     refine Qab (v:=v26) rfl rfl rfl (Qaa ?_)
     refine Qa5 ?_
     have hs:=hs.pull 0 rfl
     have hs:St _ [_] _:=St.take (Γ':=[_]) hs
     exact ha _ _ ⟨v26,x22++([(⟨i8w x16,false⟩:Qai)]),H,rfl,hs⟩
    intro hb
    rw [if_pos (b_bne_f hb)] at H
    refine Qaa (Qax rfl (QaS ?_))
    refine Qa5 ?_
    have hs:=hs.pull 0 rfl
    have hs:St _ [_] _:=St.take (Γ':=[]) hs
    exact ha _ _ ⟨v21,x22,H,rfl,hs⟩
   intro ha
   refine Qan [0,1] rfl ?_
   refine Qab (v:=int .i8 a2) rfl rfl rfl ?_
   refine QaR (B:=a2 !=1) rfl rfl rfl ?_ ?_
   ·
    intro hb
    rw [if_neg (b_bne_t hb)] at H
    refine Qaa (Qaw rfl (Qan [0,1,2,3,4,5,6] rfl ?_))
    refine Qab (v:=v14) rfl rfl rfl ?_
    refine Qab (v:=int .i64 x16) rfl rfl rfl ?_
    refine Qab (v:=int .i8 (i8w x16)) rfl rfl rfl ?_
    show G _ _ _ _ [_,_,_,_,_,_,_,_,_,_,_,_,_,_,_,_,_,_,_,_,_,_,_,_,_,_,_,_,_,_,_,_,_,_,_,_,_] _
    refine Qab (v:=agg (Qau (⟨i8w x16,true⟩:Qai)).toArray) rfl rfl (Qcn (cs:=(Qau (⟨i8w x16,true⟩:Qai))) (segs:=[[int .i8 0],[bool false]]) rfl rfl (fun _=>rfl) ⟨rfl,(fun _=>rfl),rfl,(fun _=>rfl),trivial⟩ (by simp only [List.map_cons,List.map_nil,List.forall_mem_cons,List.not_mem_nil,false_implies,implies_true,and_true];exact ⟨⟨_,rfl,rfl⟩,⟨_,rfl,rfl⟩⟩) (by first|rfl|(simp [ev,Qau];done)|(simp [ev,Qau];rfl))) ?_
    show G _ _ _ _ [_,_,_,_,_,_,_,_,_,_,_,_,_,_,_,_,_,_,_,_,_,_,_,_,_,_,_,_,_,_,_,_,_,_,_,_,_] _
    refine Qcx QaL (y:=(⟨i8w x16,true⟩:Qai)) hs rfl rfl rfl rfl (fun _=>rfl) (zv:=(agg #[int .i8 0,bool false])) (fun _=>rfl) rfl (by decide) (by decide) rfl ?_
    intro v17 w hs
    have hs:St _ [_,_] _:=hs.pull 1 rfl
    obtain ⟨g,H⟩:=ite_get H
    refine Qcf QaL (zv:=(agg #[int .i8 0,bool false])) (B:=2) hs (hs.row 1 rfl) rfl rfl rfl rfl rfl rfl rfl rfl rfl (by decide) rfl rfl (by decide) (by omega) ?_
    intro v19 w hs
    show G _ _ _ _ [_,_,_,_,_,_,_,_,_,_,_,_,_,_,_,_,_,_,_,_,_,_,_,_,_,_,_,_,_,_,_,_,_,_,_,_,_] _
    refine Qab (v:=v19) rfl rfl rfl (Qaa ?_)
    have hs:=hs.pull 0 rfl
    have hs:St _ [_] _:=St.take (Γ':=[_]) hs
    exact ha _ _ ⟨v19,x15++([(⟨i8w x16,true⟩:Qai)]),H,rfl,hs⟩
   intro hb
   rw [if_pos (b_bne_f hb)] at H
   refine Qaa (Qax rfl (QaS ?_))
   have hs:=hs.pull 0 rfl
   have hs:St _ [_] _:=St.take (Γ':=[]) hs
   exact ha _ _ ⟨v14,x15,H,rfl,hs⟩
  intro hb
  rw [if_neg (b_dec_f hb)] at H
  refine Qaa (Qag (Qax rfl ?_))
  obtain rfl:=QsJ H
  subst Hx1_
  have hs:=hs.pull 0 rfl
  have hs:St _ [_] _:=St.take (Γ':=[]) hs
  refine QbG rfl ?_
  exact ha1_ _ _ ⟨v14,x15,Hr1_,rfl,hs⟩
 intro ha
 refine Qan [0] rfl ?_
 refine QaR (B:=a3) rfl rfl rfl ?_ ?_
 ·
  intro hb
  rw [if_pos (b_var_t hb)] at H
  refine Qaa (Qaw rfl (Qan [0,1,2,3,4] rfl ?_))
  refine Qab (v:=v4) rfl rfl rfl ?_
  show G _ _ _ _ [_,_,_,_,_,_,_,_,_,_,_,_,_,_,_,_,_,_,_,_,_,_,_,_,_,_,_,_,_,_,_,_,_,_,_,_,_] _
  refine Qab (v:=agg (Qau (⟨(-1),false⟩:Qai)).toArray) rfl rfl (Qcn (cs:=(Qau (⟨(-1),false⟩:Qai))) (segs:=[[int .i8 0],[bool false]]) rfl rfl (fun _=>rfl) ⟨rfl,(fun _=>rfl),rfl,(fun _=>rfl),trivial⟩ (by simp only [List.map_cons,List.map_nil,List.forall_mem_cons,List.not_mem_nil,false_implies,implies_true,and_true];exact ⟨⟨_,rfl,rfl⟩,⟨_,rfl,rfl⟩⟩) (by first|rfl|(simp [ev,Qau];done)|(simp [ev,Qau];rfl))) ?_
  show G _ _ _ _ [_,_,_,_,_,_,_,_,_,_,_,_,_,_,_,_,_,_,_,_,_,_,_,_,_,_,_,_,_,_,_,_,_,_,_,_,_] _
  refine Qcx QaL (y:=(⟨(-1),false⟩:Qai)) hs rfl rfl rfl rfl (fun _=>rfl) (zv:=(agg #[int .i8 0,bool false])) (fun _=>rfl) rfl (by decide) (by decide) rfl ?_
  intro v6 w hs
  have hs:St _ [_,_] _:=hs.pull 1 rfl
  obtain ⟨g,H⟩:=ite_get H
  refine Qcf QaL (zv:=(agg #[int .i8 0,bool false])) (B:=2) hs (hs.row 1 rfl) rfl rfl rfl rfl rfl rfl rfl rfl rfl (by decide) rfl rfl (by decide) (by omega) ?_
  intro v8 w hs
  refine Qab (v:=v8) rfl rfl rfl ?_
  show G _ _ _ _ [_,_,_,_,_,_,_,_,_,_,_,_,_,_,_,_,_,_,_,_,_,_,_,_,_,_,_,_,_,_,_,_,_,_,_,_,_] _
  refine Qaa ?_
  have hs:=hs.pull 0 rfl
  have hs:St _ [_] _:=St.take (Γ':=[_]) hs
  exact ha _ _ ⟨v8,([]:List Qai)++([(⟨(-1),false⟩:Qai)]),H,rfl,hs⟩
 intro hb
 rw [if_neg (b_var_f hb)] at H
 refine Qaa (Qax rfl (QaS ?_))
 have hs:=hs.pull 0 rfl
 have hs:St _ [_] _:=St.take (Γ':=[]) hs
 exact ha _ _ ⟨v4,([]:List Qai),H,rfl,hs⟩
def QbL.post (w0:World) (r:(List Qai)) (v:Value) (w:World):Prop:=St w0 [Row 53 Qah v r] w
theorem QbL.calls {N:Nat} {a1:Qaq} {w0:World} {r:(List Qai)} (H:QbL.f N a1=some r):
 Calls Try.prog 39 #[agg (Qae a1).toArray] w0 fun e w=>∃ v,e= .returned v∧QbL.post w0 r v w:=by
 unfold QbL.f at H
 have hs:St w0 [] w0:=St.refl w0
 refine calls_of_g (n:=10) Try.func39 rfl rfl ?_
 show G _ _ _ _ [_,_,_,_,_,_,_,_,_,_,_] _
 refine Qag (Qan [0,1] rfl ?_)
 refine Qbw hs rfl rfl (cs:=(Qae a1)) rfl rfl ?_
 intro b2 w hs
 refine Qab (v:=slice none 0 0) rfl rfl rfl ?_
 show G _ _ _ _ [_,_,_,_,_,_,_,_,_,_,_] _
 refine Qaa (Qag (Qan [0,1,2,3,4,5,6,7,8] rfl ?_))
 refine Qab (v:=pointer (some ⟨b2,0,none⟩)) rfl rfl rfl ?_
 refine Qaz rfl rfl (v:=int .i8 a1.QaF) rfl rfl (fun _=>rfl) (cells_load (hs.cells 0 rfl) 0 1 rfl) ?_
 refine Qab (v:=int .i64 (i64w a1.QaF)) rfl rfl rfl ?_
 show G _ _ _ _ [_,_,_,_,_,_,_,_,_,_,_] _
 refine Qab (v:=pointer (some ⟨b2,1,none⟩)) rfl rfl rfl ?_
 refine Qaz rfl rfl (v:=int .i8 a1.Qa0) rfl rfl (fun _=>rfl) (cells_load (hs.cells 0 rfl) 1 1 rfl) ?_
 refine Qab (v:=pointer (some ⟨b2,2,none⟩)) rfl rfl rfl ?_
 show G _ _ _ _ [_,_,_,_,_,_,_,_,_,_,_] _
 refine Qaz rfl rfl (v:=bool a1.QbU) rfl rfl (fun _=>rfl) (cells_load (hs.cells 0 rfl) 2 1 rfl) ?_
 obtain ⟨r4,Hr4,H⟩:=bind_get H
 refine QaP (args:=[int .i64 (i64w a1.QaF),int .i8 a1.Qa0,bool a1.QbU]) rfl rfl (QaT rfl (callFunc_enter Try.func67 rfl rfl) rfl) (Qbi.calls (a1:=i64w a1.QaF) (a2:=a1.Qa0) (a3:=a1.QbU) Hr4) ?_
 intro v5 w hs2
 have hs:St _ [_,_] _:=hs.call hs2
 refine Qab (v:=v5) rfl rfl rfl ?_
 show G _ _ _ _ [_,_,_,_,_,_,_,_,_,_,_] _
 refine Qaa ?_
 obtain rfl:=QsJ H
 refine QaK Try.func39 (v:=v5) (res1 rfl rfl) ?_
 have hs:=hs.pull 0 rfl
 have hs:St _ [_] _:=St.take (Γ':=[_]) hs
 exact ⟨_,rfl,hs⟩
def Qcz.post (w0:World) (r:((List Qai)×Int)) (v:Value) (w:World):Prop:=∃ u1:Value,v=tuple #[u1,int .i64 r.2]∧St w0 [Row 53 Qah u1 r.1] w
theorem Qcz.calls {N:Nat} {a1:Qaq} {w0:World} {r:((List Qai)×Int)} (H:Qcz.f N a1=some r):
 Calls Try.prog 14 #[agg (Qae a1).toArray] w0 fun e w=>∃ v,e= .returned v∧Qcz.post w0 r v w:=by
 unfold Qcz.f at H
 have hs:St w0 [] w0:=St.refl w0
 refine calls_of_g (n:=8) Try.func14 rfl rfl ?_
 show G _ _ _ _ [_,_,_,_,_,_,_,_,_] _
 refine Qag (Qan [0,1,2] rfl ?_)
 refine Qbw hs rfl rfl (cs:=(Qae a1)) rfl rfl ?_
 intro b2 w hs
 refine Qab (v:=slice none 0 0) rfl rfl rfl ?_
 refine Qab (v:=int .i64 0) rfl rfl rfl ?_
 show G _ _ _ _ [_,_,_,_,_,_,_,_,_] _
 refine Qaa (Qag (Qag (Qan [0,1,2] rfl ?_)))
 refine QaG rfl rfl (es:=(Qae a1)) rfl rfl (fun _=>rfl) (n:=4) (fun _=>rfl) (QaJ.len _) (cells_all (hs.cells 0 rfl)) ?_
 obtain ⟨r4,Hr4,H⟩:=bind_get H
 refine QaP (args:=[agg (Qae a1).toArray]) rfl rfl (QaT rfl (callFunc_enter Try.func21 rfl rfl) rfl) (Qbr.calls (a1:=a1) Hr4) ?_
 rintro _ w ⟨rfl,hs2⟩
 have hs:St _ [_] _:=hs.call hs2
 cases r4 with
 |true=>
  rw [if_pos rfl] at H
  refine Qab (v:=bool false) rfl rfl rfl ?_
  show G _ _ _ _ [_,_,_,_,_,_,_,_,_] _
  refine Qaa (Qax rfl (QaS (Qag (Qan [0,1,2,3] rfl ?_))))
  refine QaG rfl rfl (es:=(Qae a1)) rfl rfl (fun _=>rfl) (n:=4) (fun _=>rfl) (QaJ.len _) (cells_all (hs.cells 0 rfl)) ?_
  obtain ⟨r5,Hr5,H⟩:=bind_get H
  refine QaP (args:=[agg (Qae a1).toArray]) rfl rfl (QaT rfl (callFunc_enter Try.func39 rfl rfl) rfl) (QbL.calls (a1:=a1) Hr5) ?_
  intro v6 w hs2
  have hs:St _ [_,_] _:=hs.call hs2
  refine Qab (v:=v6) rfl rfl rfl ?_
  show G _ _ _ _ [_,_,_,_,_,_,_,_,_] _
  refine Qab (v:=int .i64 0) rfl rfl rfl (Qaa ?_)
  obtain rfl:=QsJ H
  refine QaK Try.func14 (v:=tuple #[v6,int .i64 0]) (resN (l:=Try.f14.results.toList) (vs:=[v6,int .i64 0]) rfl ⟨rfl,rfl,trivial⟩ (by simp)) ?_
  have hs:=hs.pull 0 rfl
  have hs:St _ [_] _:=St.take (Γ':=[_]) hs
  exact ⟨_,rfl,v6,rfl,hs⟩
 |false=>
  rw [if_neg Bool.false_ne_true] at H
  refine Qab (v:=bool true) rfl rfl rfl ?_
  show G _ _ _ _ [_,_,_,_,_,_,_,_,_] _
  refine Qaa (Qaw rfl (Qag (Qan [0,1] rfl ?_)))
  refine Qab (v:=slice none 0 0) rfl rfl rfl ?_
  refine Qab (v:=int .i64 1) rfl rfl rfl (Qaa ?_)
  obtain rfl:=QsJ H
  refine QaK Try.func14 (v:=tuple #[slice none 0 0,int .i64 1]) (resN (l:=Try.f14.results.toList) (vs:=[slice none 0 0,int .i64 1]) rfl ⟨rfl,rfl,trivial⟩ (by simp)) ?_
  have hs:=hs.nil 53 Qah
  have hs:=hs.pull 0 rfl
  have hs:St _ [_] _:=St.take (Γ':=[_]) hs
  exact ⟨_,rfl,(slice none 0 0),rfl,hs⟩
def Qcw.post (w0:World) (r:Bool) (v:Value) (w:World):Prop:=v=bool r∧St w0 [] w
theorem Qcw.calls {N:Nat} {a1:Int} {a2:Int} {a3:Int} {w0:World} {r:Bool} (H:Qcw.f N a1 a2 a3=some r):
 Calls Try.prog 28 #[int .i64 a1,int .i64 a2,int .i64 a3] w0 fun e w=>∃ v,e= .returned v∧Qcw.post w0 r v w:=by
 unfold Qcw.f at H
 have hs:St w0 [] w0:=St.refl w0
 refine calls_of_g (n:=12) Try.func28 rfl rfl ?_
 show G _ _ _ _ [_,_,_,_,_,_,_,_,_,_,_,_,_,_,_] _
 refine Qag (Qan [0] rfl ?_)
 refine Qab (v:=bool false) rfl rfl rfl (Qaa (Qag (Qan [0,1,2,3,4,5,6,7,8] rfl ?_)))
 refine Qab (v:=int .i64 a1) rfl rfl rfl ?_
 show G _ _ _ _ [_,_,_,_,_,_,_,_,_,_,_,_,_,_,_] _
 refine Qab (v:=int .i64 a2) rfl rfl rfl ?_
 refine QaR (B:=decide (a1≥a2)) rfl rfl rfl ?_ ?_
 ·
  intro hb
  rw [if_pos (b_dec_t hb)] at H
  show G _ _ _ _ [_,_,_,_,_,_,_,_,_,_,_,_,_,_,_] _
  refine Qab (v:=bool true) rfl rfl rfl ?_
  refine Qab (v:=int .i64 a1) rfl rfl rfl ?_
  refine Qab (v:=int .i64 a3) rfl rfl rfl ?_
  show G _ _ _ _ [_,_,_,_,_,_,_,_,_,_,_,_,_,_,_] _
  refine Qab (v:=bool (decide (a1≤a3))) rfl rfl rfl ?_
  refine Qab (v:=bool (decide (a1≤a3))) rfl rfl rfl ?_
  refine Qab (v:=bool (decide (a1≤a3))) rfl rfl rfl ?_
  show G _ _ _ _ [_,_,_,_,_,_,_,_,_,_,_,_,_,_,_] _
  refine Qaa ?_
  obtain rfl:=QsJ H
  refine QaK Try.func28 (v:=bool (decide (a1≤a3))) (res1 rfl rfl) ?_
  have hs:St _ [] _:=St.take (Γ':=[]) hs
  exact ⟨_,rfl,rfl,hs⟩
 intro hb
 rw [if_neg (b_dec_f hb)] at H
 refine Qab (v:=bool false) rfl rfl rfl ?_
 show G _ _ _ _ [_,_,_,_,_,_,_,_,_,_,_,_,_,_,_] _
 refine Qal rfl rfl (Qal rfl rfl (Qal rfl rfl ?_))
 show G _ _ _ _ [_,_,_,_,_,_,_,_,_,_,_,_,_,_,_] _
 refine Qab (v:=bool false) rfl rfl rfl ?_
 refine Qab (v:=bool false) rfl rfl rfl (Qaa ?_)
 obtain rfl:=QsJ H
 refine QaK Try.func28 (v:=bool false) (res1 rfl rfl) ?_
 have hs:St _ [] _:=St.take (Γ':=[]) hs
 exact ⟨_,rfl,rfl,hs⟩
def Qce.post (w0:World) (r:Bool) (v:Value) (w:World):Prop:=v=bool r∧St w0 [] w
theorem Qce.calls {N:Nat} {a1:Qaq} {w0:World} {r:Bool} (H:Qce.f N a1=some r):
 Calls Try.prog 27 #[agg (Qae a1).toArray] w0 fun e w=>∃ v,e= .returned v∧Qce.post w0 r v w:=by
 unfold Qce.f at H
 have hs:St w0 [] w0:=St.refl w0
 refine calls_of_g (n:=12) Try.func27 rfl rfl ?_
 show G _ _ _ _ [_,_,_,_,_,_,_,_,_,_,_,_,_] _
 refine Qag (Qan [0,1] rfl ?_)
 refine Qbw hs rfl rfl (cs:=(Qae a1)) rfl rfl ?_
 intro b2 w hs
 show G _ _ _ _ [_,_,_,_,_,_,_,_,_,_,_,_,_] _
 refine Qab (v:=bool false) rfl rfl rfl (Qaa (Qag (Qan [0,1,2,3,4,5,6,7,8,9,10] rfl ?_)))
 refine Qab (v:=pointer (some ⟨b2,0,none⟩)) rfl rfl rfl ?_
 refine Qaz rfl rfl (v:=int .i8 a1.QaF) rfl rfl (fun _=>rfl) (cells_load (hs.cells 0 rfl) 0 1 rfl) ?_
 show G _ _ _ _ [_,_,_,_,_,_,_,_,_,_,_,_,_] _
 refine Qab (v:=int .i64 (i64w a1.QaF)) rfl rfl rfl ?_
 obtain ⟨r4,Hr4,H⟩:=bind_get H
 refine QaP (args:=[int .i64 (i64w a1.QaF),int .i64 1,int .i64 13]) rfl rfl (QaT rfl (callFunc_enter Try.func28 rfl rfl) rfl) (Qcw.calls (a1:=i64w a1.QaF) (a2:=1) (a3:=13) Hr4) ?_
 rintro _ w ⟨rfl,hs2⟩
 have hs:St _ [_] _:=hs.call hs2
 cases r4 with
 |true=>
  rw [if_pos rfl] at H
  refine Qab (v:=bool true) rfl rfl rfl ?_
  refine Qab (v:=pointer (some ⟨b2,1,none⟩)) rfl rfl rfl ?_
  show G _ _ _ _ [_,_,_,_,_,_,_,_,_,_,_,_,_] _
  refine Qaz rfl rfl (v:=int .i8 a1.Qa0) rfl rfl (fun _=>rfl) (cells_load (hs.cells 0 rfl) 1 1 rfl) ?_
  refine Qab (v:=int .i64 (i64w a1.Qa0)) rfl rfl rfl ?_
  obtain ⟨r5,Hr5,H⟩:=bind_get H
  refine QaP (args:=[int .i64 (i64w a1.Qa0),int .i64 0,int .i64 2]) rfl rfl (QaT rfl (callFunc_enter Try.func28 rfl rfl) rfl) (Qcw.calls (a1:=i64w a1.Qa0) (a2:=0) (a3:=2) Hr5) ?_
  rintro _ w ⟨rfl,hs2⟩
  have hs:St _ [_] _:=hs.call hs2
  show G _ _ _ _ [_,_,_,_,_,_,_,_,_,_,_,_,_] _
  refine Qab (v:=bool r5) rfl rfl rfl ?_
  refine Qab (v:=bool r5) rfl rfl rfl (Qaa ?_)
  obtain rfl:=QsJ H
  refine QaK Try.func27 (v:=bool r5) (res1 rfl rfl) ?_
  have hs:St _ [] _:=St.take (Γ':=[_]) hs
  exact ⟨_,rfl,rfl,hs⟩
 |false=>
  rw [if_neg Bool.false_ne_true] at H
  refine Qab (v:=bool false) rfl rfl rfl ?_
  show G _ _ _ _ [_,_,_,_,_,_,_,_,_,_,_,_,_] _
  refine Qal rfl rfl (Qal rfl rfl (Qal rfl rfl ?_))
  show G _ _ _ _ [_,_,_,_,_,_,_,_,_,_,_,_,_] _
  refine Qal rfl rfl ?_
  refine Qab (v:=bool false) rfl rfl rfl ?_
  refine Qab (v:=bool false) rfl rfl rfl ?_
  show G _ _ _ _ [_,_,_,_,_,_,_,_,_,_,_,_,_] _
  refine Qaa ?_
  obtain rfl:=QsJ H
  refine QaK Try.func27 (v:=bool false) (res1 rfl rfl) ?_
  have hs:St _ [] _:=St.take (Γ':=[_]) hs
  exact ⟨_,rfl,rfl,hs⟩
end Go.Proofs.YtgpdpedpmhonkaaX
