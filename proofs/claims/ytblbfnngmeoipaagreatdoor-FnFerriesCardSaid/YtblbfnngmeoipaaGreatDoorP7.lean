import Derived.Test.YtblbfnngmeoipaaGreatDoorP6
namespace Go.Proofs.YtblbfnngmeoipaaGreatDoorX
open Go Go.RowKit Go.Proofs
open Go.Value (int pointer bool agg slice string tuple)
set_option maxHeartbeats 8000000
set_option maxRecDepth 100000
set_option linter.unusedVariables false
set_option linter.unusedSimpArgs false
def Qa8.post (wb:World) (Z:As) (b2:Nat) (v3:Value) (r:(Qaf×QaH)) (v:Value) (w:World):Prop:=∃ u1:Value,v=agg (([int .i8 r.1.Qad,int .i8 r.1.Qag,u1]:List Value)).toArray∧St wb [Row 46 (K.int .u16) u1 r.1.Qal,Cells b2 (([v3,int .i64 r.2.Qbf,int .u64 r.2.Qa2]:List Value)) 107,Z] w
theorem Qa8.calls {N:Nat} {a1:QaH} {b2:Nat} {v3:Value} {wb:World} {Z:As} {w0:World} {r:(Qaf×QaH)} (hs:St wb [Cells b2 (([v3,int .i64 a1.Qbf,int .u64 a1.Qa2]:List Value)) 107,Z] w0) (hr4:RdRow (K.int .u8) wb v3 a1.Qa3) (H:Qa8.f N a1=some r):
 Calls Tryz.prog 27 #[pointer (some ⟨b2,0,none⟩)] w0 fun e w=>∃ v,e= .returned v∧Qa8.post wb Z b2 v3 r v w:=by
 unfold Qa8.f at H
 refine calls_of_g (n:=68) Tryz.func27 rfl rfl ?_
 show G _ _ _ _ (_::_::_::_::_::_::_::_::_::_::_::_::_::_::_::_::_::_::_::_::_::_::_::_::_::_::_::_::_::_::_::_::_::_::_::_::_::_::_::_::_::_::_::_::_::_::_::_::_::_::_::_::_::_::_::_::_::_::_::_::_::_::_::_::_::_::_::_::_::[]) _
 refine Qaj (Qan [0] rfl ?_)
 refine QbI hs rfl rfl (z:=(agg #[int .i8 0,int .i8 0,slice none 0 0])) (cs:=(([int .i8 0,int .i8 0,slice none 0 0]:List Value))) rfl (fun _=>rfl) rfl ?_
 intro b6 w hs
 refine g_d rfl (Qac (Qaj (Qan [0,1,2,3,4,5,6] rfl ?_)))
 refine Qab (v:=pointer (some ⟨b2,0,none⟩)) rfl rfl rfl (g_d rfl ?_)
 obtain ⟨r8,Hr8,H⟩:=bind_get H
 have hs:St _ [_,_,_] _:=hs.pull 1 rfl
 have hs:=hs.pack 1
 refine Qaz (args:=[pointer (some ⟨b2,0,none⟩),int .i64 4]) rfl rfl (QaA rfl (callFunc_enter Tryz.func62 rfl rfl) rfl) (QaS.calls (a1:=(⟨a1.Qa3,a1.Qbf,a1.Qa2⟩:QaH)) (a6:=4) hs hr4 Hr8) ?_
 rintro _ w ⟨rfl,hs⟩
 have hs:=St.unpack (Γ:=[_]) hs
 have hs:St _ [_,_,_] _:=hs
 refine g_d rfl ?_
 try dsimp only [Qah,Qai]
 refine Qab (v:=int .i64 (i64w (2+r8.1))) rfl rfl rfl (g_d rfl ?_)
 refine Qab (v:=int .i8 (i8w (i64w (2+r8.1)))) rfl rfl rfl (g_d rfl ?_)
 try dsimp only [Qah,Qai]
 refine Qab (v:=agg (([int .i8 (i8w (i64w (2+r8.1))),int .i8 0,slice none 0 0]:List Value)).toArray) rfl rfl (Qbt (cs:=(([int .i8 (i8w (i64w (2+r8.1))),int .i8 0,slice none 0 0]:List Value))) (segs:=[[int .i8 0],[int .i8 0],[slice none 0 0]]) rfl rfl (fun _=>rfl) ⟨rfl,(fun _=>rfl),rfl,(fun _=>rfl),rfl,(fun _=>rfl),trivial⟩ (by simp only [List.map_cons,List.map_nil,List.forall_mem_cons,List.not_mem_nil,false_implies,implies_true,and_true];exact ⟨_,rfl,rfl⟩) (by first|rfl|(simp [ev,encA];done)|(simp [ev,encA];rfl))) ?_
 refine g_d rfl ?_
 refine QbI hs rfl rfl (z:=(agg #[int .i8 0,int .i8 0,slice none 0 0])) (cs:=(([int .i8 0,int .i8 0,slice none 0 0]:List Value))) rfl (fun _=>rfl) rfl ?_
 intro b9 w hs
 refine g_d rfl ?_
 try dsimp only [Qah,Qai]
 refine QaY (n:=3) hs rfl rfl rfl (vs:=(([int .i8 (i8w (i64w (2+r8.1))),int .i8 0,slice none 0 0]:List Value))) rfl rfl rfl (fun _=>rfl) rfl (by simp [Value.oneCell']) ?_
 intro w hs
 refine g_n rfl (Qac (Qaj (Qan [0,1,2,3,4,5,6,7] rfl ?_)))
 refine Qab (v:=pointer (some ⟨b2,0,none⟩)) rfl rfl rfl (g_d rfl ?_)
 refine Qab (v:=pointer (some ⟨b9,0,none⟩)) rfl rfl rfl (g_d rfl ?_)
 refine Qaw rfl rfl (v:=int .i8 (i8w (i64w (2+r8.1)))) rfl rfl (fun _=>rfl) (cells_load (hs.cells 0 rfl) 0 1 rfl) (g_d rfl ?_)
 refine Qab (v:=int .i64 (i64w (i8w (i64w (2+r8.1))))) rfl rfl rfl (g_d rfl ?_)
 obtain ⟨r11,Hr11,H⟩:=bind_get H
 have hs:St _ [_,_,_,_] _:=hs.pull 1 rfl
 have hs:=hs.pack 1
 refine Qaz (args:=[pointer (some ⟨b2,0,none⟩),int .i64 (i64w (i8w (i64w (2+r8.1))))]) rfl rfl (QaA rfl (callFunc_enter Tryz.func62 rfl rfl) rfl) (QaS.calls (a1:=(⟨a1.Qa3,r8.2.Qbf,r8.2.Qa2⟩:QaH)) (a6:=i64w (i8w (i64w (2+r8.1)))) hs hr4 Hr11) ?_
 rintro _ w ⟨rfl,hs⟩
 have hs:=St.unpack (Γ:=[_]) hs
 have hs:St _ [_,_,_,_] _:=hs
 refine g_d rfl ?_
 try dsimp only [Qah,Qai]
 refine Qab (v:=int .i8 (i8w r11.1)) rfl rfl rfl (g_d rfl ?_)
 refine Qab (v:=pointer (some ⟨b9,1,none⟩)) rfl rfl rfl (g_d rfl ?_)
 have hs:St _ [_,_,_,_] _:=hs.pull 1 rfl
 refine QcA hs rfl rfl (vs:=((encI .i8) (i8w r11.1))) (cs':=(([int .i8 (i8w (i64w (2+r8.1))),int .i8 (i8w r11.1),slice none 0 0]:List Value))) rfl rfl rfl (n:=1) (fun _=>rfl) ((fkI .i8).len _) (by first|exact Nat.le_of_ble_eq_true rfl|simp [encAI_len,encAB_len,encA_len]) ((fkI .i8).one _) rfl ?_
 intro w hs
 refine g_n rfl (Qac (Qaj (Qaj (Qan [0,1,2] rfl ?_))))
 refine Qab (v:=pointer (some ⟨b2,0,none⟩)) rfl rfl rfl (g_d rfl ?_)
 obtain ⟨r12,Hr12,H⟩:=bind_get H
 have hs:St _ [_,_,_,_] _:=hs.pull 1 rfl
 have hs:=hs.pack 1
 refine Qaz (args:=[pointer (some ⟨b2,0,none⟩),int .i64 5]) rfl rfl (QaA rfl (callFunc_enter Tryz.func62 rfl rfl) rfl) (QaS.calls (a1:=(⟨a1.Qa3,r11.2.Qbf,r11.2.Qa2⟩:QaH)) (a6:=5) hs hr4 Hr12) ?_
 rintro _ w ⟨rfl,hs⟩
 have hs:=St.unpack (Γ:=[_]) hs
 have hs:St _ [_,_,_,_] _:=hs
 refine g_d rfl ?_
 refine Qab (v:=int .i64 r12.1) rfl rfl rfl (g_d rfl ?_)
 try dsimp only [Qah,Qai]
 refine Qac ?_
 obtain ⟨o1_,Ho,Hr1_⟩:=bind_get H
 refine QaR (J:=fun t w=>∃ x46:Int,∃ x47:Int,∃ v48:Value,∃ x49:(List Int),∃ x51:Int,∃ x52:Int,Qa8.a0 N a1 x46 x47 x49 x51 x52=some r∧Fr t (fun O=>(O 0::O 1::pointer (some ⟨b6,0,none⟩)::pointer (some ⟨b9,0,none⟩)::O 4::O 5::O 6::O 7::O 8::O 9::oT O 1 (oT O 2 (oT O 3 (oT O 4 (oT O 5 (O 60::O 61::O 62::O 63::O 64::O 65::O 66::O 67::O 68::[]))))):List Value))∧St wb [Cells b6 (([int .i8 0,int .i8 0,slice none 0 0]:List Value)) 27,Cells b9 (([int .i8 x46,int .i8 x47,v48]:List Value)) 27,Row 46 (K.int .u16) v48 x49,Cells b2 (([v3,int .i64 x51,int .u64 x52]:List Value)) 107,Z] w) ?_ ?_
 ·
  rintro t w ⟨x46,x47,v48,x49,x51,x52,H,hf,hs⟩
  obtain ⟨O,rfl⟩:=hf.open
  try dsimp only [oT]
  unfold Qa8.a0 at H
  refine Qaj (Qan [0,1] rfl ?_)
  refine QaF rfl rfl (es:=(([int .i8 x46,int .i8 x47,v48]:List Value))) rfl rfl (fun _=>rfl) (n:=3) (fun _=>rfl) rfl (cells_all (hs.cells 1 rfl)) (g_d rfl ?_)
  try dsimp only [Qah,Qai]
  refine QaY (n:=3) hs rfl rfl rfl (vs:=(([int .i8 x46,int .i8 x47,v48]:List Value))) rfl rfl rfl (fun _=>rfl) rfl (by intro v hv;simp only [List.mem_append,List.mem_cons,List.not_mem_nil,or_false] at hv;repeat (first|(subst hv;first|rfl|exact slOne (hs.row 2 rfl))|(rcases hv with hv|hv))) ?_
  intro w hs
  refine g_n rfl (Qac ?_)
  obtain rfl:=QsJ H
  refine QaB Tryz.func27 (v:=agg (([int .i8 x46,int .i8 x47,v48]:List Value)).toArray) (resC rfl ⟨⟨_,rfl,(run_loadVar_agg (es:=(([int .i8 x46,int .i8 x47,v48]:List Value))) rfl rfl (cells_all (hs.cells 0 rfl)))⟩,trivial⟩) ?_
  have hs:=hs.pull 4 rfl
  have hs:=hs.pull 4 rfl
  have hs:=hs.pull 4 rfl
  have hs:St _ [_,_,_] _:=St.take (Γ':=[_,_]) hs
  exact ⟨_,rfl,v48,rfl,hs⟩
 intro ha1_
 have hs:=hs.nil 46 (K.int .u16)
 have hs:=hs.pull 4 rfl
 have hs:=hs.pull 3 rfl
 have hs:=hs.pull 2 rfl
 have hs:=hs.pull 4 rfl
 have hs:=hs.pull 4 rfl
 have hs:St _ [_,_,_,_,_] _:=St.take (Γ':=[]) hs
 refine Qba (I:=fun n_ t w=>∃ x26:Int,∃ x27:Int,∃ x28:Int,∃ x29:Int,∃ v31:Value,∃ x32:(List Int),∃ x33:Int,rounds (fun s=>Qa8.b0 N a1 s.1 s.2.1 s.2.2.1 s.2.2.2.1 s.2.2.2.2.1 s.2.2.2.2.2) n_ (x26,x27,x28,x29,x32,x33)=some o1_∧Fr t (fun O=>(pointer (some ⟨b2,0,none⟩)::O 1::pointer (some ⟨b6,0,none⟩)::pointer (some ⟨b9,0,none⟩)::int .i64 x33::O 5::O 6::O 7::O 8::O 9::oT O 1 (oT O 2 (oT O 3 (oT O 4 (oT O 5 (O 60::O 61::O 62::O 63::O 64::O 65::O 66::O 67::O 68::[]))))):List Value))∧St wb [Cells b2 (([v3,int .i64 x26,int .u64 x27]:List Value)) 107,Cells b6 (([int .i8 0,int .i8 0,slice none 0 0]:List Value)) 27,Row 46 (K.int .u16) v31 x32,Cells b9 (([int .i8 x28,int .i8 x29,v31]:List Value)) 27,Z] w) N ⟨r12.2.Qbf,r12.2.Qa2,i8w (i64w (2+r8.1)),i8w r11.1,slice none 0 0,[],r12.1,Ho,rfl,hs⟩ ?_ ?_
 ·
  rintro _ _ ⟨x26,x27,x28,x29,v31,x32,x33,h,_⟩
  exact rounds_zero h
 intro n_ ih1_
 rintro t w ⟨x26,x27,x28,x29,v31,x32,x33,Ho,hf,hs⟩
 obtain ⟨O,rfl⟩:=hf.open
 try dsimp only [oT]
 obtain ⟨x11_,H,Hx1_⟩:=rounds_succ Ho
 have H:Qa8.b0 N a1 x26 x27 x28 x29 x32 x33=some x11_:=H
 unfold Qa8.b0 at H
 refine Qaj (Qaj (Qan [0,1] rfl ?_))
 refine Qab (v:=int .i64 x33) rfl rfl rfl (g_d rfl ?_)
 refine QaI (B:=decide (x33>0)) rfl rfl rfl ?_ ?_
 ·
  intro hb
  rw [if_pos (b_dec_t hb)] at H
  refine g_d rfl ?_
  try dsimp only [Qah,Qai]
  refine Qac (Qaq rfl (QaK (Qaj ?_)))
  refine QbG (Qaj (Qan [0,1,2,3,4,5] rfl ?_))
  refine Qab (v:=pointer (some ⟨b2,0,none⟩)) rfl rfl rfl (g_d rfl ?_)
  refine Qab (v:=pointer (some ⟨b9,0,none⟩)) rfl rfl rfl (g_d rfl ?_)
  refine Qaw rfl rfl (v:=int .i8 x28) rfl rfl (fun _=>rfl) (cells_load (hs.cells 3 rfl) 0 1 rfl) (g_d rfl ?_)
  refine Qab (v:=int .i64 (i64w x28)) rfl rfl rfl (g_d rfl ?_)
  obtain ⟨r34,Hr34,H⟩:=bind_get H
  have hs:St _ [_,_,_,_,_] _:=hs.pull 0 rfl
  have hs:=hs.pack 1
  refine Qaz (args:=[pointer (some ⟨b2,0,none⟩),int .i64 (i64w x28)]) rfl rfl (QaA rfl (callFunc_enter Tryz.func62 rfl rfl) rfl) (QaS.calls (a1:=(⟨a1.Qa3,x26,x27⟩:QaH)) (a6:=i64w x28) hs hr4 Hr34) ?_
  rintro _ w ⟨rfl,hs⟩
  have hs:=St.unpack (Γ:=[_]) hs
  have hs:St _ [_,_,_,_,_] _:=hs
  refine g_d rfl ?_
  try dsimp only [Qah,Qai]
  refine Qab (v:=int .i64 r34.1) rfl rfl rfl (g_d rfl (Qac (Qaj ?_)))
  obtain ⟨r35,Hr35,H⟩:=bind_get H
  obtain ⟨gd6,H⟩:=ite_get H
  refine QaV ?_
  intro T hT
  refine QbZ (n:=14) rfl [0,1,2,3,4,5,6,7,8,9,10,11,12,13] [0,1,2,3,4,5,6,7,8,9,10,11,12,13] rfl rfl (Inv:=fun D t w=>∃ O:Nat→Value,t=(pointer (some ⟨b2,0,none⟩)::O 1::pointer (some ⟨b6,0,none⟩)::pointer (some ⟨b9,0,none⟩)::int .i64 x33::int .i64 r34.1::cnd (D 13) (int .i64 ((i64w ((i64w (r34.1+1))+r35.1)).tmod (i64w x28))) (O 6)::O 7::O 8::O 9::oT O 1 (O 20::O 21::int .i64 x33::bool true::O 24::O 25::pointer (some ⟨b2,0,none⟩)::pointer (some ⟨b9,0,none⟩)::int .i8 x28::int .i64 (i64w x28)::int .i64 r34.1::cnd (D 0) (int .i64 r34.1) (O 31)::cnd (D 1) (int .i64 (i64w (r34.1+1))) (O 32)::cnd (D 2) (pointer (some ⟨b2,0,none⟩)) (O 33)::cnd (D 3) (pointer (some ⟨b9,0,none⟩)) (O 34)::cnd (D 4) (int .i8 x28) (O 35)::cnd (D 5) (int .i64 (i64w x28)) (O 36)::cnd (D 6) (int .i64 (i64w ((i64w x28) - 1))) (O 37)::cnd (D 7) (int .i64 r35.1) (O 38)::cnd (D 8) (int .i64 (i64w ((i64w (r34.1+1))+r35.1))) (O 39)::cnd (D 9) (pointer (some ⟨b9,0,none⟩)) (O 40)::cnd (D 10) (int .i8 x28) (O 41)::cnd (D 11) (int .i64 (i64w x28)) (O 42)::cnd (D 12) (int .i64 ((i64w ((i64w (r34.1+1))+r35.1)).tmod (i64w x28))) (O 43)::O 44::O 45::O 46::O 47::O 48::O 49::oT O 5 (O 60::O 61::O 62::O 63::O 64::O 65::O 66::O 67::O 68::[])))∧St wb [Cells b2 (cnd (D 7) (([v3,int .i64 r35.2.Qbf,int .u64 r35.2.Qa2]:List Value)) (([v3,int .i64 r34.2.Qbf,int .u64 r34.2.Qa2]:List Value))) 107,Cells b6 (([int .i8 0,int .i8 0,slice none 0 0]:List Value)) 27,Row 46 (K.int .u16) v31 x32,Cells b9 (([int .i8 x28,int .i8 x29,v31]:List Value)) 27,Z] w) ?_ ⟨⟨⟨⟨⟨⟨⟨⟨⟨⟨⟨⟨⟨⟨trivial,?_⟩,?_⟩,?_⟩,?_⟩,?_⟩,?_⟩,?_⟩,?_⟩,?_⟩,?_⟩,?_⟩,?_⟩,?_⟩,?_⟩ ?_
  ·
   intro w hh hbw
   have hs:=hs.samew hh hbw
   exact ⟨fun i=>T.getD i undef,(by subst hT;rfl),hs⟩
  ·
   rintro D t w hD hp hcl ⟨O,ht,hs⟩ rest hk
   have q1_:=nz hcl 1 0 hD
   have q8_:=nz hcl 8 0 q1_
   have q12_:=nz hcl 12 0 q8_
   have q13_:=nz hcl 13 0 q12_
   simp only [hD,q1_,q8_,q12_,q13_,cq,oT] at ht hs
   subst ht
   refine Qab (v:=int .i64 r34.1) rfl rfl rfl (g_d rfl ?_)
   try dsimp only [Qah,Qai]
   refine hk _ _ ⟨O,?_,hs.cast ?_⟩<;>simp only [oT,lq,cq,Nat.reduceBEq,q1_,q8_,q12_,q13_]
  ·
   rintro D t w hD hp hcl ⟨O,ht,hs⟩ rest hk
   obtain ⟨p0_,_⟩:=hp
   have q8_:=nz hcl 8 0 hD
   have q12_:=nz hcl 12 0 q8_
   have q13_:=nz hcl 13 0 q12_
   simp only [hD,p0_,q8_,q12_,q13_,cq,oT] at ht hs
   subst ht
   refine Qab (v:=int .i64 (i64w (r34.1+1))) rfl rfl rfl (g_d rfl ?_)
   try dsimp only [Qah,Qai]
   refine hk _ _ ⟨O,?_,hs.cast ?_⟩<;>simp only [oT,lq,cq,Nat.reduceBEq,p0_,q8_,q12_,q13_]
  ·
   rintro D t w hD hp hcl ⟨O,ht,hs⟩ rest hk
   have q7_:=nz hcl 7 0 hD
   have q8_:=nz hcl 8 1 q7_
   have q12_:=nz hcl 12 0 q8_
   have q13_:=nz hcl 13 0 q12_
   simp only [hD,q7_,q8_,q12_,q13_,cq,oT] at ht hs
   subst ht
   refine Qab (v:=pointer (some ⟨b2,0,none⟩)) rfl rfl rfl (g_d rfl ?_)
   try dsimp only [Qah,Qai]
   refine hk _ _ ⟨O,?_,hs.cast ?_⟩<;>simp only [oT,lq,cq,Nat.reduceBEq,q7_,q8_,q12_,q13_]
  ·
   rintro D t w hD hp hcl ⟨O,ht,hs⟩ rest hk
   have q4_:=nz hcl 4 0 hD
   have q5_:=nz hcl 5 0 q4_
   have q6_:=nz hcl 6 0 q5_
   have q7_:=nz hcl 7 1 q6_
   have q8_:=nz hcl 8 1 q7_
   have q12_:=nz hcl 12 0 q8_
   have q13_:=nz hcl 13 0 q12_
   simp only [hD,q4_,q5_,q6_,q7_,q8_,q12_,q13_,cq,oT] at ht hs
   subst ht
   refine Qab (v:=pointer (some ⟨b9,0,none⟩)) rfl rfl rfl (g_d rfl ?_)
   try dsimp only [Qah,Qai]
   refine hk _ _ ⟨O,?_,hs.cast ?_⟩<;>simp only [oT,lq,cq,Nat.reduceBEq,q4_,q5_,q6_,q7_,q8_,q12_,q13_]
  ·
   rintro D t w hD hp hcl ⟨O,ht,hs⟩ rest hk
   obtain ⟨p3_,_⟩:=hp
   have q5_:=nz hcl 5 0 hD
   have q6_:=nz hcl 6 0 q5_
   have q7_:=nz hcl 7 1 q6_
   have q8_:=nz hcl 8 1 q7_
   have q12_:=nz hcl 12 0 q8_
   have q13_:=nz hcl 13 0 q12_
   simp only [hD,p3_,q5_,q6_,q7_,q8_,q12_,q13_,cq,oT] at ht hs
   subst ht
   refine Qaw rfl rfl (v:=int .i8 x28) rfl rfl (fun _=>rfl) (cells_load (hs.cells 3 rfl) 0 1 rfl) (g_d rfl ?_)
   try dsimp only [Qah,Qai]
   refine hk _ _ ⟨O,?_,hs.cast ?_⟩<;>simp only [oT,lq,cq,Nat.reduceBEq,p3_,q5_,q6_,q7_,q8_,q12_,q13_]
  ·
   rintro D t w hD hp hcl ⟨O,ht,hs⟩ rest hk
   obtain ⟨p4_,_⟩:=hp
   obtain ⟨p3_,_⟩:=(hcl.get 4 (by decide)) p4_
   have q6_:=nz hcl 6 0 hD
   have q7_:=nz hcl 7 1 q6_
   have q8_:=nz hcl 8 1 q7_
   have q12_:=nz hcl 12 0 q8_
   have q13_:=nz hcl 13 0 q12_
   simp only [hD,p3_,p4_,q6_,q7_,q8_,q12_,q13_,cq,oT] at ht hs
   subst ht
   refine Qab (v:=int .i64 (i64w x28)) rfl rfl rfl (g_d rfl ?_)
   try dsimp only [Qah,Qai]
   refine hk _ _ ⟨O,?_,hs.cast ?_⟩<;>simp only [oT,lq,cq,Nat.reduceBEq,p3_,p4_,q6_,q7_,q8_,q12_,q13_]
  ·
   rintro D t w hD hp hcl ⟨O,ht,hs⟩ rest hk
   obtain ⟨p5_,_⟩:=hp
   obtain ⟨p4_,_⟩:=(hcl.get 5 (by decide)) p5_
   obtain ⟨p3_,_⟩:=(hcl.get 4 (by decide)) p4_
   have q7_:=nz hcl 7 1 hD
   have q8_:=nz hcl 8 1 q7_
   have q12_:=nz hcl 12 0 q8_
   have q13_:=nz hcl 13 0 q12_
   simp only [hD,p3_,p4_,p5_,q7_,q8_,q12_,q13_,cq,oT] at ht hs
   subst ht
   refine Qab (v:=int .i64 (i64w ((i64w x28) - 1))) rfl rfl rfl (g_d rfl ?_)
   try dsimp only [Qah,Qai]
   refine hk _ _ ⟨O,?_,hs.cast ?_⟩<;>simp only [oT,lq,cq,Nat.reduceBEq,p3_,p4_,p5_,q7_,q8_,q12_,q13_]
  ·
   rintro D t w hD hp hcl ⟨O,ht,hs⟩ rest hk
   obtain ⟨p2_,p6_,_⟩:=hp
   obtain ⟨p5_,_⟩:=(hcl.get 6 (by decide)) p6_
   obtain ⟨p4_,_⟩:=(hcl.get 5 (by decide)) p5_
   obtain ⟨p3_,_⟩:=(hcl.get 4 (by decide)) p4_
   have q8_:=nz hcl 8 1 hD
   have q12_:=nz hcl 12 0 q8_
   have q13_:=nz hcl 13 0 q12_
   simp only [hD,p2_,p3_,p4_,p5_,p6_,q8_,q12_,q13_,cq,oT] at ht hs
   subst ht
   have hs:St _ [_,_,_,_,_] _:=hs.pull 0 rfl
   have hs:=hs.pack 1
   refine Qaz (args:=[pointer (some ⟨b2,0,none⟩),int .i64 (i64w ((i64w x28) - 1))]) rfl rfl (QaA rfl (callFunc_enter Tryz.func62 rfl rfl) rfl) (QaS.calls (a1:=(⟨a1.Qa3,r34.2.Qbf,r34.2.Qa2⟩:QaH)) (a6:=i64w ((i64w x28) - 1)) hs hr4 Hr35) ?_
   rintro _ w ⟨rfl,hs⟩
   have hs:=St.unpack (Γ:=[_]) hs
   have hs:St _ [_,_,_,_,_] _:=hs
   refine g_d rfl ?_
   try dsimp only [Qah,Qai]
   have hs:=hs.push 0 (by simp)
   refine hk _ _ ⟨O,?_,hs.cast ?_⟩<;>simp only [oT,lq,cq,Nat.reduceBEq,p2_,p3_,p4_,p5_,p6_,q8_,q12_,q13_]
  ·
   rintro D t w hD hp hcl ⟨O,ht,hs⟩ rest hk
   obtain ⟨p1_,p7_,_⟩:=hp
   obtain ⟨p2_,p6_,_⟩:=(hcl.get 7 (by decide)) p7_
   obtain ⟨p5_,_⟩:=(hcl.get 6 (by decide)) p6_
   obtain ⟨p4_,_⟩:=(hcl.get 5 (by decide)) p5_
   obtain ⟨p3_,_⟩:=(hcl.get 4 (by decide)) p4_
   obtain ⟨p0_,_⟩:=(hcl.get 1 (by decide)) p1_
   have q12_:=nz hcl 12 0 hD
   have q13_:=nz hcl 13 0 q12_
   simp only [hD,p0_,p1_,p2_,p3_,p4_,p5_,p6_,p7_,q12_,q13_,cq,oT] at ht hs
   subst ht
   refine Qab (v:=int .i64 (i64w ((i64w (r34.1+1))+r35.1))) rfl rfl rfl (g_d rfl ?_)
   try dsimp only [Qah,Qai]
   refine hk _ _ ⟨O,?_,hs.cast ?_⟩<;>simp only [oT,lq,cq,Nat.reduceBEq,p0_,p1_,p2_,p3_,p4_,p5_,p6_,p7_,q12_,q13_]
  ·
   rintro D t w hD hp hcl ⟨O,ht,hs⟩ rest hk
   have q10_:=nz hcl 10 0 hD
   have q11_:=nz hcl 11 0 q10_
   have q12_:=nz hcl 12 1 q11_
   have q13_:=nz hcl 13 0 q12_
   simp only [hD,q10_,q11_,q12_,q13_,cq,oT] at ht hs
   subst ht
   refine Qab (v:=pointer (some ⟨b9,0,none⟩)) rfl rfl rfl (g_d rfl ?_)
   try dsimp only [Qah,Qai]
   refine hk _ _ ⟨O,?_,hs.cast ?_⟩<;>simp only [oT,lq,cq,Nat.reduceBEq,q10_,q11_,q12_,q13_]
  ·
   rintro D t w hD hp hcl ⟨O,ht,hs⟩ rest hk
   obtain ⟨p9_,_⟩:=hp
   have q11_:=nz hcl 11 0 hD
   have q12_:=nz hcl 12 1 q11_
   have q13_:=nz hcl 13 0 q12_
   simp only [hD,p9_,q11_,q12_,q13_,cq,oT] at ht hs
   subst ht
   refine Qaw rfl rfl (v:=int .i8 x28) rfl rfl (fun _=>rfl) (cells_load (hs.cells 3 rfl) 0 1 rfl) (g_d rfl ?_)
   try dsimp only [Qah,Qai]
   refine hk _ _ ⟨O,?_,hs.cast ?_⟩<;>simp only [oT,lq,cq,Nat.reduceBEq,p9_,q11_,q12_,q13_]
  ·
   rintro D t w hD hp hcl ⟨O,ht,hs⟩ rest hk
   obtain ⟨p10_,_⟩:=hp
   obtain ⟨p9_,_⟩:=(hcl.get 10 (by decide)) p10_
   have q12_:=nz hcl 12 1 hD
   have q13_:=nz hcl 13 0 q12_
   simp only [hD,p9_,p10_,q12_,q13_,cq,oT] at ht hs
   subst ht
   refine Qab (v:=int .i64 (i64w x28)) rfl rfl rfl (g_d rfl ?_)
   try dsimp only [Qah,Qai]
   refine hk _ _ ⟨O,?_,hs.cast ?_⟩<;>simp only [oT,lq,cq,Nat.reduceBEq,p9_,p10_,q12_,q13_]
  ·
   rintro D t w hD hp hcl ⟨O,ht,hs⟩ rest hk
   obtain ⟨p8_,p11_,_⟩:=hp
   obtain ⟨p10_,_⟩:=(hcl.get 11 (by decide)) p11_
   obtain ⟨p9_,_⟩:=(hcl.get 10 (by decide)) p10_
   obtain ⟨p1_,p7_,_⟩:=(hcl.get 8 (by decide)) p8_
   obtain ⟨p2_,p6_,_⟩:=(hcl.get 7 (by decide)) p7_
   obtain ⟨p5_,_⟩:=(hcl.get 6 (by decide)) p6_
   obtain ⟨p4_,_⟩:=(hcl.get 5 (by decide)) p5_
   obtain ⟨p3_,_⟩:=(hcl.get 4 (by decide)) p4_
   obtain ⟨p0_,_⟩:=(hcl.get 1 (by decide)) p1_
   have q13_:=nz hcl 13 0 hD
   simp only [hD,p0_,p1_,p2_,p3_,p4_,p5_,p6_,p7_,p8_,p9_,p10_,p11_,q13_,cq,oT] at ht hs
   subst ht
   refine Qab (v:=int .i64 ((i64w ((i64w (r34.1+1))+r35.1)).tmod (i64w x28))) rfl rfl (QcE rfl rfl rfl gd6) (g_d rfl ?_)
   try dsimp only [Qah,Qai]
   refine hk _ _ ⟨O,?_,hs.cast ?_⟩<;>simp only [oT,lq,cq,Nat.reduceBEq,p0_,p1_,p2_,p3_,p4_,p5_,p6_,p7_,p8_,p9_,p10_,p11_,q13_]
  ·
   rintro D t w hD hp hcl ⟨O,ht,hs⟩ rest hk
   obtain ⟨p12_,p7_,p0_,p1_,p2_,p3_,p4_,p5_,p6_,_,p8_,p9_,p10_,p11_,_,_⟩:=hp
   simp only [hD,p0_,p1_,p2_,p3_,p4_,p5_,p6_,p7_,p8_,p9_,p10_,p11_,p12_,cq,oT] at ht hs
   subst ht
   refine Qab (v:=int .i64 ((i64w ((i64w (r34.1+1))+r35.1)).tmod (i64w x28))) rfl rfl rfl (g_d rfl ?_)
   try dsimp only [Qah,Qai]
   refine hk _ _ ⟨O,?_,hs.cast ?_⟩<;>simp only [oT,lq,cq,Nat.reduceBEq,p0_,p1_,p2_,p3_,p4_,p5_,p6_,p7_,p8_,p9_,p10_,p11_,p12_]
  intro D t w hall hI
  obtain ⟨O,ht,hs⟩:=hI
  have p0_:=hall 0 (by decide)
  have p1_:=hall 1 (by decide)
  have p2_:=hall 2 (by decide)
  have p3_:=hall 3 (by decide)
  have p4_:=hall 4 (by decide)
  have p5_:=hall 5 (by decide)
  have p6_:=hall 6 (by decide)
  have p7_:=hall 7 (by decide)
  have p8_:=hall 8 (by decide)
  have p9_:=hall 9 (by decide)
  have p10_:=hall 10 (by decide)
  have p11_:=hall 11 (by decide)
  have p12_:=hall 12 (by decide)
  have p13_:=hall 13 (by decide)
  simp only [p0_,p1_,p2_,p3_,p4_,p5_,p6_,p7_,p8_,p9_,p10_,p11_,p12_,p13_,cq,oT] at ht hs
  subst ht
  refine Qaj (Qan [0,1,2,3,4,5,6,7] rfl ?_)
  refine Qab (v:=int .i64 r34.1) rfl rfl rfl (g_d rfl ?_)
  refine Qab (v:=int .u64 (u64w r34.1)) rfl rfl rfl (g_d rfl ?_)
  obtain ⟨g7,H⟩:=ite_get H
  refine Qab (v:=int .u16 (shlI .u16 1 (u64w r34.1))) rfl rfl (Qcx rfl rfl rfl g7) (g_d rfl ?_)
  try dsimp only [Qah,Qai]
  refine Qab (v:=int .i64 ((i64w ((i64w (r34.1+1))+r35.1)).tmod (i64w x28))) rfl rfl rfl (g_d rfl ?_)
  refine Qab (v:=int .u64 (u64w ((i64w ((i64w (r34.1+1))+r35.1)).tmod (i64w x28)))) rfl rfl rfl (g_d rfl ?_)
  obtain ⟨g8,H⟩:=ite_get H
  refine Qab (v:=int .u16 (shlI .u16 1 (u64w ((i64w ((i64w (r34.1+1))+r35.1)).tmod (i64w x28))))) rfl rfl (Qcx rfl rfl rfl g8) (g_d rfl ?_)
  refine Qab (v:=int .u16 (bOr .u16 (shlI .u16 1 (u64w r34.1)) (shlI .u16 1 (u64w ((i64w ((i64w (r34.1+1))+r35.1)).tmod (i64w x28)))))) rfl rfl rfl (g_d rfl ?_)
  try dsimp only [Qah,Qai]
  refine Qab (v:=int .u16 (bOr .u16 (shlI .u16 1 (u64w r34.1)) (shlI .u16 1 (u64w ((i64w ((i64w (r34.1+1))+r35.1)).tmod (i64w x28)))))) rfl rfl rfl (g_d rfl (Qac (Qaj (Qaj ?_))))
  refine Qcz (J:=(fun t w=>∃ x38:Int,∃ x39:Int,∃ x41:Int,Qa8.j2 N x32 x28 x29 x33 x38 x39 x41=some x11_∧Fr t (fun O=>(pointer (some ⟨b2,0,none⟩)::O 1::pointer (some ⟨b6,0,none⟩)::pointer (some ⟨b9,0,none⟩)::int .i64 x33::O 5::O 6::int .u16 x41::O 8::O 9::oT O 1 (oT O 2 (oT O 3 (oT O 4 (oT O 5 (O 60::O 61::O 62::O 63::O 64::O 65::O 66::O 67::O 68::[]))))):List Value))∧St wb [Cells b2 (([v3,int .i64 x38,int .u64 x39]:List Value)) 107,Cells b6 (([int .i8 0,int .i8 0,slice none 0 0]:List Value)) 27,Cells b9 (([int .i8 x28,int .i8 x29,v31]:List Value)) 27,Row 46 (K.int .u16) v31 x32,Z] w)) ?_ ?_
  ·
   rintro t w ⟨x38,x39,x41,H,hf,hs⟩
   obtain ⟨O,rfl⟩:=hf.open
   try dsimp only [oT]
   unfold Qa8.j2 at H
   refine Qan [0,1,2,3,4,5,6] rfl ?_
   refine Qab (v:=pointer (some ⟨b9,2,none⟩)) rfl rfl rfl (g_d rfl ?_)
   refine Qaw rfl rfl (v:=v31) rfl rfl (fun _=>rfl) (cells_load (hs.cells 2 rfl) 2 1 rfl) (g_d rfl ?_)
   refine Qab (v:=int .u16 x41) rfl rfl rfl (g_d rfl ?_)
   try dsimp only [Qah,Qai]
   refine Qcq (fkI .u16) (y:=x41) hs rfl rfl rfl rfl (fun _=>rfl) (zv:=(int .u16 0)) (fun _=>rfl) rfl (by decide) (by decide) rfl ?_
   intro v42 w hs
   refine g_d rfl ?_
   have hs:St _ [_,_,_,_,_,_] _:=hs.pull 4 rfl
   obtain ⟨g,H⟩:=ite_get H
   refine Qcr (fkI .u16) (zv:=(int .u16 0)) (B:=2) hs (hs.row 1 rfl) rfl rfl rfl rfl rfl rfl rfl rfl rfl (by decide) rfl rfl (by decide) (by omega) ?_
   intro v44 w hs
   refine g_d rfl ?_
   try dsimp only [Qah,Qai]
   refine Qab (v:=pointer (some ⟨b9,2,none⟩)) rfl rfl rfl (g_d rfl ?_)
   have hs:St _ [_,_,_,_,_,_] _:=hs.pull 4 rfl
   refine QcA hs rfl rfl (vs:=[v44]) (cs':=(([int .i8 x28,int .i8 x29,v44]:List Value))) rfl rfl (slCells (hs.row 1 rfl)) (n:=1) (fun _=>rfl) rfl (by first|exact Nat.le_of_ble_eq_true rfl|simp [encAI_len,encAB_len,encA_len]) (by intro v hv;simp only [List.mem_cons,List.not_mem_nil,or_false] at hv;subst hv;exact slOne (hs.row 1 rfl)) rfl ?_
   intro w hs
   refine g_n rfl (Qac ?_)
   refine Qa0 (Qan [0,1,2] rfl ?_)
   refine Qab (v:=int .i64 x33) rfl rfl rfl (g_d rfl ?_)
   refine Qab (v:=int .i64 (i64w (x33 - 1))) rfl rfl rfl (g_d rfl ?_)
   refine Qab (v:=int .i64 (i64w (x33 - 1))) rfl rfl rfl (g_d rfl ?_)
   try dsimp only [Qah,Qai]
   refine Qac ?_
   obtain rfl:=QsJ H
   have hs:=hs.pull 5 rfl
   have hs:=hs.pull 1 rfl
   have hs:=hs.pull 2 rfl
   have hs:=hs.pull 5 rfl
   have hs:=hs.pull 5 rfl
   have hs:St _ [_,_,_,_,_] _:=St.take (Γ':=[_]) hs
   exact ih1_ _ _ ⟨x38,x39,x28,x29,v44,x32++([x41]),i64w (x33 - 1),Hx1_,rfl,hs⟩
  intro ha
  refine Qan [0,1] rfl ?_
  refine Qab (v:=pointer (some ⟨b2,0,none⟩)) rfl rfl rfl (g_d rfl ?_)
  obtain ⟨r36,Hr36,H⟩:=bind_get H
  have hs:St _ [_,_,_,_,_] _:=hs.pull 0 rfl
  have hs:=hs.pack 1
  refine Qaz (args:=[pointer (some ⟨b2,0,none⟩),int .i64 5]) rfl rfl (QaA rfl (callFunc_enter Tryz.func63 rfl rfl) rfl) (QbT.calls (a1:=(⟨a1.Qa3,r35.2.Qbf,r35.2.Qa2⟩:QaH)) (a6:=5) hs hr4 Hr36) ?_
  rintro _ w ⟨rfl,hs⟩
  have hs:=St.unpack (Γ:=[_]) hs
  have hs:St _ [_,_,_,_,_] _:=hs
  generalize hb9_:r36.1=b_ at H ⊢
  cases b_ with
  |true=>
   rw [if_pos rfl] at H
   refine g_d rfl (Qac (Qaq rfl (Qan [0,1,2,3,4,5,6,7,8,9] rfl ?_)))
   refine Qab (v:=int .u16 (bOr .u16 (shlI .u16 1 (u64w r34.1)) (shlI .u16 1 (u64w ((i64w ((i64w (r34.1+1))+r35.1)).tmod (i64w x28)))))) rfl rfl rfl (g_d rfl ?_)
   refine Qab (v:=pointer (some ⟨b2,0,none⟩)) rfl rfl rfl (g_d rfl ?_)
   refine Qab (v:=pointer (some ⟨b9,0,none⟩)) rfl rfl rfl (g_d rfl ?_)
   refine Qaw rfl rfl (v:=int .i8 x28) rfl rfl (fun _=>rfl) (cells_load (hs.cells 3 rfl) 0 1 rfl) (g_d rfl ?_)
   try dsimp only [Qah,Qai]
   refine Qab (v:=int .i64 (i64w x28)) rfl rfl rfl (g_d rfl ?_)
   obtain ⟨r37,Hr37,H⟩:=bind_get H
   have hs:St _ [_,_,_,_,_] _:=hs.pull 0 rfl
   have hs:=hs.pack 1
   refine Qaz (args:=[pointer (some ⟨b2,0,none⟩),int .i64 (i64w x28)]) rfl rfl (QaA rfl (callFunc_enter Tryz.func62 rfl rfl) rfl) (QaS.calls (a1:=(⟨a1.Qa3,r36.2.Qbf,r36.2.Qa2⟩:QaH)) (a6:=i64w x28) hs hr4 Hr37) ?_
   rintro _ w ⟨rfl,hs⟩
   have hs:=St.unpack (Γ:=[_]) hs
   have hs:St _ [_,_,_,_,_] _:=hs
   refine g_d rfl ?_
   refine Qab (v:=int .u64 (u64w r37.1)) rfl rfl rfl (g_d rfl ?_)
   obtain ⟨g10,H⟩:=ite_get H
   refine Qab (v:=int .u16 (shlI .u16 1 (u64w r37.1))) rfl rfl (Qcx rfl rfl rfl g10) (g_d rfl ?_)
   try dsimp only [Qah,Qai]
   refine Qab (v:=int .u16 (bOr .u16 (bOr .u16 (shlI .u16 1 (u64w r34.1)) (shlI .u16 1 (u64w ((i64w ((i64w (r34.1+1))+r35.1)).tmod (i64w x28))))) (shlI .u16 1 (u64w r37.1)))) rfl rfl rfl (g_d rfl ?_)
   refine Qab (v:=int .u16 (bOr .u16 (bOr .u16 (shlI .u16 1 (u64w r34.1)) (shlI .u16 1 (u64w ((i64w ((i64w (r34.1+1))+r35.1)).tmod (i64w x28))))) (shlI .u16 1 (u64w r37.1)))) rfl rfl rfl (g_d rfl ?_)
   try dsimp only [Qah,Qai]
   refine Qac ?_
   have hs:=hs.pull 4 rfl
   have hs:=hs.pull 3 rfl
   have hs:=hs.pull 4 rfl
   have hs:=hs.pull 4 rfl
   have hs:=hs.pull 4 rfl
   have hs:St _ [_,_,_,_,_] _:=St.take (Γ':=[]) hs
   exact ha _ _ ⟨r37.2.Qbf,r37.2.Qa2,bOr .u16 (bOr .u16 (shlI .u16 1 (u64w r34.1)) (shlI .u16 1 (u64w ((i64w ((i64w (r34.1+1))+r35.1)).tmod (i64w x28))))) (shlI .u16 1 (u64w r37.1)),H,rfl,hs⟩
  |false=>
   rw [if_neg Bool.false_ne_true] at H
   refine g_d rfl ?_
   try dsimp only [Qah,Qai]
   refine Qac (Qas rfl (QaK ?_))
   have hs:=hs.pull 4 rfl
   have hs:=hs.pull 3 rfl
   have hs:=hs.pull 4 rfl
   have hs:=hs.pull 4 rfl
   have hs:=hs.pull 4 rfl
   have hs:St _ [_,_,_,_,_] _:=St.take (Γ':=[]) hs
   exact ha _ _ ⟨r36.2.Qbf,r36.2.Qa2,bOr .u16 (shlI .u16 1 (u64w r34.1)) (shlI .u16 1 (u64w ((i64w ((i64w (r34.1+1))+r35.1)).tmod (i64w x28)))),H,rfl,hs⟩
 intro hb
 rw [if_neg (b_dec_f hb)] at H
 refine g_d rfl (Qac (Qas rfl ?_))
 obtain rfl:=QsJ H
 subst Hx1_
 have hs:=hs.pull 4 rfl
 have hs:=hs.pull 1 rfl
 have hs:=hs.pull 3 rfl
 have hs:=hs.pull 4 rfl
 have hs:=hs.pull 4 rfl
 have hs:St _ [_,_,_,_,_] _:=St.take (Γ':=[]) hs
 refine QbE rfl ?_
 exact ha1_ _ _ ⟨x28,x29,v31,x32,x26,x27,Hr1_,rfl,hs⟩
def Qce.post (w0:World) (r:Qaf) (v:Value) (w:World):Prop:=∃ u1:Value,v=agg (([int .i8 r.Qad,int .i8 r.Qag,u1]:List Value)).toArray∧St w0 [Row 46 (K.int .u16) u1 r.Qal] w
theorem Qce.calls {N:Nat} {a1:(List Int)} {v2:Value} {w0:World} {r:Qaf} (hr0:RdRow (K.int .u8) w0 v2 a1) (H:Qce.f N a1=some r):
 Calls Tryz.prog 5 #[v2] w0 fun e w=>∃ v,e= .returned v∧Qce.post w0 r v w:=by
 unfold Qce.f at H
 have hs:St w0 [] w0:=St.refl w0
 refine calls_of_g (n:=5) Tryz.func5 rfl rfl ?_
 show G _ _ _ _ [_,_,_,_,_,_] _
 refine Qaj (Qan [0] rfl ?_)
 refine QbI hs rfl rfl (z:=(agg #[int .i8 0,int .i8 0,slice none 0 0])) (cs:=(([int .i8 0,int .i8 0,slice none 0 0]:List Value))) rfl (fun _=>rfl) rfl ?_
 intro b3 w hs
 refine Qac (Qaj (Qan [0,1,2,3] rfl ?_))
 refine Qab (v:=v2) rfl rfl rfl ?_
 obtain ⟨r5,Hr5,H⟩:=bind_get H
 refine Qaz (args:=[v2]) rfl rfl (QaA rfl (callFunc_enter Tryz.func28 rfl rfl) rfl) (Qcj.calls (a1:=a1) (hs.rd hr0) Hr5) ?_
 rintro _ w ⟨b6,rfl,hs2⟩
 have hs:St _ [_,_] _:=hs.call hs2
 show G _ _ _ _ [_,_,_,_,_,_] _
 obtain ⟨r8,Hr8,H⟩:=bind_get H
 have hs:St _ [_,_] _:=hs.pull 0 rfl
 have hs:=hs.pack 1
 refine Qaz (args:=[pointer (some ⟨b6,0,none⟩)]) rfl rfl (QaA rfl (callFunc_enter Tryz.func27 rfl rfl) rfl) (Qa8.calls (a1:=(⟨a1,r5.Qbf,r5.Qa2⟩:QaH)) hs hr0 Hr8) ?_
 rintro _ w ⟨v9,rfl,hs⟩
 have hs:=St.unpack (Γ:=[_,_]) hs
 have hs:St _ [_,_,_] _:=hs
 have hs:St _ [_,_,_] _:=hs.pull 2 rfl
 refine QaY (n:=3) hs rfl rfl rfl (vs:=(([int .i8 r8.1.Qad,int .i8 r8.1.Qag,v9]:List Value))) rfl rfl rfl (fun _=>rfl) rfl (by intro v hv;simp only [List.mem_append,List.mem_cons,List.not_mem_nil,or_false] at hv;repeat (first|(subst hv;first|rfl|exact slOne (hs.row 1 rfl))|(rcases hv with hv|hv))) ?_
 intro w hs
 refine Qac ?_
 obtain rfl:=QsJ H
 refine QaB Tryz.func5 (v:=agg (([int .i8 r8.1.Qad,int .i8 r8.1.Qag,v9]:List Value)).toArray) (resC rfl ⟨⟨_,rfl,(run_loadVar_agg (es:=(([int .i8 r8.1.Qad,int .i8 r8.1.Qag,v9]:List Value))) rfl rfl (cells_all (hs.cells 0 rfl)))⟩,trivial⟩) ?_
 have hs:=hs.pull 1 rfl
 have hs:St _ [_] _:=St.take (Γ':=[_,_]) hs
 exact ⟨_,rfl,v9,rfl,hs⟩
def QbU.post (w0:World) (r:Bool) (v:Value) (w:World):Prop:=v=bool r∧St w0 [] w
theorem QbU.calls {N:Nat} {a1:Int} {a2:Int} {a3:Int} {w0:World} {r:Bool} (H:QbU.f N a1 a2 a3=some r):
 Calls Tryz.prog 50 #[int .i64 a1,int .i64 a2,int .i64 a3] w0 fun e w=>∃ v,e= .returned v∧QbU.post w0 r v w:=by
 unfold QbU.f at H
 have hs:St w0 [] w0:=St.refl w0
 refine calls_of_g (n:=12) Tryz.func50 rfl rfl ?_
 show G _ _ _ _ [_,_,_,_,_,_,_,_,_,_,_,_,_,_,_] _
 refine Qaj (Qan [0] rfl ?_)
 refine Qab (v:=bool false) rfl rfl rfl (Qac (Qaj (Qan [0,1,2,3,4,5,6,7,8] rfl ?_)))
 refine Qab (v:=int .i64 a2) rfl rfl rfl ?_
 show G _ _ _ _ [_,_,_,_,_,_,_,_,_,_,_,_,_,_,_] _
 refine Qab (v:=int .i64 a1) rfl rfl rfl ?_
 refine QaI (B:=decide (a2≤a1)) rfl rfl rfl ?_ ?_
 ·
  intro hb
  rw [if_pos (b_dec_t hb)] at H
  show G _ _ _ _ [_,_,_,_,_,_,_,_,_,_,_,_,_,_,_] _
  refine Qab (v:=bool true) rfl rfl rfl ?_
  refine Qab (v:=int .i64 a1) rfl rfl rfl ?_
  refine Qab (v:=int .i64 a3) rfl rfl rfl ?_
  show G _ _ _ _ [_,_,_,_,_,_,_,_,_,_,_,_,_,_,_] _
  refine Qab (v:=bool (decide (a1≤a3))) rfl rfl rfl ?_
  refine Qab (v:=bool (decide (a1≤a3))) rfl rfl rfl ?_
  refine Qab (v:=bool (decide (a1≤a3))) rfl rfl rfl ?_
  show G _ _ _ _ [_,_,_,_,_,_,_,_,_,_,_,_,_,_,_] _
  refine Qac ?_
  obtain rfl:=QsJ H
  refine QaB Tryz.func50 (v:=bool (decide (a1≤a3))) (res1 rfl rfl) ?_
  have hs:St _ [] _:=St.take (Γ':=[]) hs
  exact ⟨_,rfl,rfl,hs⟩
 intro hb
 rw [if_neg (b_dec_f hb)] at H
 refine Qab (v:=bool false) rfl rfl rfl ?_
 show G _ _ _ _ [_,_,_,_,_,_,_,_,_,_,_,_,_,_,_] _
 refine Qae rfl rfl (Qae rfl rfl (Qae rfl rfl ?_))
 show G _ _ _ _ [_,_,_,_,_,_,_,_,_,_,_,_,_,_,_] _
 refine Qab (v:=bool false) rfl rfl rfl ?_
 refine Qab (v:=bool false) rfl rfl rfl (Qac ?_)
 obtain rfl:=QsJ H
 refine QaB Tryz.func50 (v:=bool false) (res1 rfl rfl) ?_
 have hs:St _ [] _:=St.take (Γ':=[]) hs
 exact ⟨_,rfl,rfl,hs⟩
def QaZ.post (w0:World) (r:Int) (v:Value) (w:World):Prop:=v=int .u16 r∧St w0 [] w
theorem QaZ.calls {N:Nat} {a1:Qaf} {v2:Value} {w0:World} {r:Int} (hr3:RdRow (K.int .u16) w0 v2 a1.Qal) (H:QaZ.f N a1=some r):
 Calls Tryz.prog 44 #[agg (([int .i8 a1.Qad,int .i8 a1.Qag,v2]:List Value)).toArray] w0 fun e w=>∃ v,e= .returned v∧QaZ.post w0 r v w:=by
 unfold QaZ.f at H
 have hs:St w0 [] w0:=St.refl w0
 refine calls_of_g (n:=6) Tryz.func44 rfl rfl ?_
 show G _ _ _ _ [_,_,_,_,_,_,_] _
 refine Qaj (Qan [0,1] rfl ?_)
 refine Qbw hs rfl rfl (cs:=(([int .i8 a1.Qad,int .i8 a1.Qag,v2]:List Value))) rfl rfl ?_
 intro b4 w hs
 refine Qab (v:=int .u16 0) rfl rfl rfl (Qac (Qaj (Qan [0,1,2,3,4] rfl ?_)))
 refine Qab (v:=pointer (some ⟨b4,0,none⟩)) rfl rfl rfl ?_
 show G _ _ _ _ [_,_,_,_,_,_,_] _
 refine Qaw rfl rfl (v:=int .i8 a1.Qad) rfl rfl (fun _=>rfl) (cells_load (hs.cells 0 rfl) 0 1 rfl) ?_
 obtain ⟨g1,H⟩:=ite_get H
 refine Qab (v:=int .u16 (shlI .u16 1 a1.Qad)) rfl rfl (Qcx rfl rfl rfl g1) ?_
 refine Qab (v:=int .u16 (u16w ((shlI .u16 1 a1.Qad) - 1))) rfl rfl rfl ?_
 show G _ _ _ _ [_,_,_,_,_,_,_] _
 refine Qab (v:=int .u16 (u16w ((shlI .u16 1 a1.Qad) - 1))) rfl rfl rfl (Qac ?_)
 obtain rfl:=QsJ H
 refine QaB Tryz.func44 (v:=int .u16 (u16w ((shlI .u16 1 a1.Qad) - 1))) (res1 rfl rfl) ?_
 have hs:St _ [] _:=St.take (Γ':=[_]) hs
 exact ⟨_,rfl,rfl,hs⟩
def Qby.post (w0:World) (r:Bool) (v:Value) (w:World):Prop:=v=bool r∧St w0 [] w
theorem Qby.calls {N:Nat} {a1:Int} {a2:Int} {w0:World} {r:Bool} (H:Qby.f N a1 a2=some r):
 Calls Tryz.prog 53 #[int .u16 a1,int .u16 a2] w0 fun e w=>∃ v,e= .returned v∧Qby.post w0 r v w:=by
 unfold Qby.f at H
 have hs:St w0 [] w0:=St.refl w0
 refine calls_of_g (n:=7) Tryz.func53 rfl rfl ?_
 show G _ _ _ _ [_,_,_,_,_,_,_,_,_] _
 refine Qaj (Qan [0] rfl ?_)
 refine Qab (v:=bool false) rfl rfl rfl ?_
 show G _ _ _ _ [_,_,_,_,_,_,_,_,_] _
 refine Qac (Qaj (Qan [0,1,2,3,4] rfl ?_))
 refine Qab (v:=int .u16 a1) rfl rfl rfl ?_
 refine Qab (v:=int .u16 a2) rfl rfl rfl ?_
 refine Qab (v:=int .u16 (bAndNot .u16 a1 a2)) rfl rfl rfl ?_
 show G _ _ _ _ [_,_,_,_,_,_,_,_,_] _
 refine Qab (v:=bool ((bAndNot .u16 a1 a2)==0)) rfl rfl rfl ?_
 refine Qab (v:=bool ((bAndNot .u16 a1 a2)==0)) rfl rfl rfl (Qac ?_)
 obtain rfl:=QsJ H
 refine QaB Tryz.func53 (v:=bool ((bAndNot .u16 a1 a2)==0)) (res1 rfl rfl) ?_
 have hs:St _ [] _:=St.take (Γ':=[]) hs
 exact ⟨_,rfl,rfl,hs⟩
def QbD.post (w0:World) (r:Int) (v:Value) (w:World):Prop:=v=int .i64 r∧St w0 [] w
theorem QbD.calls {N:Nat} {a1:Int} {w0:World} {r:Int} (H:QbD.f N a1=some r):
 Calls Tryz.prog 54 #[int .u16 a1] w0 fun e w=>∃ v,e= .returned v∧QbD.post w0 r v w:=by
 unfold QbD.f at H
 have hs:St w0 [] w0:=St.refl w0
 refine calls_of_g (n:=10) Tryz.func54 rfl rfl ?_
 show G _ _ _ _ [_,_,_,_,_,_,_,_,_,_,_] _
 refine Qaj (Qan [0] rfl ?_)
 refine Qab (v:=int .i64 0) rfl rfl rfl (Qac (Qaj ?_))
 obtain ⟨gd1,H⟩:=ite_get H
 obtain ⟨gd2,H⟩:=ite_get H
 refine QaV ?_
 intro T hT
 refine QbZ (n:=9) rfl [0,1,2,3,4,5,6,7,8] [0,1,2,3,4,5,6,7,8] rfl rfl (Inv:=fun D t w=>∃ O:Nat→Value,t=[int .u16 a1,O 1,cnd (D 8) (int .i64 (i64w (u8w ((btS (⟨#[0,1,1,2,1,2,2,3,1,2,2,3,2,3,3,4,1,2,2,3,2,3,3,4,2,3,3,4,3,4,4,5,1,2,2,3,2,3,3,4,2,3,3,4,3,4,4,5,2,3,3,4,3,4,4,5,3,4,4,5,4,5,5,6,1,2,2,3,2,3,3,4,2,3,3,4,3,4,4,5,2,3,3,4,3,4,4,5,3,4,4,5,4,5,5,6,2,3,3,4,3,4,4,5,3,4,4,5,4,5,5,6,3,4,4,5,4,5,5,6,4,5,5,6,5,6,6,7,1,2,2,3,2,3,3,4,2,3,3,4,3,4,4,5,2,3,3,4,3,4,4,5,3,4,4,5,4,5,5,6,2,3,3,4,3,4,4,5,3,4,4,5,4,5,5,6,3,4,4,5,4,5,5,6,4,5,5,6,5,6,6,7,2,3,3,4,3,4,4,5,3,4,4,5,4,5,5,6,3,4,4,5,4,5,5,6,4,5,5,6,5,6,6,7,3,4,4,5,4,5,5,6,4,5,5,6,5,6,6,7,4,5,5,6,5,6,6,7,5,6,6,7,6,7,7,8]⟩:ByteArray) (shrI .u16 a1 8))+(btS (⟨#[0,1,1,2,1,2,2,3,1,2,2,3,2,3,3,4,1,2,2,3,2,3,3,4,2,3,3,4,3,4,4,5,1,2,2,3,2,3,3,4,2,3,3,4,3,4,4,5,2,3,3,4,3,4,4,5,3,4,4,5,4,5,5,6,1,2,2,3,2,3,3,4,2,3,3,4,3,4,4,5,2,3,3,4,3,4,4,5,3,4,4,5,4,5,5,6,2,3,3,4,3,4,4,5,3,4,4,5,4,5,5,6,3,4,4,5,4,5,5,6,4,5,5,6,5,6,6,7,1,2,2,3,2,3,3,4,2,3,3,4,3,4,4,5,2,3,3,4,3,4,4,5,3,4,4,5,4,5,5,6,2,3,3,4,3,4,4,5,3,4,4,5,4,5,5,6,3,4,4,5,4,5,5,6,4,5,5,6,5,6,6,7,2,3,3,4,3,4,4,5,3,4,4,5,4,5,5,6,3,4,4,5,4,5,5,6,4,5,5,6,5,6,6,7,3,4,4,5,4,5,5,6,4,5,5,6,5,6,6,7,4,5,5,6,5,6,6,7,5,6,6,7,6,7,7,8]⟩:ByteArray) (bAnd .u16 a1 255)))))) (int .i64 0),cnd (D 0) (int .u16 a1) (O 3),cnd (D 1) (int .u16 (shrI .u16 a1 8)) (O 4),cnd (D 2) (int .u8 (btS (⟨#[0,1,1,2,1,2,2,3,1,2,2,3,2,3,3,4,1,2,2,3,2,3,3,4,2,3,3,4,3,4,4,5,1,2,2,3,2,3,3,4,2,3,3,4,3,4,4,5,2,3,3,4,3,4,4,5,3,4,4,5,4,5,5,6,1,2,2,3,2,3,3,4,2,3,3,4,3,4,4,5,2,3,3,4,3,4,4,5,3,4,4,5,4,5,5,6,2,3,3,4,3,4,4,5,3,4,4,5,4,5,5,6,3,4,4,5,4,5,5,6,4,5,5,6,5,6,6,7,1,2,2,3,2,3,3,4,2,3,3,4,3,4,4,5,2,3,3,4,3,4,4,5,3,4,4,5,4,5,5,6,2,3,3,4,3,4,4,5,3,4,4,5,4,5,5,6,3,4,4,5,4,5,5,6,4,5,5,6,5,6,6,7,2,3,3,4,3,4,4,5,3,4,4,5,4,5,5,6,3,4,4,5,4,5,5,6,4,5,5,6,5,6,6,7,3,4,4,5,4,5,5,6,4,5,5,6,5,6,6,7,4,5,5,6,5,6,6,7,5,6,6,7,6,7,7,8]⟩:ByteArray) (shrI .u16 a1 8))) (O 5),cnd (D 3) (int .u16 a1) (O 6),cnd (D 4) (int .u16 (bAnd .u16 a1 255)) (O 7),cnd (D 5) (int .u8 (btS (⟨#[0,1,1,2,1,2,2,3,1,2,2,3,2,3,3,4,1,2,2,3,2,3,3,4,2,3,3,4,3,4,4,5,1,2,2,3,2,3,3,4,2,3,3,4,3,4,4,5,2,3,3,4,3,4,4,5,3,4,4,5,4,5,5,6,1,2,2,3,2,3,3,4,2,3,3,4,3,4,4,5,2,3,3,4,3,4,4,5,3,4,4,5,4,5,5,6,2,3,3,4,3,4,4,5,3,4,4,5,4,5,5,6,3,4,4,5,4,5,5,6,4,5,5,6,5,6,6,7,1,2,2,3,2,3,3,4,2,3,3,4,3,4,4,5,2,3,3,4,3,4,4,5,3,4,4,5,4,5,5,6,2,3,3,4,3,4,4,5,3,4,4,5,4,5,5,6,3,4,4,5,4,5,5,6,4,5,5,6,5,6,6,7,2,3,3,4,3,4,4,5,3,4,4,5,4,5,5,6,3,4,4,5,4,5,5,6,4,5,5,6,5,6,6,7,3,4,4,5,4,5,5,6,4,5,5,6,5,6,6,7,4,5,5,6,5,6,6,7,5,6,6,7,6,7,7,8]⟩:ByteArray) (bAnd .u16 a1 255))) (O 8),cnd (D 6) (int .u8 (u8w ((btS (⟨#[0,1,1,2,1,2,2,3,1,2,2,3,2,3,3,4,1,2,2,3,2,3,3,4,2,3,3,4,3,4,4,5,1,2,2,3,2,3,3,4,2,3,3,4,3,4,4,5,2,3,3,4,3,4,4,5,3,4,4,5,4,5,5,6,1,2,2,3,2,3,3,4,2,3,3,4,3,4,4,5,2,3,3,4,3,4,4,5,3,4,4,5,4,5,5,6,2,3,3,4,3,4,4,5,3,4,4,5,4,5,5,6,3,4,4,5,4,5,5,6,4,5,5,6,5,6,6,7,1,2,2,3,2,3,3,4,2,3,3,4,3,4,4,5,2,3,3,4,3,4,4,5,3,4,4,5,4,5,5,6,2,3,3,4,3,4,4,5,3,4,4,5,4,5,5,6,3,4,4,5,4,5,5,6,4,5,5,6,5,6,6,7,2,3,3,4,3,4,4,5,3,4,4,5,4,5,5,6,3,4,4,5,4,5,5,6,4,5,5,6,5,6,6,7,3,4,4,5,4,5,5,6,4,5,5,6,5,6,6,7,4,5,5,6,5,6,6,7,5,6,6,7,6,7,7,8]⟩:ByteArray) (shrI .u16 a1 8))+(btS (⟨#[0,1,1,2,1,2,2,3,1,2,2,3,2,3,3,4,1,2,2,3,2,3,3,4,2,3,3,4,3,4,4,5,1,2,2,3,2,3,3,4,2,3,3,4,3,4,4,5,2,3,3,4,3,4,4,5,3,4,4,5,4,5,5,6,1,2,2,3,2,3,3,4,2,3,3,4,3,4,4,5,2,3,3,4,3,4,4,5,3,4,4,5,4,5,5,6,2,3,3,4,3,4,4,5,3,4,4,5,4,5,5,6,3,4,4,5,4,5,5,6,4,5,5,6,5,6,6,7,1,2,2,3,2,3,3,4,2,3,3,4,3,4,4,5,2,3,3,4,3,4,4,5,3,4,4,5,4,5,5,6,2,3,3,4,3,4,4,5,3,4,4,5,4,5,5,6,3,4,4,5,4,5,5,6,4,5,5,6,5,6,6,7,2,3,3,4,3,4,4,5,3,4,4,5,4,5,5,6,3,4,4,5,4,5,5,6,4,5,5,6,5,6,6,7,3,4,4,5,4,5,5,6,4,5,5,6,5,6,6,7,4,5,5,6,5,6,6,7,5,6,6,7,6,7,7,8]⟩:ByteArray) (bAnd .u16 a1 255))))) (O 9),cnd (D 7) (int .i64 (i64w (u8w ((btS (⟨#[0,1,1,2,1,2,2,3,1,2,2,3,2,3,3,4,1,2,2,3,2,3,3,4,2,3,3,4,3,4,4,5,1,2,2,3,2,3,3,4,2,3,3,4,3,4,4,5,2,3,3,4,3,4,4,5,3,4,4,5,4,5,5,6,1,2,2,3,2,3,3,4,2,3,3,4,3,4,4,5,2,3,3,4,3,4,4,5,3,4,4,5,4,5,5,6,2,3,3,4,3,4,4,5,3,4,4,5,4,5,5,6,3,4,4,5,4,5,5,6,4,5,5,6,5,6,6,7,1,2,2,3,2,3,3,4,2,3,3,4,3,4,4,5,2,3,3,4,3,4,4,5,3,4,4,5,4,5,5,6,2,3,3,4,3,4,4,5,3,4,4,5,4,5,5,6,3,4,4,5,4,5,5,6,4,5,5,6,5,6,6,7,2,3,3,4,3,4,4,5,3,4,4,5,4,5,5,6,3,4,4,5,4,5,5,6,4,5,5,6,5,6,6,7,3,4,4,5,4,5,5,6,4,5,5,6,5,6,6,7,4,5,5,6,5,6,6,7,5,6,6,7,6,7,7,8]⟩:ByteArray) (shrI .u16 a1 8))+(btS (⟨#[0,1,1,2,1,2,2,3,1,2,2,3,2,3,3,4,1,2,2,3,2,3,3,4,2,3,3,4,3,4,4,5,1,2,2,3,2,3,3,4,2,3,3,4,3,4,4,5,2,3,3,4,3,4,4,5,3,4,4,5,4,5,5,6,1,2,2,3,2,3,3,4,2,3,3,4,3,4,4,5,2,3,3,4,3,4,4,5,3,4,4,5,4,5,5,6,2,3,3,4,3,4,4,5,3,4,4,5,4,5,5,6,3,4,4,5,4,5,5,6,4,5,5,6,5,6,6,7,1,2,2,3,2,3,3,4,2,3,3,4,3,4,4,5,2,3,3,4,3,4,4,5,3,4,4,5,4,5,5,6,2,3,3,4,3,4,4,5,3,4,4,5,4,5,5,6,3,4,4,5,4,5,5,6,4,5,5,6,5,6,6,7,2,3,3,4,3,4,4,5,3,4,4,5,4,5,5,6,3,4,4,5,4,5,5,6,4,5,5,6,5,6,6,7,3,4,4,5,4,5,5,6,4,5,5,6,5,6,6,7,4,5,5,6,5,6,6,7,5,6,6,7,6,7,7,8]⟩:ByteArray) (bAnd .u16 a1 255)))))) (O 10)]∧St w0 [] w) ?_ ⟨⟨⟨⟨⟨⟨⟨⟨⟨trivial,?_⟩,?_⟩,?_⟩,?_⟩,?_⟩,?_⟩,?_⟩,?_⟩,?_⟩ ?_
 ·
  intro w hh hbw
  have hs:=hs.samew hh hbw
  exact ⟨fun i=>T.getD i undef,(by subst hT;rfl),hs⟩
 ·
  rintro D t w hD hp hcl ⟨O,ht,hs⟩ rest hk
  have q1_:=nz hcl 1 0 hD
  have q2_:=nz hcl 2 0 q1_
  have q6_:=nz hcl 6 0 q2_
  have q7_:=nz hcl 7 0 q6_
  have q8_:=nz hcl 8 0 q7_
  simp only [hD,q1_,q2_,q6_,q7_,q8_,cq,oT] at ht hs
  subst ht
  refine Qab (v:=int .u16 a1) rfl rfl rfl ?_
  show G _ _ _ _ [_,_,_,_,_,_,_,_,_,_,_] _
  refine hk _ _ ⟨O,?_,hs.cast ?_⟩<;>simp only [oT,lq,cq,Nat.reduceBEq,q1_,q2_,q6_,q7_,q8_]
 ·
  rintro D t w hD hp hcl ⟨O,ht,hs⟩ rest hk
  obtain ⟨p0_,_⟩:=hp
  have q2_:=nz hcl 2 0 hD
  have q6_:=nz hcl 6 0 q2_
  have q7_:=nz hcl 7 0 q6_
  have q8_:=nz hcl 8 0 q7_
  simp only [hD,p0_,q2_,q6_,q7_,q8_,cq,oT] at ht hs
  subst ht
  refine Qab (v:=int .u16 (shrI .u16 a1 8)) rfl rfl rfl ?_
  show G _ _ _ _ [_,_,_,_,_,_,_,_,_,_,_] _
  refine hk _ _ ⟨O,?_,hs.cast ?_⟩<;>simp only [oT,lq,cq,Nat.reduceBEq,p0_,q2_,q6_,q7_,q8_]
 ·
  rintro D t w hD hp hcl ⟨O,ht,hs⟩ rest hk
  obtain ⟨p1_,_⟩:=hp
  obtain ⟨p0_,_⟩:=(hcl.get 1 (by decide)) p1_
  have q6_:=nz hcl 6 0 hD
  have q7_:=nz hcl 7 0 q6_
  have q8_:=nz hcl 8 0 q7_
  simp only [hD,p0_,p1_,q6_,q7_,q8_,cq,oT] at ht hs
  subst ht
  refine Qab (v:=int .u8 (btS (⟨#[0,1,1,2,1,2,2,3,1,2,2,3,2,3,3,4,1,2,2,3,2,3,3,4,2,3,3,4,3,4,4,5,1,2,2,3,2,3,3,4,2,3,3,4,3,4,4,5,2,3,3,4,3,4,4,5,3,4,4,5,4,5,5,6,1,2,2,3,2,3,3,4,2,3,3,4,3,4,4,5,2,3,3,4,3,4,4,5,3,4,4,5,4,5,5,6,2,3,3,4,3,4,4,5,3,4,4,5,4,5,5,6,3,4,4,5,4,5,5,6,4,5,5,6,5,6,6,7,1,2,2,3,2,3,3,4,2,3,3,4,3,4,4,5,2,3,3,4,3,4,4,5,3,4,4,5,4,5,5,6,2,3,3,4,3,4,4,5,3,4,4,5,4,5,5,6,3,4,4,5,4,5,5,6,4,5,5,6,5,6,6,7,2,3,3,4,3,4,4,5,3,4,4,5,4,5,5,6,3,4,4,5,4,5,5,6,4,5,5,6,5,6,6,7,3,4,4,5,4,5,5,6,4,5,5,6,5,6,6,7,4,5,5,6,5,6,6,7,5,6,6,7,6,7,7,8]⟩:ByteArray) (shrI .u16 a1 8))) rfl rfl (QcN rfl rfl rfl rfl gd1.1 gd1.2) ?_
  show G _ _ _ _ [_,_,_,_,_,_,_,_,_,_,_] _
  refine hk _ _ ⟨O,?_,hs.cast ?_⟩<;>simp only [oT,lq,cq,Nat.reduceBEq,p0_,p1_,q6_,q7_,q8_]
 ·
  rintro D t w hD hp hcl ⟨O,ht,hs⟩ rest hk
  have q4_:=nz hcl 4 0 hD
  have q5_:=nz hcl 5 0 q4_
  have q6_:=nz hcl 6 1 q5_
  have q7_:=nz hcl 7 0 q6_
  have q8_:=nz hcl 8 0 q7_
  simp only [hD,q4_,q5_,q6_,q7_,q8_,cq,oT] at ht hs
  subst ht
  refine Qab (v:=int .u16 a1) rfl rfl rfl ?_
  show G _ _ _ _ [_,_,_,_,_,_,_,_,_,_,_] _
  refine hk _ _ ⟨O,?_,hs.cast ?_⟩<;>simp only [oT,lq,cq,Nat.reduceBEq,q4_,q5_,q6_,q7_,q8_]
 ·
  rintro D t w hD hp hcl ⟨O,ht,hs⟩ rest hk
  obtain ⟨p3_,_⟩:=hp
  have q5_:=nz hcl 5 0 hD
  have q6_:=nz hcl 6 1 q5_
  have q7_:=nz hcl 7 0 q6_
  have q8_:=nz hcl 8 0 q7_
  simp only [hD,p3_,q5_,q6_,q7_,q8_,cq,oT] at ht hs
  subst ht
  refine Qab (v:=int .u16 (bAnd .u16 a1 255)) rfl rfl rfl ?_
  show G _ _ _ _ [_,_,_,_,_,_,_,_,_,_,_] _
  refine hk _ _ ⟨O,?_,hs.cast ?_⟩<;>simp only [oT,lq,cq,Nat.reduceBEq,p3_,q5_,q6_,q7_,q8_]
 ·
  rintro D t w hD hp hcl ⟨O,ht,hs⟩ rest hk
  obtain ⟨p4_,_⟩:=hp
  obtain ⟨p3_,_⟩:=(hcl.get 4 (by decide)) p4_
  have q6_:=nz hcl 6 1 hD
  have q7_:=nz hcl 7 0 q6_
  have q8_:=nz hcl 8 0 q7_
  simp only [hD,p3_,p4_,q6_,q7_,q8_,cq,oT] at ht hs
  subst ht
  refine Qab (v:=int .u8 (btS (⟨#[0,1,1,2,1,2,2,3,1,2,2,3,2,3,3,4,1,2,2,3,2,3,3,4,2,3,3,4,3,4,4,5,1,2,2,3,2,3,3,4,2,3,3,4,3,4,4,5,2,3,3,4,3,4,4,5,3,4,4,5,4,5,5,6,1,2,2,3,2,3,3,4,2,3,3,4,3,4,4,5,2,3,3,4,3,4,4,5,3,4,4,5,4,5,5,6,2,3,3,4,3,4,4,5,3,4,4,5,4,5,5,6,3,4,4,5,4,5,5,6,4,5,5,6,5,6,6,7,1,2,2,3,2,3,3,4,2,3,3,4,3,4,4,5,2,3,3,4,3,4,4,5,3,4,4,5,4,5,5,6,2,3,3,4,3,4,4,5,3,4,4,5,4,5,5,6,3,4,4,5,4,5,5,6,4,5,5,6,5,6,6,7,2,3,3,4,3,4,4,5,3,4,4,5,4,5,5,6,3,4,4,5,4,5,5,6,4,5,5,6,5,6,6,7,3,4,4,5,4,5,5,6,4,5,5,6,5,6,6,7,4,5,5,6,5,6,6,7,5,6,6,7,6,7,7,8]⟩:ByteArray) (bAnd .u16 a1 255))) rfl rfl (QcN rfl rfl rfl rfl gd2.1 gd2.2) ?_
  show G _ _ _ _ [_,_,_,_,_,_,_,_,_,_,_] _
  refine hk _ _ ⟨O,?_,hs.cast ?_⟩<;>simp only [oT,lq,cq,Nat.reduceBEq,p3_,p4_,q6_,q7_,q8_]
 ·
  rintro D t w hD hp hcl ⟨O,ht,hs⟩ rest hk
  obtain ⟨p2_,p5_,_⟩:=hp
  obtain ⟨p4_,_⟩:=(hcl.get 5 (by decide)) p5_
  obtain ⟨p3_,_⟩:=(hcl.get 4 (by decide)) p4_
  obtain ⟨p1_,_⟩:=(hcl.get 2 (by decide)) p2_
  obtain ⟨p0_,_⟩:=(hcl.get 1 (by decide)) p1_
  have q7_:=nz hcl 7 0 hD
  have q8_:=nz hcl 8 0 q7_
  simp only [hD,p0_,p1_,p2_,p3_,p4_,p5_,q7_,q8_,cq,oT] at ht hs
  subst ht
  refine Qab (v:=int .u8 (u8w ((btS (⟨#[0,1,1,2,1,2,2,3,1,2,2,3,2,3,3,4,1,2,2,3,2,3,3,4,2,3,3,4,3,4,4,5,1,2,2,3,2,3,3,4,2,3,3,4,3,4,4,5,2,3,3,4,3,4,4,5,3,4,4,5,4,5,5,6,1,2,2,3,2,3,3,4,2,3,3,4,3,4,4,5,2,3,3,4,3,4,4,5,3,4,4,5,4,5,5,6,2,3,3,4,3,4,4,5,3,4,4,5,4,5,5,6,3,4,4,5,4,5,5,6,4,5,5,6,5,6,6,7,1,2,2,3,2,3,3,4,2,3,3,4,3,4,4,5,2,3,3,4,3,4,4,5,3,4,4,5,4,5,5,6,2,3,3,4,3,4,4,5,3,4,4,5,4,5,5,6,3,4,4,5,4,5,5,6,4,5,5,6,5,6,6,7,2,3,3,4,3,4,4,5,3,4,4,5,4,5,5,6,3,4,4,5,4,5,5,6,4,5,5,6,5,6,6,7,3,4,4,5,4,5,5,6,4,5,5,6,5,6,6,7,4,5,5,6,5,6,6,7,5,6,6,7,6,7,7,8]⟩:ByteArray) (shrI .u16 a1 8))+(btS (⟨#[0,1,1,2,1,2,2,3,1,2,2,3,2,3,3,4,1,2,2,3,2,3,3,4,2,3,3,4,3,4,4,5,1,2,2,3,2,3,3,4,2,3,3,4,3,4,4,5,2,3,3,4,3,4,4,5,3,4,4,5,4,5,5,6,1,2,2,3,2,3,3,4,2,3,3,4,3,4,4,5,2,3,3,4,3,4,4,5,3,4,4,5,4,5,5,6,2,3,3,4,3,4,4,5,3,4,4,5,4,5,5,6,3,4,4,5,4,5,5,6,4,5,5,6,5,6,6,7,1,2,2,3,2,3,3,4,2,3,3,4,3,4,4,5,2,3,3,4,3,4,4,5,3,4,4,5,4,5,5,6,2,3,3,4,3,4,4,5,3,4,4,5,4,5,5,6,3,4,4,5,4,5,5,6,4,5,5,6,5,6,6,7,2,3,3,4,3,4,4,5,3,4,4,5,4,5,5,6,3,4,4,5,4,5,5,6,4,5,5,6,5,6,6,7,3,4,4,5,4,5,5,6,4,5,5,6,5,6,6,7,4,5,5,6,5,6,6,7,5,6,6,7,6,7,7,8]⟩:ByteArray) (bAnd .u16 a1 255))))) rfl rfl rfl ?_
  show G _ _ _ _ [_,_,_,_,_,_,_,_,_,_,_] _
  refine hk _ _ ⟨O,?_,hs.cast ?_⟩<;>simp only [oT,lq,cq,Nat.reduceBEq,p0_,p1_,p2_,p3_,p4_,p5_,q7_,q8_]
 ·
  rintro D t w hD hp hcl ⟨O,ht,hs⟩ rest hk
  obtain ⟨p6_,_⟩:=hp
  obtain ⟨p2_,p5_,_⟩:=(hcl.get 6 (by decide)) p6_
  obtain ⟨p4_,_⟩:=(hcl.get 5 (by decide)) p5_
  obtain ⟨p3_,_⟩:=(hcl.get 4 (by decide)) p4_
  obtain ⟨p1_,_⟩:=(hcl.get 2 (by decide)) p2_
  obtain ⟨p0_,_⟩:=(hcl.get 1 (by decide)) p1_
  have q8_:=nz hcl 8 0 hD
  simp only [hD,p0_,p1_,p2_,p3_,p4_,p5_,p6_,q8_,cq,oT] at ht hs
  subst ht
  refine Qab (v:=int .i64 (i64w (u8w ((btS (⟨#[0,1,1,2,1,2,2,3,1,2,2,3,2,3,3,4,1,2,2,3,2,3,3,4,2,3,3,4,3,4,4,5,1,2,2,3,2,3,3,4,2,3,3,4,3,4,4,5,2,3,3,4,3,4,4,5,3,4,4,5,4,5,5,6,1,2,2,3,2,3,3,4,2,3,3,4,3,4,4,5,2,3,3,4,3,4,4,5,3,4,4,5,4,5,5,6,2,3,3,4,3,4,4,5,3,4,4,5,4,5,5,6,3,4,4,5,4,5,5,6,4,5,5,6,5,6,6,7,1,2,2,3,2,3,3,4,2,3,3,4,3,4,4,5,2,3,3,4,3,4,4,5,3,4,4,5,4,5,5,6,2,3,3,4,3,4,4,5,3,4,4,5,4,5,5,6,3,4,4,5,4,5,5,6,4,5,5,6,5,6,6,7,2,3,3,4,3,4,4,5,3,4,4,5,4,5,5,6,3,4,4,5,4,5,5,6,4,5,5,6,5,6,6,7,3,4,4,5,4,5,5,6,4,5,5,6,5,6,6,7,4,5,5,6,5,6,6,7,5,6,6,7,6,7,7,8]⟩:ByteArray) (shrI .u16 a1 8))+(btS (⟨#[0,1,1,2,1,2,2,3,1,2,2,3,2,3,3,4,1,2,2,3,2,3,3,4,2,3,3,4,3,4,4,5,1,2,2,3,2,3,3,4,2,3,3,4,3,4,4,5,2,3,3,4,3,4,4,5,3,4,4,5,4,5,5,6,1,2,2,3,2,3,3,4,2,3,3,4,3,4,4,5,2,3,3,4,3,4,4,5,3,4,4,5,4,5,5,6,2,3,3,4,3,4,4,5,3,4,4,5,4,5,5,6,3,4,4,5,4,5,5,6,4,5,5,6,5,6,6,7,1,2,2,3,2,3,3,4,2,3,3,4,3,4,4,5,2,3,3,4,3,4,4,5,3,4,4,5,4,5,5,6,2,3,3,4,3,4,4,5,3,4,4,5,4,5,5,6,3,4,4,5,4,5,5,6,4,5,5,6,5,6,6,7,2,3,3,4,3,4,4,5,3,4,4,5,4,5,5,6,3,4,4,5,4,5,5,6,4,5,5,6,5,6,6,7,3,4,4,5,4,5,5,6,4,5,5,6,5,6,6,7,4,5,5,6,5,6,6,7,5,6,6,7,6,7,7,8]⟩:ByteArray) (bAnd .u16 a1 255)))))) rfl rfl rfl ?_
  show G _ _ _ _ [_,_,_,_,_,_,_,_,_,_,_] _
  refine hk _ _ ⟨O,?_,hs.cast ?_⟩<;>simp only [oT,lq,cq,Nat.reduceBEq,p0_,p1_,p2_,p3_,p4_,p5_,p6_,q8_]
 ·
  rintro D t w hD hp hcl ⟨O,ht,hs⟩ rest hk
  obtain ⟨p7_,p0_,p1_,p2_,p3_,p4_,p5_,p6_,_,_⟩:=hp
  simp only [hD,p0_,p1_,p2_,p3_,p4_,p5_,p6_,p7_,cq,oT] at ht hs
  subst ht
  refine Qab (v:=int .i64 (i64w (u8w ((btS (⟨#[0,1,1,2,1,2,2,3,1,2,2,3,2,3,3,4,1,2,2,3,2,3,3,4,2,3,3,4,3,4,4,5,1,2,2,3,2,3,3,4,2,3,3,4,3,4,4,5,2,3,3,4,3,4,4,5,3,4,4,5,4,5,5,6,1,2,2,3,2,3,3,4,2,3,3,4,3,4,4,5,2,3,3,4,3,4,4,5,3,4,4,5,4,5,5,6,2,3,3,4,3,4,4,5,3,4,4,5,4,5,5,6,3,4,4,5,4,5,5,6,4,5,5,6,5,6,6,7,1,2,2,3,2,3,3,4,2,3,3,4,3,4,4,5,2,3,3,4,3,4,4,5,3,4,4,5,4,5,5,6,2,3,3,4,3,4,4,5,3,4,4,5,4,5,5,6,3,4,4,5,4,5,5,6,4,5,5,6,5,6,6,7,2,3,3,4,3,4,4,5,3,4,4,5,4,5,5,6,3,4,4,5,4,5,5,6,4,5,5,6,5,6,6,7,3,4,4,5,4,5,5,6,4,5,5,6,5,6,6,7,4,5,5,6,5,6,6,7,5,6,6,7,6,7,7,8]⟩:ByteArray) (shrI .u16 a1 8))+(btS (⟨#[0,1,1,2,1,2,2,3,1,2,2,3,2,3,3,4,1,2,2,3,2,3,3,4,2,3,3,4,3,4,4,5,1,2,2,3,2,3,3,4,2,3,3,4,3,4,4,5,2,3,3,4,3,4,4,5,3,4,4,5,4,5,5,6,1,2,2,3,2,3,3,4,2,3,3,4,3,4,4,5,2,3,3,4,3,4,4,5,3,4,4,5,4,5,5,6,2,3,3,4,3,4,4,5,3,4,4,5,4,5,5,6,3,4,4,5,4,5,5,6,4,5,5,6,5,6,6,7,1,2,2,3,2,3,3,4,2,3,3,4,3,4,4,5,2,3,3,4,3,4,4,5,3,4,4,5,4,5,5,6,2,3,3,4,3,4,4,5,3,4,4,5,4,5,5,6,3,4,4,5,4,5,5,6,4,5,5,6,5,6,6,7,2,3,3,4,3,4,4,5,3,4,4,5,4,5,5,6,3,4,4,5,4,5,5,6,4,5,5,6,5,6,6,7,3,4,4,5,4,5,5,6,4,5,5,6,5,6,6,7,4,5,5,6,5,6,6,7,5,6,6,7,6,7,7,8]⟩:ByteArray) (bAnd .u16 a1 255)))))) rfl rfl rfl ?_
  show G _ _ _ _ [_,_,_,_,_,_,_,_,_,_,_] _
  refine hk _ _ ⟨O,?_,hs.cast ?_⟩<;>simp only [oT,lq,cq,Nat.reduceBEq,p0_,p1_,p2_,p3_,p4_,p5_,p6_,p7_]
 intro D t w hall hI
 obtain ⟨O,ht,hs⟩:=hI
 have p0_:=hall 0 (by decide)
 have p1_:=hall 1 (by decide)
 have p2_:=hall 2 (by decide)
 have p3_:=hall 3 (by decide)
 have p4_:=hall 4 (by decide)
 have p5_:=hall 5 (by decide)
 have p6_:=hall 6 (by decide)
 have p7_:=hall 7 (by decide)
 have p8_:=hall 8 (by decide)
 simp only [p0_,p1_,p2_,p3_,p4_,p5_,p6_,p7_,p8_,cq,oT] at ht hs
 subst ht
 obtain rfl:=QsJ H
 refine QaB Tryz.func54 (v:=int .i64 (i64w (u8w ((btS (⟨#[0,1,1,2,1,2,2,3,1,2,2,3,2,3,3,4,1,2,2,3,2,3,3,4,2,3,3,4,3,4,4,5,1,2,2,3,2,3,3,4,2,3,3,4,3,4,4,5,2,3,3,4,3,4,4,5,3,4,4,5,4,5,5,6,1,2,2,3,2,3,3,4,2,3,3,4,3,4,4,5,2,3,3,4,3,4,4,5,3,4,4,5,4,5,5,6,2,3,3,4,3,4,4,5,3,4,4,5,4,5,5,6,3,4,4,5,4,5,5,6,4,5,5,6,5,6,6,7,1,2,2,3,2,3,3,4,2,3,3,4,3,4,4,5,2,3,3,4,3,4,4,5,3,4,4,5,4,5,5,6,2,3,3,4,3,4,4,5,3,4,4,5,4,5,5,6,3,4,4,5,4,5,5,6,4,5,5,6,5,6,6,7,2,3,3,4,3,4,4,5,3,4,4,5,4,5,5,6,3,4,4,5,4,5,5,6,4,5,5,6,5,6,6,7,3,4,4,5,4,5,5,6,4,5,5,6,5,6,6,7,4,5,5,6,5,6,6,7,5,6,6,7,6,7,7,8]⟩:ByteArray) (shrI .u16 a1 8))+(btS (⟨#[0,1,1,2,1,2,2,3,1,2,2,3,2,3,3,4,1,2,2,3,2,3,3,4,2,3,3,4,3,4,4,5,1,2,2,3,2,3,3,4,2,3,3,4,3,4,4,5,2,3,3,4,3,4,4,5,3,4,4,5,4,5,5,6,1,2,2,3,2,3,3,4,2,3,3,4,3,4,4,5,2,3,3,4,3,4,4,5,3,4,4,5,4,5,5,6,2,3,3,4,3,4,4,5,3,4,4,5,4,5,5,6,3,4,4,5,4,5,5,6,4,5,5,6,5,6,6,7,1,2,2,3,2,3,3,4,2,3,3,4,3,4,4,5,2,3,3,4,3,4,4,5,3,4,4,5,4,5,5,6,2,3,3,4,3,4,4,5,3,4,4,5,4,5,5,6,3,4,4,5,4,5,5,6,4,5,5,6,5,6,6,7,2,3,3,4,3,4,4,5,3,4,4,5,4,5,5,6,3,4,4,5,4,5,5,6,4,5,5,6,5,6,6,7,3,4,4,5,4,5,5,6,4,5,5,6,5,6,6,7,4,5,5,6,5,6,6,7,5,6,6,7,6,7,7,8]⟩:ByteArray) (bAnd .u16 a1 255)))))) (res1 rfl rfl) ?_
 have hs:St _ [] _:=St.take (Γ':=[]) hs
 exact ⟨_,rfl,rfl,hs⟩
def QbV.post (w0:World) (r:Bool) (v:Value) (w:World):Prop:=v=bool r∧St w0 [] w
theorem QbV.calls {N:Nat} {a1:Int} {a2:Qaf} {b3:Nat} {v4:Value} {w0:World} {r:Bool} (hr5:RdRow (K.int .u16) w0 v4 a2.Qal) (hp1000:w0.heap[b3]?=some (.cells ((([int .i8 a2.Qad,int .i8 a2.Qag,v4]:List Value)):List Value).toArray 27 (0,0))) (H:QbV.f N a1 a2=some r):
 Calls Tryz.prog 52 #[int .u16 a1,pointer (some ⟨b3,0,none⟩)] w0 fun e w=>∃ v,e= .returned v∧QbV.post w0 r v w:=by
 unfold QbV.f at H
 have hs:St w0 [] w0:=St.refl w0
 refine calls_of_g (n:=12) Tryz.func52 rfl rfl ?_
 show G _ _ _ _ [_,_,_,_,_,_,_,_,_,_,_,_,_,_] _
 refine Qaj (Qan [0] rfl ?_)
 refine Qab (v:=bool false) rfl rfl rfl (Qac (Qaj (Qan [0,1,2,3,4,5,6,7,8,9,10] rfl ?_)))
 refine Qab (v:=int .u16 a1) rfl rfl rfl ?_
 show G _ _ _ _ [_,_,_,_,_,_,_,_,_,_,_,_,_,_] _
 refine QaF rfl rfl (es:=(([int .i8 a2.Qad,int .i8 a2.Qag,v4]:List Value))) rfl rfl (fun _=>rfl) (n:=3) (fun _=>rfl) rfl (cells_all (hs.box hp1000)) ?_
 obtain ⟨r7,Hr7,H⟩:=bind_get H
 refine Qaz (args:=[agg (([int .i8 a2.Qad,int .i8 a2.Qag,v4]:List Value)).toArray]) rfl rfl (QaA rfl (callFunc_enter Tryz.func44 rfl rfl) rfl) (QaZ.calls (a1:=(⟨a2.Qad,a2.Qag,a2.Qal⟩:Qaf)) (hs.rd hr5) Hr7) ?_
 rintro _ w ⟨rfl,hs2⟩
 have hs:St _ [] _:=hs.call hs2
 obtain ⟨r8,Hr8,H⟩:=bind_get H
 refine Qaz (args:=[int .u16 a1,int .u16 r7]) rfl rfl (QaA rfl (callFunc_enter Tryz.func53 rfl rfl) rfl) (Qby.calls (a1:=a1) (a2:=r7) Hr8) ?_
 rintro _ w ⟨rfl,hs2⟩
 have hs:St _ [] _:=hs.call hs2
 cases r8 with
 |true=>
  rw [if_pos rfl] at H
  refine Qab (v:=bool false) rfl rfl rfl ?_
  show G _ _ _ _ [_,_,_,_,_,_,_,_,_,_,_,_,_,_] _
  refine Qab (v:=bool false) rfl rfl rfl ?_
  refine Qab (v:=int .u16 a1) rfl rfl rfl ?_
  obtain ⟨r9,Hr9,H⟩:=bind_get H
  refine Qaz (args:=[int .u16 a1]) rfl rfl (QaA rfl (callFunc_enter Tryz.func54 rfl rfl) rfl) (QbD.calls (a1:=a1) Hr9) ?_
  rintro _ w ⟨rfl,hs2⟩
  have hs:St _ [] _:=hs.call hs2
  show G _ _ _ _ [_,_,_,_,_,_,_,_,_,_,_,_,_,_] _
  refine Qab (v:=bool (decide (r9< 2))) rfl rfl rfl ?_
  refine Qab (v:=bool (decide (r9< 2))) rfl rfl rfl ?_
  refine Qab (v:=bool (decide (r9< 2))) rfl rfl rfl ?_
  show G _ _ _ _ [_,_,_,_,_,_,_,_,_,_,_,_,_,_] _
  refine Qac ?_
  obtain rfl:=QsJ H
  refine QaB Tryz.func52 (v:=bool (decide (r9< 2))) (res1 rfl rfl) ?_
  have hs:St _ [] _:=St.take (Γ':=[]) hs
  exact ⟨_,rfl,rfl,hs⟩
 |false=>
  rw [if_neg Bool.false_ne_true] at H
  show G _ _ _ _ [_,_,_,_,_,_,_,_,_,_,_,_,_,_] _
  refine Qab (v:=bool true) rfl rfl rfl ?_
  refine Qab (v:=bool true) rfl rfl rfl (Qae rfl rfl ?_)
  show G _ _ _ _ [_,_,_,_,_,_,_,_,_,_,_,_,_,_] _
  refine Qae rfl rfl (Qae rfl rfl ?_)
  refine Qab (v:=bool true) rfl rfl rfl ?_
  show G _ _ _ _ [_,_,_,_,_,_,_,_,_,_,_,_,_,_] _
  refine Qab (v:=bool true) rfl rfl rfl (Qac ?_)
  obtain rfl:=QsJ H
  refine QaB Tryz.func52 (v:=bool true) (res1 rfl rfl) ?_
  have hs:St _ [] _:=St.take (Γ':=[]) hs
  exact ⟨_,rfl,rfl,hs⟩
def Qay.post (w0:World) (r:Int) (v:Value) (w:World):Prop:=v=int .i64 r∧St w0 [] w
theorem Qay.calls {N:Nat} {a1:(List Int)} {a3:Qaf} {v2:Value} {b4:Nat} {v5:Value} {w0:World} {r:Int} (hr0:RdRow (K.int .u16) w0 v2 a1) (hr6:RdRow (K.int .u16) w0 v5 a3.Qal) (hp200:w0.heap[b4]?=some (.cells ((([int .i8 a3.Qad,int .i8 a3.Qag,v5]:List Value)):List Value).toArray 27 (0,0))) (H:Qay.f N a1 a3=some r):
 Calls Tryz.prog 79 #[v2,Value.func (Fn.func 52) #[] #[pointer (some ⟨b4,0,none⟩)]] w0 fun e w=>∃ v,e= .returned v∧Qay.post w0 r v w:=by
 unfold Qay.f at H
 have hs:St w0 [] w0:=St.refl w0
 refine calls_of_g (n:=17) Tryz.func79 rfl rfl ?_
 show G _ _ _ _ [_,_,_,_,_,_,_,_,_,_,_,_,_,_,_,_,_,_,_] _
 refine Qaj (Qan [0] rfl ?_)
 refine Qab (v:=int .i64 0) rfl rfl rfl (Qac (Qaj (Qaj (Qan [0,1,2] rfl ?_))))
 refine Qab (v:=v2) rfl rfl rfl ?_
 show G _ _ _ _ [_,_,_,_,_,_,_,_,_,_,_,_,_,_,_,_,_,_,_] _
 refine QbC (hs.rd hr0) rfl rfl rfl rfl rfl ?_
 refine Qab (v:=int .i64 0) rfl rfl rfl (Qac ?_)
 obtain ⟨o1_,Ho,Hr1_⟩:=bind_get H
 refine QaR (J:=fun t w=>Qay.a0 N=some r∧Fr t (fun O=>([O 0,O 1,O 2,O 3,O 4,O 5,O 6,O 7,O 8,O 9,O 10,O 11,O 12,O 13,O 14,O 15,O 16,O 17,O 18]:List Value))∧St w0 [] w) ?_ ?_
 ·
  rintro t w ⟨H,hf,hs⟩
  obtain ⟨O,rfl⟩:=hf.open
  show G _ _ _ _ [_,_,_,_,_,_,_,_,_,_,_,_,_,_,_,_,_,_,_] _
  unfold Qay.a0 at H
  refine Qaj (Qan [0] rfl ?_)
  refine Qab (v:=int .i64 (-1)) rfl rfl rfl ?_
  show G _ _ _ _ [_,_,_,_,_,_,_,_,_,_,_,_,_,_,_,_,_,_,_] _
  refine Qac ?_
  obtain rfl:=QsJ H
  refine QaB Tryz.func79 (v:=int .i64 (-1)) (res1 rfl rfl) ?_
  have hs:St _ [] _:=St.take (Γ':=[]) hs
  exact ⟨_,rfl,rfl,hs⟩
 intro ha1_
 have hs:St _ [] _:=St.take (Γ':=[]) hs
 refine Qba (I:=fun n_ t w=>∃ x8:Int,rounds (fun s=>Qay.b0 N a1 a3 s) n_ x8=some o1_∧Fr t (fun O=>([v2,Value.func (Fn.func 52) #[] #[pointer (some ⟨b4,0,none⟩)],O 2,O 3,O 4,O 5,O 6,int .i64 (a1.length:Int),int .i64 x8,O 9,O 10,O 11,O 12,O 13,O 14,O 15,O 16,O 17,O 18]:List Value))∧St w0 [] w) N ⟨0,Ho,rfl,hs⟩ ?_ ?_
 ·
  rintro _ _ ⟨x8,h,_⟩
  exact rounds_zero h
 intro n_ ih1_
 rintro t w ⟨x8,Ho,hf,hs⟩
 obtain ⟨O,rfl⟩:=hf.open
 show G _ _ _ _ [_,_,_,_,_,_,_,_,_,_,_,_,_,_,_,_,_,_,_] _
 obtain ⟨x2_,H,Hx1_⟩:=rounds_succ Ho
 have H:Qay.b0 N a1 a3 x8=some x2_:=H
 unfold Qay.b0 at H
 refine Qaj (Qan [0] rfl ?_)
 refine QaI (B:=decide (x8< (a1.length:Int))) rfl rfl rfl ?_ ?_
 ·
  intro hb
  rw [if_pos (b_dec_t hb)] at H
  refine Qac (Qaj (Qaq rfl (QaK (Qaj ?_))))
  refine QbG (Qaj (Qan [0,1] rfl ?_))
  refine Qab (v:=int .i64 x8) rfl rfl rfl ?_
  refine Qab (v:=int .i64 x8) rfl rfl rfl ?_
  show G _ _ _ _ [_,_,_,_,_,_,_,_,_,_,_,_,_,_,_,_,_,_,_] _
  refine Qac (Qaj (Qan [0,1,2,3,4,5] rfl ?_))
  refine Qab (v:=Value.func (Fn.func 52) #[] #[pointer (some ⟨b4,0,none⟩)]) rfl rfl rfl ?_
  refine Qab (v:=v2) rfl rfl rfl ?_
  refine Qab (v:=int .i64 x8) rfl rfl rfl ?_
  show G _ _ _ _ [_,_,_,_,_,_,_,_,_,_,_,_,_,_,_,_,_,_,_] _
  obtain ⟨g1,H⟩:=ite_get H
  refine QbQ (fkI .u16) 0 (hs.rd hr0) rfl (fun _=>rfl) g1.1 g1.2 rfl rfl rfl rfl rfl ?_
  intro p9 hp9 lp9 op9
  refine Qaw rfl rfl (v:=int .u16 (rdL a1 x8 0)) rfl rfl (fun _=>rfl) hp9 ?_
  obtain ⟨r10,Hr10,H⟩:=bind_get H
  refine Qaz (args:=[int .u16 (rdL a1 x8 0),pointer (some ⟨b4,0,none⟩)]) rfl rfl (QcZ rfl (callFunc_enter Tryz.func52 rfl rfl) rfl rfl) (QbV.calls (a1:=rdL a1 x8 0) (a2:=(⟨a3.Qad,a3.Qag,a3.Qal⟩:Qaf)) (hs.rd hr6) (hs.box hp200) Hr10) ?_
  rintro _ w ⟨rfl,hs2⟩
  have hs:St _ [] _:=hs.call hs2
  cases r10 with
  |true=>
   rw [if_pos rfl] at H
   show G _ _ _ _ [_,_,_,_,_,_,_,_,_,_,_,_,_,_,_,_,_,_,_] _
   refine Qac (Qaq rfl (Qaj (Qan [0,1] rfl ?_)))
   refine Qab (v:=int .i64 x8) rfl rfl rfl ?_
   refine Qab (v:=int .i64 x8) rfl rfl rfl (Qac ?_)
   obtain rfl:=QsJ H
   subst Hx1_
   have H:=QsJ Hr1_
   subst H
   refine QaB Tryz.func79 (v:=int .i64 x8) (res1 rfl rfl) ?_
   have hs:St _ [] _:=St.take (Γ':=[]) hs
   exact ⟨_,rfl,rfl,hs⟩
  |false=>
   rw [if_neg Bool.false_ne_true] at H
   show G _ _ _ _ [_,_,_,_,_,_,_,_,_,_,_,_,_,_,_,_,_,_,_] _
   refine Qac (Qas rfl (QaK ?_))
   refine Qa0 (Qan [0,1] rfl ?_)
   refine Qab (v:=int .i64 (i64w (x8+1))) rfl rfl rfl ?_
   refine Qab (v:=int .i64 (i64w (x8+1))) rfl rfl rfl (Qac ?_)
   obtain rfl:=QsJ H
   have hs:St _ [] _:=St.take (Γ':=[]) hs
   exact ih1_ _ _ ⟨i64w (x8+1),Hx1_,rfl,hs⟩
 intro hb
 rw [if_neg (b_dec_f hb)] at H
 show G _ _ _ _ [_,_,_,_,_,_,_,_,_,_,_,_,_,_,_,_,_,_,_] _
 refine Qac (Qaj (Qas rfl ?_))
 obtain rfl:=QsJ H
 subst Hx1_
 have hs:St _ [] _:=St.take (Γ':=[]) hs
 refine QbE rfl ?_
 exact ha1_ _ _ ⟨Hr1_,rfl,hs⟩
def QaW.post (w0:World) (r:Bool) (v:Value) (w:World):Prop:=v=bool r∧St w0 [] w
theorem QaW.calls {N:Nat} {a1:(List Int)} {a3:Qaf} {v2:Value} {b4:Nat} {v5:Value} {w0:World} {r:Bool} (hr0:RdRow (K.int .u16) w0 v2 a1) (hr6:RdRow (K.int .u16) w0 v5 a3.Qal) (hp200:w0.heap[b4]?=some (.cells ((([int .i8 a3.Qad,int .i8 a3.Qag,v5]:List Value)):List Value).toArray 27 (0,0))) (H:QaW.f N a1 a3=some r):
 Calls Tryz.prog 51 #[v2,Value.func (Fn.func 52) #[] #[pointer (some ⟨b4,0,none⟩)]] w0 fun e w=>∃ v,e= .returned v∧QaW.post w0 r v w:=by
 unfold QaW.f at H
 have hs:St w0 [] w0:=St.refl w0
 refine calls_of_g (n:=7) Tryz.func51 rfl rfl ?_
 show G _ _ _ _ [_,_,_,_,_,_,_,_,_] _
 refine Qaj (Qan [0] rfl ?_)
 refine Qab (v:=bool false) rfl rfl rfl ?_
 show G _ _ _ _ [_,_,_,_,_,_,_,_,_] _
 refine Qac (Qaj (Qan [0,1,2,3,4] rfl ?_))
 refine Qab (v:=v2) rfl rfl rfl ?_
 refine Qab (v:=Value.func (Fn.func 52) #[] #[pointer (some ⟨b4,0,none⟩)]) rfl rfl rfl ?_
 obtain ⟨r8,Hr8,H⟩:=bind_get H
 refine Qaz (args:=[v2,Value.func (Fn.func 52) #[] #[pointer (some ⟨b4,0,none⟩)]]) rfl rfl (QaA rfl (callFunc_enter Tryz.func79 rfl rfl) rfl) (Qay.calls (a1:=a1) (a3:=(⟨a3.Qad,a3.Qag,a3.Qal⟩:Qaf)) (hs.rd hr0) (hs.rd hr6) (hs.box hp200) Hr8) ?_
 rintro _ w ⟨rfl,hs2⟩
 have hs:St _ [] _:=hs.call hs2
 show G _ _ _ _ [_,_,_,_,_,_,_,_,_] _
 refine Qab (v:=bool (decide (r8≥0))) rfl rfl rfl ?_
 refine Qab (v:=bool (decide (r8≥0))) rfl rfl rfl (Qac ?_)
 obtain rfl:=QsJ H
 refine QaB Tryz.func51 (v:=bool (decide (r8≥0))) (res1 rfl rfl) ?_
 have hs:St _ [] _:=St.take (Γ':=[]) hs
 exact ⟨_,rfl,rfl,hs⟩
def QaX.post (w0:World) (r:Bool) (v:Value) (w:World):Prop:=v=bool r∧St w0 [] w
theorem QaX.calls {N:Nat} {a1:Qaf} {v2:Value} {w0:World} {r:Bool} (hr3:RdRow (K.int .u16) w0 v2 a1.Qal) (H:QaX.f N a1=some r):
 Calls Tryz.prog 17 #[agg (([int .i8 a1.Qad,int .i8 a1.Qag,v2]:List Value)).toArray] w0 fun e w=>∃ v,e= .returned v∧QaX.post w0 r v w:=by
 unfold QaX.f at H
 have hs:St w0 [] w0:=St.refl w0
 refine calls_of_g (n:=28) Tryz.func17 rfl rfl ?_
 show G _ _ _ _ [_,_,_,_,_,_,_,_,_,_,_,_,_,_,_,_,_,_,_,_,_,_,_,_,_,_,_,_,_] _
 refine Qaj (Qan [0,1] rfl ?_)
 refine Qbw hs rfl rfl (cs:=(([int .i8 a1.Qad,int .i8 a1.Qag,v2]:List Value))) rfl rfl ?_
 intro b4 w hs
 show G _ _ _ _ [_,_,_,_,_,_,_,_,_,_,_,_,_,_,_,_,_,_,_,_,_,_,_,_,_,_,_,_,_] _
 refine Qab (v:=bool false) rfl rfl rfl (Qac (Qaj (Qaj (Qan [0,1,2,3,4,5,6,7,8,9,10,11,12,13,14,15,16,17,18,19,20] rfl ?_))))
 refine Qab (v:=pointer (some ⟨b4,0,none⟩)) rfl rfl rfl ?_
 refine Qaw rfl rfl (v:=int .i8 a1.Qad) rfl rfl (fun _=>rfl) (cells_load (hs.cells 0 rfl) 0 1 rfl) ?_
 refine Qab (v:=int .i64 (i64w a1.Qad)) rfl rfl rfl ?_
 obtain ⟨r6,Hr6,H⟩:=bind_get H
 refine Qaz (args:=[int .i64 (i64w a1.Qad),int .i64 1,int .i64 8]) rfl rfl (QaA rfl (callFunc_enter Tryz.func50 rfl rfl) rfl) (QbU.calls (a1:=i64w a1.Qad) (a2:=1) (a3:=8) Hr6) ?_
 rintro _ w ⟨rfl,hs2⟩
 have hs:St _ [_] _:=hs.call hs2
 cases r6 with
 |true=>
  rw [if_pos rfl] at H
  refine Qab (v:=bool false) rfl rfl rfl ?_
  refine Qab (v:=bool false) rfl rfl rfl ?_
  refine Qab (v:=pointer (some ⟨b4,1,none⟩)) rfl rfl rfl ?_
  refine Qaw rfl rfl (v:=int .i8 a1.Qag) rfl rfl (fun _=>rfl) (cells_load (hs.cells 0 rfl) 1 1 rfl) ?_
  show G _ _ _ _ [_,_,_,_,_,_,_,_,_,_,_,_,_,_,_,_,_,_,_,_,_,_,_,_,_,_,_,_,_] _
  refine Qab (v:=int .i64 (i64w a1.Qag)) rfl rfl rfl ?_
  refine Qab (v:=pointer (some ⟨b4,0,none⟩)) rfl rfl rfl ?_
  refine Qaw rfl rfl (v:=int .i8 a1.Qad) rfl rfl (fun _=>rfl) (cells_load (hs.cells 0 rfl) 0 1 rfl) ?_
  refine Qab (v:=int .i64 (i64w a1.Qad)) rfl rfl rfl ?_
  obtain ⟨r7,Hr7,H⟩:=bind_get H
  refine Qaz (args:=[int .i64 (i64w a1.Qag),int .i64 0,int .i64 (i64w a1.Qad)]) rfl rfl (QaA rfl (callFunc_enter Tryz.func50 rfl rfl) rfl) (QbU.calls (a1:=i64w a1.Qag) (a2:=0) (a3:=i64w a1.Qad) Hr7) ?_
  rintro _ w ⟨rfl,hs2⟩
  have hs:St _ [_] _:=hs.call hs2
  refine Qab (v:=bool (!r7)) rfl rfl rfl ?_
  show G _ _ _ _ [_,_,_,_,_,_,_,_,_,_,_,_,_,_,_,_,_,_,_,_,_,_,_,_,_,_,_,_,_] _
  refine QaI (B:=!r7) rfl rfl rfl ?_ ?_
  ·
   intro hb
   rw [if_neg (b_not_t hb)] at H
   refine Qab (v:=bool true) rfl rfl rfl (Qae rfl rfl (Qae rfl rfl (Qae rfl rfl ?_)))
   show G _ _ _ _ [_,_,_,_,_,_,_,_,_,_,_,_,_,_,_,_,_,_,_,_,_,_,_,_,_,_,_,_,_] _
   refine Qae rfl rfl ?_
   refine Qab (v:=bool true) rfl rfl rfl (Qac (Qaq rfl (Qaj (Qan [0] rfl ?_))))
   refine Qab (v:=bool false) rfl rfl rfl ?_
   show G _ _ _ _ [_,_,_,_,_,_,_,_,_,_,_,_,_,_,_,_,_,_,_,_,_,_,_,_,_,_,_,_,_] _
   refine Qac ?_
   obtain rfl:=QsJ H
   refine QaB Tryz.func17 (v:=bool false) (res1 rfl rfl) ?_
   have hs:St _ [] _:=St.take (Γ':=[_]) hs
   exact ⟨_,rfl,rfl,hs⟩
  intro hb
  rw [if_pos (b_not_f hb)] at H
  refine Qab (v:=bool false) rfl rfl rfl ?_
  refine Qab (v:=pointer (some ⟨b4,2,none⟩)) rfl rfl rfl ?_
  refine Qaw rfl rfl (v:=v2) rfl rfl (fun _=>rfl) (cells_load (hs.cells 0 rfl) 2 1 rfl) ?_
  refine QbC (hs.rd hr3) rfl rfl rfl rfl rfl ?_
  show G _ _ _ _ [_,_,_,_,_,_,_,_,_,_,_,_,_,_,_,_,_,_,_,_,_,_,_,_,_,_,_,_,_] _
  refine QaI (B:=decide ((a1.Qal.length:Int)>20)) rfl rfl rfl ?_ ?_
  ·
   intro hb
   rw [if_pos (b_dec_t hb)] at H
   refine Qab (v:=bool true) rfl rfl rfl (Qac (Qaq rfl (Qaj (Qan [0] rfl ?_))))
   refine Qab (v:=bool false) rfl rfl rfl ?_
   show G _ _ _ _ [_,_,_,_,_,_,_,_,_,_,_,_,_,_,_,_,_,_,_,_,_,_,_,_,_,_,_,_,_] _
   refine Qac ?_
   obtain rfl:=QsJ H
   refine QaB Tryz.func17 (v:=bool false) (res1 rfl rfl) ?_
   have hs:St _ [] _:=St.take (Γ':=[_]) hs
   exact ⟨_,rfl,rfl,hs⟩
  intro hb
  rw [if_neg (b_dec_f hb)] at H
  refine Qab (v:=bool false) rfl rfl rfl (Qac (Qas rfl (QaK (Qaj (Qan [0,1,2,3,4,5] rfl ?_)))))
  refine Qab (v:=pointer (some ⟨b4,2,none⟩)) rfl rfl rfl ?_
  refine Qaw rfl rfl (v:=v2) rfl rfl (fun _=>rfl) (cells_load (hs.cells 0 rfl) 2 1 rfl) ?_
  show G _ _ _ _ [_,_,_,_,_,_,_,_,_,_,_,_,_,_,_,_,_,_,_,_,_,_,_,_,_,_,_,_,_] _
  refine Qab (v:=Value.func (Fn.func 52) #[] #[pointer (some ⟨b4,0,none⟩)]) rfl rfl (QcW rfl rfl) ?_
  obtain ⟨r8,Hr8,H⟩:=bind_get H
  refine Qaz (args:=[v2,Value.func (Fn.func 52) #[] #[pointer (some ⟨b4,0,none⟩)]]) rfl rfl (QaA rfl (callFunc_enter Tryz.func51 rfl rfl) rfl) (QaW.calls (a1:=a1.Qal) (a3:=(⟨a1.Qad,a1.Qag,a1.Qal⟩:Qaf)) (hs.rd hr3) (hs.rd hr3) (hs.cells 0 rfl) Hr8) ?_
  rintro _ w ⟨rfl,hs2⟩
  have hs:St _ [_] _:=hs.call hs2
  refine Qab (v:=bool (!r8)) rfl rfl rfl ?_
  show G _ _ _ _ [_,_,_,_,_,_,_,_,_,_,_,_,_,_,_,_,_,_,_,_,_,_,_,_,_,_,_,_,_] _
  refine Qab (v:=bool (!r8)) rfl rfl rfl (Qac ?_)
  obtain rfl:=QsJ H
  refine QaB Tryz.func17 (v:=bool (!r8)) (res1 rfl rfl) ?_
  have hs:St _ [] _:=St.take (Γ':=[_]) hs
  exact ⟨_,rfl,rfl,hs⟩
 |false=>
  rw [if_neg Bool.false_ne_true] at H
  show G _ _ _ _ [_,_,_,_,_,_,_,_,_,_,_,_,_,_,_,_,_,_,_,_,_,_,_,_,_,_,_,_,_] _
  refine Qab (v:=bool true) rfl rfl rfl ?_
  refine Qab (v:=bool true) rfl rfl rfl (Qae rfl rfl (Qae rfl rfl (Qae rfl rfl (Qae rfl rfl (Qae rfl rfl ?_)))))
  show G _ _ _ _ [_,_,_,_,_,_,_,_,_,_,_,_,_,_,_,_,_,_,_,_,_,_,_,_,_,_,_,_,_] _
  refine Qae rfl rfl (Qae rfl rfl (Qae rfl rfl ?_))
  refine Qab (v:=bool true) rfl rfl rfl ?_
  show G _ _ _ _ [_,_,_,_,_,_,_,_,_,_,_,_,_,_,_,_,_,_,_,_,_,_,_,_,_,_,_,_,_] _
  refine Qab (v:=bool true) rfl rfl rfl (Qae rfl rfl (Qae rfl rfl (Qae rfl rfl (Qae rfl rfl ?_))))
  show G _ _ _ _ [_,_,_,_,_,_,_,_,_,_,_,_,_,_,_,_,_,_,_,_,_,_,_,_,_,_,_,_,_] _
  refine Qab (v:=bool true) rfl rfl rfl (Qac (Qaq rfl (Qaj (Qan [0] rfl ?_))))
  refine Qab (v:=bool false) rfl rfl rfl (Qac ?_)
  obtain rfl:=QsJ H
  refine QaB Tryz.func17 (v:=bool false) (res1 rfl rfl) ?_
  have hs:St _ [] _:=St.take (Γ':=[_]) hs
  exact ⟨_,rfl,rfl,hs⟩
def strconv_FormatInt.post (w0:World) (r:ByteArray) (v:Value) (w:World):Prop:=v=string r∧St w0 [] w
theorem strconv_FormatInt.calls {N : Nat} {a1 a2 : Int} {w0 : World} {r : ByteArray} (htab : Lib.TabIs Tryz.prog w0 "internal/strconv.uint64pow10" .u64 Lib.pow10Tab) (H : strconv_FormatInt.f N a1 a2 = some r) :
 Calls Tryz.prog 67 #[.int .i64 a1, .int .i64 a2] w0 fun e w=>∃ v,e= .returned v∧strconv_FormatInt.post w0 r v w:=by
 obtain ⟨⟨hg,e10⟩,H2⟩:=ite_get H
 subst e10
 obtain rfl:=QsJ H2
 exact (Tryz.strconv_FormatInt_10 a1 hg.1 hg.2 w0 htab).mono fun e w ⟨he,k,os,hw⟩=>⟨_,he,rfl,St.of_grow hw⟩
def QbL.post (w0:World) (r:ByteArray) (v:Value) (w:World):Prop:=v=string r∧St w0 [] w
theorem QbL.calls {N : Nat} {a1 : Int} {w0 : World} {r : ByteArray} (htab : Lib.TabIs Tryz.prog w0 "internal/strconv.uint64pow10" .u64 Lib.pow10Tab) (H : QbL.f N a1 = some r) :
 Calls Tryz.prog 32 #[int .i64 a1] w0 fun e w=>∃ v,e= .returned v∧QbL.post w0 r v w:=by
 unfold QbL.f at H
 have hs:St w0 [] w0:=St.refl w0
 refine calls_of_g (n:=4) Tryz.func32 rfl rfl ?_
 show G _ _ _ _ [_,_,_,_,_] _
 refine Qaj (Qan [0] rfl ?_)
 refine Qab (v:=string (⟨#[]⟩:ByteArray)) rfl rfl rfl (Qac (Qaj (Qan [0,1,2] rfl ?_)))
 refine Qab (v:=int .i64 a1) rfl rfl rfl ?_
 obtain ⟨r2,Hr2,H⟩:=bind_get H
 refine Qaz (args:=[int .i64 a1,int .i64 10]) rfl rfl (QaA rfl (callFunc_enter Tryz.func67 rfl rfl) rfl) (strconv_FormatInt.calls (a1:=a1) (a2:=10) (hs.tab htab) Hr2) ?_
 rintro _ w ⟨rfl,hs2⟩
 have hs:St _ [] _:=hs.call hs2
 show G _ _ _ _ [_,_,_,_,_] _
 refine Qab (v:=string r2) rfl rfl rfl (Qac ?_)
 obtain rfl:=QsJ H
 refine QaB Tryz.func32 (v:=string r2) (res1 rfl rfl) ?_
 have hs:St _ [] _:=St.take (Γ':=[]) hs
 exact ⟨_,rfl,rfl,hs⟩
end Go.Proofs.YtblbfnngmeoipaaGreatDoorX
