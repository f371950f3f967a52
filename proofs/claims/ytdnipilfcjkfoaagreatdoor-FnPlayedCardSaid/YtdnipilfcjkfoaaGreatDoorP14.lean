import Derived.Test.YtdnipilfcjkfoaaGreatDoorP13
namespace Go.Proofs.YtdnipilfcjkfoaaGreatDoorX
open Go Go.RowKit Go.Proofs
open Go.Value (int pointer bool agg slice string tuple)
set_option maxHeartbeats 8000000
set_option maxRecDepth 100000
set_option linter.unusedVariables false
set_option linter.unusedSimpArgs false
def Qa4.post (wb:World) (Z:As) (b2:Nat) (v3:Value) (r:(Qag×Qaz)) (v:Value) (w:World):Prop:=∃ u1:Value,v=agg (([int .i8 r.1.Qac,int .i8 r.1.Qae,u1]:List Value)).toArray∧St wb [Row 61 Qao u1 r.1.Qah,Cells b2 (([v3,int .i64 r.2.Qa3,int .u64 r.2.QaT]:List Value)) 112,Z] w
theorem Qa4.calls {N:Nat} {a1:Qaz} {b2:Nat} {v3:Value} {wb:World} {Z:As} {w0:World} {r:(Qag×Qaz)} (hs:St wb [Cells b2 (([v3,int .i64 a1.Qa3,int .u64 a1.QaT]:List Value)) 112,Z] w0) (hr4:RdRow (K.int .u8) wb v3 a1.Qa0) (H:Qa4.f N a1=some r):
 Calls Tryz.prog 55 #[pointer (some ⟨b2,0,none⟩)] w0 fun e w=>∃ v,e= .returned v∧Qa4.post wb Z b2 v3 r v w:=by
 unfold Qa4.f at H
 refine calls_of_g (n:=46) Tryz.func55 rfl rfl ?_
 show G _ _ _ _ [_,_,_,_,_,_,_,_,_,_,_,_,_,_,_,_,_,_,_,_,_,_,_,_,_,_,_,_,_,_,_,_,_,_,_,_,_,_,_,_,_,_,_,_,_,_,_] _
 refine Qaf (Qak [0] rfl ?_)
 refine Qa5 hs rfl rfl (z:=(agg #[int .i8 0,int .i8 0,slice none 0 0])) (cs:=(([int .i8 0,int .i8 0,slice none 0 0]:List Value))) rfl (fun _=>rfl) rfl ?_
 intro b6 w hs
 refine Qab (Qaf (Qak [0,1,2,3,4,5,6,7,8,9] rfl ?_))
 refine Qaa (v:=pointer (some ⟨b2,0,none⟩)) rfl rfl rfl ?_
 obtain ⟨r8,Hr8,H⟩:=bind_get H
 have hs:St _ [_,_,_] _:=hs.pull 1 rfl
 have hs:=hs.pack 1
 refine Qas (args:=[pointer (some ⟨b2,0,none⟩),int .i64 20]) rfl rfl (Qat rfl (callFunc_enter Tryz.func33 rfl rfl) rfl) (QaJ.calls (a1:=(⟨a1.Qa0,a1.Qa3,a1.QaT⟩:Qaz)) (a6:=20) hs hr4 Hr8) ?_
 rintro _ w ⟨rfl,hs⟩
 have hs:=St.unpack (Γ:=[_]) hs
 have hs:St _ [_,_,_] _:=hs
 show G _ _ _ _ [_,_,_,_,_,_,_,_,_,_,_,_,_,_,_,_,_,_,_,_,_,_,_,_,_,_,_,_,_,_,_,_,_,_,_,_,_,_,_,_,_,_,_,_,_,_,_] _
 refine Qaa (v:=int .i64 (i64w (1+r8.1))) rfl rfl rfl ?_
 refine Qaa (v:=int .i8 (i8w (i64w (1+r8.1)))) rfl rfl rfl ?_
 refine Qaa (v:=pointer (some ⟨b2,0,none⟩)) rfl rfl rfl ?_
 obtain ⟨r9,Hr9,H⟩:=bind_get H
 have hs:St _ [_,_,_] _:=hs.pull 0 rfl
 have hs:=hs.pack 1
 refine Qas (args:=[pointer (some ⟨b2,0,none⟩),int .i64 4]) rfl rfl (Qat rfl (callFunc_enter Tryz.func33 rfl rfl) rfl) (QaJ.calls (a1:=(⟨a1.Qa0,r8.2.Qa3,r8.2.QaT⟩:Qaz)) (a6:=4) hs hr4 Hr9) ?_
 rintro _ w ⟨rfl,hs⟩
 have hs:=St.unpack (Γ:=[_]) hs
 have hs:St _ [_,_,_] _:=hs
 refine Qaa (v:=int .i8 (i8w r9.1)) rfl rfl rfl ?_
 show G _ _ _ _ [_,_,_,_,_,_,_,_,_,_,_,_,_,_,_,_,_,_,_,_,_,_,_,_,_,_,_,_,_,_,_,_,_,_,_,_,_,_,_,_,_,_,_,_,_,_,_] _
 refine Qaa (v:=agg (([int .i8 (i8w (i64w (1+r8.1))),int .i8 (i8w r9.1),slice none 0 0]:List Value)).toArray) rfl rfl (QbB (cs:=(([int .i8 (i8w (i64w (1+r8.1))),int .i8 (i8w r9.1),slice none 0 0]:List Value))) (segs:=[[int .i8 0],[int .i8 0],[slice none 0 0]]) rfl rfl (fun _=>rfl) ⟨rfl,(fun _=>rfl),rfl,(fun _=>rfl),rfl,(fun _=>rfl),trivial⟩ (by simp only [List.map_cons,List.map_nil,List.forall_mem_cons,List.not_mem_nil,false_implies,implies_true,and_true];exact ⟨⟨_,rfl,rfl⟩,⟨_,rfl,rfl⟩⟩) (by first|rfl|(simp [ev,encA];done)|(simp [ev,encA];rfl))) ?_
 refine Qa5 hs rfl rfl (z:=(agg #[int .i8 0,int .i8 0,slice none 0 0])) (cs:=(([int .i8 0,int .i8 0,slice none 0 0]:List Value))) rfl (fun _=>rfl) rfl ?_
 intro b10 w hs
 refine QaB (n:=3) hs rfl rfl rfl (vs:=(([int .i8 (i8w (i64w (1+r8.1))),int .i8 (i8w r9.1),slice none 0 0]:List Value))) rfl rfl rfl (fun _=>rfl) rfl (by simp [Value.oneCell']) ?_
 intro w hs
 refine Qab (Qaf (Qak [0,1,2,3,4,5] rfl ?_))
 refine Qaa (v:=pointer (some ⟨b2,0,none⟩)) rfl rfl rfl ?_
 refine Qaa (v:=pointer (some ⟨b10,0,none⟩)) rfl rfl rfl ?_
 refine Qaw rfl rfl (v:=int .i8 (i8w (i64w (1+r8.1)))) rfl rfl (fun _=>rfl) (cells_load (hs.cells 0 rfl) 0 1 rfl) ?_
 show G _ _ _ _ [_,_,_,_,_,_,_,_,_,_,_,_,_,_,_,_,_,_,_,_,_,_,_,_,_,_,_,_,_,_,_,_,_,_,_,_,_,_,_,_,_,_,_,_,_,_,_] _
 refine Qaa (v:=int .i64 (i64w (i8w (i64w (1+r8.1))))) rfl rfl rfl ?_
 obtain ⟨r12,Hr12,H⟩:=bind_get H
 have hs:St _ [_,_,_,_] _:=hs.pull 1 rfl
 have hs:=hs.pack 1
 refine Qas (args:=[pointer (some ⟨b2,0,none⟩),int .i64 (i64w (i8w (i64w (1+r8.1))))]) rfl rfl (Qat rfl (callFunc_enter Tryz.func33 rfl rfl) rfl) (QaJ.calls (a1:=(⟨a1.Qa0,r9.2.Qa3,r9.2.QaT⟩:Qaz)) (a6:=i64w (i8w (i64w (1+r8.1)))) hs hr4 Hr12) ?_
 rintro _ w ⟨rfl,hs⟩
 have hs:=St.unpack (Γ:=[_]) hs
 have hs:St _ [_,_,_,_] _:=hs
 refine Qaa (v:=int .i64 r12.1) rfl rfl rfl (Qab (Qaf (Qaf (Qak [0,1,2] rfl ?_))))
 refine Qaa (v:=pointer (some ⟨b2,0,none⟩)) rfl rfl rfl ?_
 obtain ⟨r13,Hr13,H⟩:=bind_get H
 have hs:St _ [_,_,_,_] _:=hs.pull 0 rfl
 have hs:=hs.pack 1
 refine Qas (args:=[pointer (some ⟨b2,0,none⟩),int .i64 8]) rfl rfl (Qat rfl (callFunc_enter Tryz.func33 rfl rfl) rfl) (QaJ.calls (a1:=(⟨a1.Qa0,r12.2.Qa3,r12.2.QaT⟩:Qaz)) (a6:=8) hs hr4 Hr13) ?_
 rintro _ w ⟨rfl,hs⟩
 have hs:=St.unpack (Γ:=[_]) hs
 have hs:St _ [_,_,_,_] _:=hs
 show G _ _ _ _ [_,_,_,_,_,_,_,_,_,_,_,_,_,_,_,_,_,_,_,_,_,_,_,_,_,_,_,_,_,_,_,_,_,_,_,_,_,_,_,_,_,_,_,_,_,_,_] _
 refine Qaa (v:=int .i64 r13.1) rfl rfl rfl (Qab ?_)
 obtain ⟨o1_,Ho,Hr1_⟩:=bind_get H
 refine QaF (J:=fun t w=>∃ x52:Int,∃ x53:Int,∃ v54:Value,∃ x55:(List Qav),∃ x57:Int,∃ x58:Int,Qa4.a0 N a1 x52 x53 x55 x57 x58=some r∧Fr t (fun O=>([O 0,O 1,pointer (some ⟨b6,0,none⟩),pointer (some ⟨b10,0,none⟩),O 4,O 5,O 6,O 7,O 8,O 9,O 10,O 11,O 12,O 13,O 14,O 15,O 16,O 17,O 18,O 19,O 20,O 21,O 22,O 23,O 24,O 25,O 26,O 27,O 28,O 29,O 30,O 31,O 32,O 33,O 34,O 35,O 36,O 37,O 38,O 39,O 40,O 41,O 42,O 43,O 44,O 45,O 46]:List Value))∧St wb [Cells b6 (([int .i8 0,int .i8 0,slice none 0 0]:List Value)) 30,Cells b10 (([int .i8 x52,int .i8 x53,v54]:List Value)) 30,Row 61 Qao v54 x55,Cells b2 (([v3,int .i64 x57,int .u64 x58]:List Value)) 112,Z] w) ?_ ?_
 ·
  rintro t w ⟨x52,x53,v54,x55,x57,x58,H,hf,hs⟩
  obtain ⟨O,rfl⟩:=hf.open
  show G _ _ _ _ [_,_,_,_,_,_,_,_,_,_,_,_,_,_,_,_,_,_,_,_,_,_,_,_,_,_,_,_,_,_,_,_,_,_,_,_,_,_,_,_,_,_,_,_,_,_,_] _
  unfold Qa4.a0 at H
  refine Qaf (Qak [0,1] rfl ?_)
  refine QaG rfl rfl (es:=(([int .i8 x52,int .i8 x53,v54]:List Value))) rfl rfl (fun _=>rfl) (n:=3) (fun _=>rfl) rfl (cells_all (hs.cells 1 rfl)) ?_
  refine QaB (n:=3) hs rfl rfl rfl (vs:=(([int .i8 x52,int .i8 x53,v54]:List Value))) rfl rfl rfl (fun _=>rfl) rfl (by intro v hv;simp only [List.mem_append,List.mem_cons,List.not_mem_nil,or_false] at hv;repeat (first|(subst hv;first|rfl|exact slOne (hs.row 2 rfl))|(rcases hv with hv|hv))) ?_
  intro w hs
  refine Qab ?_
  obtain rfl:=QsJ H
  refine Qax Tryz.func55 (v:=agg (([int .i8 x52,int .i8 x53,v54]:List Value)).toArray) (resC rfl ⟨⟨_,rfl,(run_loadVar_agg (es:=(([int .i8 x52,int .i8 x53,v54]:List Value))) rfl rfl (cells_all (hs.cells 0 rfl)))⟩,trivial⟩) ?_
  have hs:=hs.pull 4 rfl
  have hs:=hs.pull 4 rfl
  have hs:=hs.pull 4 rfl
  have hs:St _ [_,_,_] _:=St.take (Γ':=[_,_]) hs
  exact ⟨_,rfl,v54,rfl,hs⟩
 intro ha1_
 have hs:=hs.nil 61 Qao
 have hs:=hs.pull 4 rfl
 have hs:=hs.pull 3 rfl
 have hs:=hs.pull 2 rfl
 have hs:=hs.pull 4 rfl
 have hs:=hs.pull 4 rfl
 have hs:St _ [_,_,_,_,_] _:=St.take (Γ':=[]) hs
 refine QaZ (I:=fun n_ t w=>∃ x29:Int,∃ x30:Int,∃ x31:Int,∃ x32:Int,∃ v34:Value,∃ x35:(List Qav),∃ x36:Int,rounds (fun s=>Qa4.b0 N a1 r12 s.1 s.2.1 s.2.2.1 s.2.2.2.1 s.2.2.2.2.1 s.2.2.2.2.2) n_ (x29,x30,x31,x32,x35,x36)=some o1_∧Fr t (fun O=>([pointer (some ⟨b2,0,none⟩),O 1,pointer (some ⟨b6,0,none⟩),pointer (some ⟨b10,0,none⟩),int .i64 r12.1,int .i64 x36,O 6,O 7,O 8,O 9,O 10,O 11,O 12,O 13,O 14,O 15,O 16,O 17,O 18,O 19,O 20,O 21,O 22,O 23,O 24,O 25,O 26,O 27,O 28,O 29,O 30,O 31,O 32,O 33,O 34,O 35,O 36,O 37,O 38,O 39,O 40,O 41,O 42,O 43,O 44,O 45,O 46]:List Value))∧St wb [Cells b2 (([v3,int .i64 x29,int .u64 x30]:List Value)) 112,Cells b6 (([int .i8 0,int .i8 0,slice none 0 0]:List Value)) 30,Row 61 Qao v34 x35,Cells b10 (([int .i8 x31,int .i8 x32,v34]:List Value)) 30,Z] w) N ⟨r13.2.Qa3,r13.2.QaT,i8w (i64w (1+r8.1)),i8w r9.1,slice none 0 0,[],r13.1,Ho,rfl,hs⟩ ?_ ?_
 ·
  rintro _ _ ⟨x29,x30,x31,x32,v34,x35,x36,h,_⟩
  exact rounds_zero h
 intro n_ ih1_
 rintro t w ⟨x29,x30,x31,x32,v34,x35,x36,Ho,hf,hs⟩
 obtain ⟨O,rfl⟩:=hf.open
 show G _ _ _ _ [_,_,_,_,_,_,_,_,_,_,_,_,_,_,_,_,_,_,_,_,_,_,_,_,_,_,_,_,_,_,_,_,_,_,_,_,_,_,_,_,_,_,_,_,_,_,_] _
 obtain ⟨x3_,H,Hx1_⟩:=rounds_succ Ho
 have H:Qa4.b0 N a1 r12 x29 x30 x31 x32 x35 x36=some x3_:=H
 unfold Qa4.b0 at H
 refine Qaf (Qaf (Qak [0,1] rfl ?_))
 refine Qaa (v:=int .i64 x36) rfl rfl rfl ?_
 refine QaA (B:=decide (x36>0)) rfl rfl rfl ?_ ?_
 ·
  intro hb
  rw [if_pos (b_dec_t hb)] at H
  show G _ _ _ _ [_,_,_,_,_,_,_,_,_,_,_,_,_,_,_,_,_,_,_,_,_,_,_,_,_,_,_,_,_,_,_,_,_,_,_,_,_,_,_,_,_,_,_,_,_,_,_] _
  refine Qab (Qam rfl (QaE (Qaf ?_)))
  refine Qbz (Qaf (Qak [0,1,2,3] rfl ?_))
  obtain ⟨r37,Hr37,H⟩:=bind_get H
  refine Qas (args:=[pointer (some ⟨b10,0,none⟩)]) rfl rfl (Qat rfl (callFunc_enter Tryz.func59 rfl rfl) rfl) (QaU.calls (a1:=(⟨x31,x32,x35⟩:Qag)) (hs.row 2 rfl) (hs.cells 3 rfl) Hr37) ?_
  rintro _ w ⟨rfl,hs2⟩
  have hs:St _ [_,_,_,_,_] _:=hs.call hs2
  obtain ⟨r38,Hr38,H⟩:=bind_get H
  refine Qas (args:=[agg ((encA (encI .i64)) r37).toArray]) rfl rfl (Qat rfl (callFunc_enter Tryz.func63 rfl rfl) rfl) (QaQ.calls (a1:=r37) Hr38) ?_
  rintro _ w ⟨rfl,hs2⟩
  have hs:St _ [_,_,_,_,_] _:=hs.call hs2
  obtain ⟨r39,Hr39,H⟩:=bind_get H
  refine Qas (args:=[pointer (some ⟨b10,0,none⟩),agg ((encA (encI .i64)) r38).toArray]) rfl rfl (Qat rfl (callFunc_enter Tryz.func77 rfl rfl) rfl) (Qa6.calls (a1:=(⟨x31,x32,x35⟩:Qag)) (a6:=r38) (hs.row 2 rfl) (hs.cells 3 rfl) Hr39) ?_
  rintro _ w ⟨rfl,hs2⟩
  have hs:St _ [_,_,_,_,_] _:=hs.call hs2
  show G _ _ _ _ [_,_,_,_,_,_,_,_,_,_,_,_,_,_,_,_,_,_,_,_,_,_,_,_,_,_,_,_,_,_,_,_,_,_,_,_,_,_,_,_,_,_,_,_,_,_,_] _
  refine Qaa (v:=int .u64 r39) rfl rfl rfl (Qab (Qaf (Qaf ?_)))
  refine Qcq (J:=(fun t w=>∃ x43:Int,∃ x44:Int,∃ x46:Int,Qa4.j2 N a1 r12 x31 x32 x35 x36 x43 x44 x46=some x3_∧Fr t (fun O=>([pointer (some ⟨b2,0,none⟩),O 1,pointer (some ⟨b6,0,none⟩),pointer (some ⟨b10,0,none⟩),int .i64 r12.1,int .i64 x36,int .u64 x46,O 7,O 8,O 9,O 10,O 11,O 12,O 13,O 14,O 15,O 16,O 17,O 18,O 19,O 20,O 21,O 22,O 23,O 24,O 25,O 26,O 27,O 28,O 29,O 30,O 31,O 32,O 33,O 34,O 35,O 36,O 37,O 38,O 39,O 40,O 41,O 42,O 43,O 44,O 45,O 46]:List Value))∧St wb [Cells b2 (([v3,int .i64 x43,int .u64 x44]:List Value)) 112,Cells b6 (([int .i8 0,int .i8 0,slice none 0 0]:List Value)) 30,Cells b10 (([int .i8 x31,int .i8 x32,v34]:List Value)) 30,Row 61 Qao v34 x35,Z] w)) ?_ ?_
  ·
   rintro t w ⟨x43,x44,x46,H,hf,hs⟩
   obtain ⟨O,rfl⟩:=hf.open
   show G _ _ _ _ [_,_,_,_,_,_,_,_,_,_,_,_,_,_,_,_,_,_,_,_,_,_,_,_,_,_,_,_,_,_,_,_,_,_,_,_,_,_,_,_,_,_,_,_,_,_,_] _
   unfold Qa4.j2 at H
   refine Qak [0,1,2,3,4,5,6,7] rfl ?_
   refine Qaa (v:=int .u64 x46) rfl rfl rfl ?_
   refine Qaa (v:=int .u64 x46) rfl rfl rfl ?_
   refine Qaa (v:=int .i64 r12.1) rfl rfl rfl ?_
   refine Qaa (v:=pointer (some ⟨b2,0,none⟩)) rfl rfl rfl ?_
   obtain ⟨r47,Hr47,H⟩:=bind_get H
   have hs:St _ [_,_,_,_,_] _:=hs.pull 0 rfl
   have hs:=hs.pack 1
   refine Qas (args:=[pointer (some ⟨b2,0,none⟩),int .i64 5]) rfl rfl (Qat rfl (callFunc_enter Tryz.func92 rfl rfl) rfl) (Qbt.calls (a1:=(⟨a1.Qa0,x43,x44⟩:Qaz)) (a6:=5) hs hr4 Hr47) ?_
   rintro _ w ⟨rfl,hs⟩
   have hs:=St.unpack (Γ:=[_]) hs
   have hs:St _ [_,_,_,_,_] _:=hs
   obtain ⟨r48,Hr48,H⟩:=bind_get H
   refine Qas (args:=[int .u64 x46,int .i64 r12.1,bool r47.1]) rfl rfl (Qat rfl (callFunc_enter Tryz.func79 rfl rfl) rfl) (QbA.calls (a1:=x46) (a2:=r12.1) (a3:=r47.1) Hr48) ?_
   rintro _ w ⟨rfl,hs2⟩
   have hs:St _ [_,_,_,_,_] _:=hs.call hs2
   obtain ⟨r49,Hr49,H⟩:=bind_get H
   refine Qas (args:=[pointer (some ⟨b10,0,none⟩),int .u64 x46,bool r48]) rfl rfl (Qat rfl (callFunc_enter Tryz.func78 rfl rfl) rfl) (QbP.calls (a1:=(⟨x31,x32,x35⟩:Qag)) (a6:=x46) (a7:=r48) (hs.row 3 rfl) (hs.cells 2 rfl) Hr49) ?_
   rintro _ w ⟨v50,rfl,hs2⟩
   have hs:St _ [_,_,_,_,_,_] _:=hs.call hs2
   show G _ _ _ _ [_,_,_,_,_,_,_,_,_,_,_,_,_,_,_,_,_,_,_,_,_,_,_,_,_,_,_,_,_,_,_,_,_,_,_,_,_,_,_,_,_,_,_,_,_,_,_] _
   have hs:St _ [_,_,_,_,_,_] _:=hs.pull 3 rfl
   refine QaB (n:=3) hs rfl rfl rfl (vs:=(([int .i8 r49.Qac,int .i8 r49.Qae,v50]:List Value))) rfl rfl rfl (fun _=>rfl) rfl (by intro v hv;simp only [List.mem_append,List.mem_cons,List.not_mem_nil,or_false] at hv;repeat (first|(subst hv;first|rfl|exact slOne (hs.row 1 rfl))|(rcases hv with hv|hv))) ?_
   intro w hs
   refine Qab ?_
   refine QaH (Qak [0,1,2] rfl ?_)
   refine Qaa (v:=int .i64 x36) rfl rfl rfl ?_
   refine Qaa (v:=int .i64 (i64w (x36 - 1))) rfl rfl rfl ?_
   refine Qaa (v:=int .i64 (i64w (x36 - 1))) rfl rfl rfl (Qab ?_)
   obtain rfl:=QsJ H
   have hs:=hs.pull 5 rfl
   have hs:=hs.pull 1 rfl
   have hs:=hs.pull 2 rfl
   have hs:=hs.pull 4 rfl
   have hs:=hs.pull 4 rfl
   have hs:St _ [_,_,_,_,_] _:=St.take (Γ':=[_]) hs
   exact ih1_ _ _ ⟨r47.2.Qa3,r47.2.QaT,r49.Qac,r49.Qae,v50,r49.Qah,i64w (x36 - 1),Hx1_,rfl,hs⟩
  intro ha
  refine Qak [0,1] rfl ?_
  refine Qaa (v:=pointer (some ⟨b2,0,none⟩)) rfl rfl rfl ?_
  obtain ⟨r40,Hr40,H⟩:=bind_get H
  have hs:St _ [_,_,_,_,_] _:=hs.pull 0 rfl
  have hs:=hs.pack 1
  refine Qas (args:=[pointer (some ⟨b2,0,none⟩),int .i64 3]) rfl rfl (Qat rfl (callFunc_enter Tryz.func92 rfl rfl) rfl) (Qbt.calls (a1:=(⟨a1.Qa0,x29,x30⟩:Qaz)) (a6:=3) hs hr4 Hr40) ?_
  rintro _ w ⟨rfl,hs⟩
  have hs:=St.unpack (Γ:=[_]) hs
  have hs:St _ [_,_,_,_,_] _:=hs
  generalize hb2_:r40.1=b_ at H ⊢
  cases b_ with
  |true=>
   rw [if_pos rfl] at H
   show G _ _ _ _ [_,_,_,_,_,_,_,_,_,_,_,_,_,_,_,_,_,_,_,_,_,_,_,_,_,_,_,_,_,_,_,_,_,_,_,_,_,_,_,_,_,_,_,_,_,_,_] _
   refine Qab (Qam rfl ?_)
   obtain ⟨r41,Hr41,H⟩:=bind_get H
   obtain ⟨r42,Hr42,H⟩:=bind_get H
   refine Qbu ?_
   intro T hT
   refine Qcl (n:=9) rfl [0,1,2,3,4,5,6,7,8] [0,1,2,3,4,5,6,7,8] rfl rfl (Inv:=fun D t w=>∃ O:Nat→Value,t=[pointer (some ⟨b2,0,none⟩),O 1,pointer (some ⟨b6,0,none⟩),pointer (some ⟨b10,0,none⟩),int .i64 r12.1,int .i64 x36,cnd (D 8) (int .u64 (bAnd .u64 (u64w r41.1) r42)) (int .u64 r39),O 7,O 8,O 9,O 10,O 11,O 12,O 13,O 14,O 15,O 16,O 17,O 18,O 19,O 20,O 21,int .i64 x36,bool true,O 24,O 25,agg ((encA (encI .i64)) r37).toArray,agg ((encA (encI .i64)) r38).toArray,int .u64 r39,pointer (some ⟨b2,0,none⟩),bool true,cnd (D 0) (pointer (some ⟨b2,0,none⟩)) (O 31),cnd (D 1) (int .i64 r41.1) (O 32),cnd (D 2) (int .u64 (u64w r41.1)) (O 33),cnd (D 3) (pointer (some ⟨b10,0,none⟩)) (O 34),cnd (D 4) (int .i8 x31) (O 35),cnd (D 5) (int .i64 (i64w x31)) (O 36),cnd (D 6) (int .u64 r42) (O 37),cnd (D 7) (int .u64 (bAnd .u64 (u64w r41.1) r42)) (O 38),O 39,O 40,O 41,O 42,O 43,O 44,O 45,O 46]∧St wb [Cells b2 (cnd (D 1) (([v3,int .i64 r41.2.Qa3,int .u64 r41.2.QaT]:List Value)) (([v3,int .i64 r40.2.Qa3,int .u64 r40.2.QaT]:List Value))) 112,Cells b6 (([int .i8 0,int .i8 0,slice none 0 0]:List Value)) 30,Row 61 Qao v34 x35,Cells b10 (([int .i8 x31,int .i8 x32,v34]:List Value)) 30,Z] w) ?_ ⟨⟨⟨⟨⟨⟨⟨⟨⟨trivial,?_⟩,?_⟩,?_⟩,?_⟩,?_⟩,?_⟩,?_⟩,?_⟩,?_⟩ ?_
   ·
    intro w hh hbw
    have hs:=hs.samew hh hbw
    exact ⟨fun i=>T.getD i undef,(by subst hT;rfl),hs⟩
   ·
    rintro D t w hD hp hcl ⟨O,ht,hs⟩ rest hk
    have q1_:=nz hcl 1 0 hD
    have q2_:=nz hcl 2 0 q1_
    have q6_:=nz hcl 6 1 q1_
    have q7_:=nz hcl 7 0 q2_
    have q8_:=nz hcl 8 0 q7_
    simp only [hD,q1_,q2_,q6_,q7_,q8_,cq,oT] at ht hs
    subst ht
    refine Qaa (v:=pointer (some ⟨b2,0,none⟩)) rfl rfl rfl ?_
    show G _ _ _ _ [_,_,_,_,_,_,_,_,_,_,_,_,_,_,_,_,_,_,_,_,_,_,_,_,_,_,_,_,_,_,_,_,_,_,_,_,_,_,_,_,_,_,_,_,_,_,_] _
    refine hk _ _ ⟨O,?_,hs.cast ?_⟩<;>simp only [oT,lq,cq,Nat.reduceBEq,q1_,q2_,q6_,q7_,q8_]
   ·
    rintro D t w hD hp hcl ⟨O,ht,hs⟩ rest hk
    obtain ⟨p0_,_⟩:=hp
    have q2_:=nz hcl 2 0 hD
    have q6_:=nz hcl 6 1 hD
    have q7_:=nz hcl 7 0 q2_
    have q8_:=nz hcl 8 0 q7_
    simp only [hD,p0_,q2_,q6_,q7_,q8_,cq,oT] at ht hs
    subst ht
    have hs:St _ [_,_,_,_,_] _:=hs.pull 0 rfl
    have hs:=hs.pack 1
    refine Qas (args:=[pointer (some ⟨b2,0,none⟩),int .i64 1048576]) rfl rfl (Qat rfl (callFunc_enter Tryz.func33 rfl rfl) rfl) (QaJ.calls (a1:=(⟨a1.Qa0,r40.2.Qa3,r40.2.QaT⟩:Qaz)) (a6:=1048576) hs hr4 Hr41) ?_
    rintro _ w ⟨rfl,hs⟩
    have hs:=St.unpack (Γ:=[_]) hs
    have hs:St _ [_,_,_,_,_] _:=hs
    show G _ _ _ _ [_,_,_,_,_,_,_,_,_,_,_,_,_,_,_,_,_,_,_,_,_,_,_,_,_,_,_,_,_,_,_,_,_,_,_,_,_,_,_,_,_,_,_,_,_,_,_] _
    have hs:=hs.push 0 (by simp)
    refine hk _ _ ⟨O,?_,hs.cast ?_⟩<;>simp only [oT,lq,cq,Nat.reduceBEq,p0_,q2_,q6_,q7_,q8_]
   ·
    rintro D t w hD hp hcl ⟨O,ht,hs⟩ rest hk
    obtain ⟨p1_,_⟩:=hp
    obtain ⟨p0_,_⟩:=(hcl.get 1 (by decide)) p1_
    have q7_:=nz hcl 7 0 hD
    have q8_:=nz hcl 8 0 q7_
    simp only [hD,p0_,p1_,q7_,q8_,cq,oT] at ht hs
    subst ht
    refine Qaa (v:=int .u64 (u64w r41.1)) rfl rfl rfl ?_
    show G _ _ _ _ [_,_,_,_,_,_,_,_,_,_,_,_,_,_,_,_,_,_,_,_,_,_,_,_,_,_,_,_,_,_,_,_,_,_,_,_,_,_,_,_,_,_,_,_,_,_,_] _
    refine hk _ _ ⟨O,?_,hs.cast ?_⟩<;>simp only [oT,lq,cq,Nat.reduceBEq,p0_,p1_,q7_,q8_]
   ·
    rintro D t w hD hp hcl ⟨O,ht,hs⟩ rest hk
    have q4_:=nz hcl 4 0 hD
    have q5_:=nz hcl 5 0 q4_
    have q6_:=nz hcl 6 0 q5_
    have q7_:=nz hcl 7 1 q6_
    have q8_:=nz hcl 8 0 q7_
    simp only [hD,q4_,q5_,q6_,q7_,q8_,cq,oT] at ht hs
    subst ht
    refine Qaa (v:=pointer (some ⟨b10,0,none⟩)) rfl rfl rfl ?_
    show G _ _ _ _ [_,_,_,_,_,_,_,_,_,_,_,_,_,_,_,_,_,_,_,_,_,_,_,_,_,_,_,_,_,_,_,_,_,_,_,_,_,_,_,_,_,_,_,_,_,_,_] _
    refine hk _ _ ⟨O,?_,hs.cast ?_⟩<;>simp only [oT,lq,cq,Nat.reduceBEq,q4_,q5_,q6_,q7_,q8_]
   ·
    rintro D t w hD hp hcl ⟨O,ht,hs⟩ rest hk
    obtain ⟨p3_,_⟩:=hp
    have q5_:=nz hcl 5 0 hD
    have q6_:=nz hcl 6 0 q5_
    have q7_:=nz hcl 7 1 q6_
    have q8_:=nz hcl 8 0 q7_
    simp only [hD,p3_,q5_,q6_,q7_,q8_,cq,oT] at ht hs
    subst ht
    refine Qaw rfl rfl (v:=int .i8 x31) rfl rfl (fun _=>rfl) (cells_load (hs.cells 3 rfl) 0 1 rfl) ?_
    show G _ _ _ _ [_,_,_,_,_,_,_,_,_,_,_,_,_,_,_,_,_,_,_,_,_,_,_,_,_,_,_,_,_,_,_,_,_,_,_,_,_,_,_,_,_,_,_,_,_,_,_] _
    refine hk _ _ ⟨O,?_,hs.cast ?_⟩<;>simp only [oT,lq,cq,Nat.reduceBEq,p3_,q5_,q6_,q7_,q8_]
   ·
    rintro D t w hD hp hcl ⟨O,ht,hs⟩ rest hk
    obtain ⟨p4_,_⟩:=hp
    obtain ⟨p3_,_⟩:=(hcl.get 4 (by decide)) p4_
    have q6_:=nz hcl 6 0 hD
    have q7_:=nz hcl 7 1 q6_
    have q8_:=nz hcl 8 0 q7_
    simp only [hD,p3_,p4_,q6_,q7_,q8_,cq,oT] at ht hs
    subst ht
    refine Qaa (v:=int .i64 (i64w x31)) rfl rfl rfl ?_
    show G _ _ _ _ [_,_,_,_,_,_,_,_,_,_,_,_,_,_,_,_,_,_,_,_,_,_,_,_,_,_,_,_,_,_,_,_,_,_,_,_,_,_,_,_,_,_,_,_,_,_,_] _
    refine hk _ _ ⟨O,?_,hs.cast ?_⟩<;>simp only [oT,lq,cq,Nat.reduceBEq,p3_,p4_,q6_,q7_,q8_]
   ·
    rintro D t w hD hp hcl ⟨O,ht,hs⟩ rest hk
    obtain ⟨p5_,p1_,_⟩:=hp
    obtain ⟨p4_,_⟩:=(hcl.get 5 (by decide)) p5_
    obtain ⟨p3_,_⟩:=(hcl.get 4 (by decide)) p4_
    obtain ⟨p0_,_⟩:=(hcl.get 1 (by decide)) p1_
    have q7_:=nz hcl 7 1 hD
    have q8_:=nz hcl 8 0 q7_
    simp only [hD,p0_,p1_,p3_,p4_,p5_,q7_,q8_,cq,oT] at ht hs
    subst ht
    refine Qas (args:=[int .i64 (i64w x31)]) rfl rfl (Qat rfl (callFunc_enter Tryz.func93 rfl rfl) rfl) (QbT.calls (a1:=i64w x31) Hr42) ?_
    rintro _ w ⟨rfl,hs2⟩
    have hs:St _ [_,_,_,_,_] _:=hs.call hs2
    show G _ _ _ _ [_,_,_,_,_,_,_,_,_,_,_,_,_,_,_,_,_,_,_,_,_,_,_,_,_,_,_,_,_,_,_,_,_,_,_,_,_,_,_,_,_,_,_,_,_,_,_] _
    refine hk _ _ ⟨O,?_,hs.cast ?_⟩<;>simp only [oT,lq,cq,Nat.reduceBEq,p0_,p1_,p3_,p4_,p5_,q7_,q8_]
   ·
    rintro D t w hD hp hcl ⟨O,ht,hs⟩ rest hk
    obtain ⟨p2_,p6_,_⟩:=hp
    obtain ⟨p5_,p1_,_⟩:=(hcl.get 6 (by decide)) p6_
    obtain ⟨p4_,_⟩:=(hcl.get 5 (by decide)) p5_
    obtain ⟨p3_,_⟩:=(hcl.get 4 (by decide)) p4_
    obtain ⟨p0_,_⟩:=(hcl.get 1 (by decide)) p1_
    have q8_:=nz hcl 8 0 hD
    simp only [hD,p0_,p1_,p2_,p3_,p4_,p5_,p6_,q8_,cq,oT] at ht hs
    subst ht
    refine Qaa (v:=int .u64 (bAnd .u64 (u64w r41.1) r42)) rfl rfl rfl ?_
    show G _ _ _ _ [_,_,_,_,_,_,_,_,_,_,_,_,_,_,_,_,_,_,_,_,_,_,_,_,_,_,_,_,_,_,_,_,_,_,_,_,_,_,_,_,_,_,_,_,_,_,_] _
    refine hk _ _ ⟨O,?_,hs.cast ?_⟩<;>simp only [oT,lq,cq,Nat.reduceBEq,p0_,p1_,p2_,p3_,p4_,p5_,p6_,q8_]
   ·
    rintro D t w hD hp hcl ⟨O,ht,hs⟩ rest hk
    obtain ⟨p7_,p6_,p0_,p1_,p2_,p3_,p4_,p5_,_,_,_⟩:=hp
    simp only [hD,p0_,p1_,p2_,p3_,p4_,p5_,p6_,p7_,cq,oT] at ht hs
    subst ht
    refine Qaa (v:=int .u64 (bAnd .u64 (u64w r41.1) r42)) rfl rfl rfl ?_
    show G _ _ _ _ [_,_,_,_,_,_,_,_,_,_,_,_,_,_,_,_,_,_,_,_,_,_,_,_,_,_,_,_,_,_,_,_,_,_,_,_,_,_,_,_,_,_,_,_,_,_,_] _
    refine hk _ _ ⟨O,?_,hs.cast ?_⟩<;>simp only [oT,lq,cq,Nat.reduceBEq,p0_,p1_,p2_,p3_,p4_,p5_,p6_,p7_]
   intro D t w hall hI
   obtain ⟨O,ht,hs⟩:=hI
   have p0_:=hall 0 (by decide)
   have p1_:=hall 1 (by decide)
   have p2_:=hall 2 (by decide)
   have p3_:=hall 3 (by decide)
   have p4_:=hall 4 (by decide)
   have p5_:=hall 5 (by decide)
   have p6_:=hall 6 (by decide)
   have p7_:=hall 7 (by decide)
   have p8_:=hall 8 (by decide)
   simp only [p0_,p1_,p2_,p3_,p4_,p5_,p6_,p7_,p8_,cq,oT] at ht hs
   subst ht
   have hs:=hs.pull 4 rfl
   have hs:=hs.pull 3 rfl
   have hs:=hs.pull 4 rfl
   have hs:=hs.pull 4 rfl
   have hs:=hs.pull 4 rfl
   have hs:St _ [_,_,_,_,_] _:=St.take (Γ':=[]) hs
   exact ha _ _ ⟨r41.2.Qa3,r41.2.QaT,bAnd .u64 (u64w r41.1) r42,H,rfl,hs⟩
  |false=>
   rw [if_neg Bool.false_ne_true] at H
   refine Qab (Qap rfl (QaE ?_))
   have hs:=hs.pull 4 rfl
   have hs:=hs.pull 3 rfl
   have hs:=hs.pull 4 rfl
   have hs:=hs.pull 4 rfl
   have hs:=hs.pull 4 rfl
   have hs:St _ [_,_,_,_,_] _:=St.take (Γ':=[]) hs
   exact ha _ _ ⟨r40.2.Qa3,r40.2.QaT,r39,H,rfl,hs⟩
 intro hb
 rw [if_neg (b_dec_f hb)] at H
 refine Qab (Qap rfl ?_)
 obtain rfl:=QsJ H
 subst Hx1_
 have hs:=hs.pull 4 rfl
 have hs:=hs.pull 1 rfl
 have hs:=hs.pull 3 rfl
 have hs:=hs.pull 4 rfl
 have hs:=hs.pull 4 rfl
 have hs:St _ [_,_,_,_,_] _:=St.take (Γ':=[]) hs
 refine Qbq rfl ?_
 exact ha1_ _ _ ⟨x31,x32,v34,x35,x29,x30,Hr1_,rfl,hs⟩
def Qb8.post (w0:World) (r:Qag) (v:Value) (w:World):Prop:=∃ u1:Value,v=agg (([int .i8 r.Qac,int .i8 r.Qae,u1]:List Value)).toArray∧St w0 [Row 61 Qao u1 r.Qah] w
theorem Qb8.calls {N:Nat} {a1:(List Int)} {v2:Value} {w0:World} {r:Qag} (hr0:RdRow (K.int .u8) w0 v2 a1) (H:Qb8.f N a1=some r):
 Calls Tryz.prog 17 #[v2] w0 fun e w=>∃ v,e= .returned v∧Qb8.post w0 r v w:=by
 unfold Qb8.f at H
 have hs:St w0 [] w0:=St.refl w0
 refine calls_of_g (n:=5) Tryz.func17 rfl rfl ?_
 show G _ _ _ _ [_,_,_,_,_,_] _
 refine Qaf (Qak [0] rfl ?_)
 refine Qa5 hs rfl rfl (z:=(agg #[int .i8 0,int .i8 0,slice none 0 0])) (cs:=(([int .i8 0,int .i8 0,slice none 0 0]:List Value))) rfl (fun _=>rfl) rfl ?_
 intro b3 w hs
 refine Qab (Qaf (Qak [0,1,2,3] rfl ?_))
 refine Qaa (v:=v2) rfl rfl rfl ?_
 obtain ⟨r5,Hr5,H⟩:=bind_get H
 refine Qas (args:=[v2]) rfl rfl (Qat rfl (callFunc_enter Tryz.func32 rfl rfl) rfl) (QbF.calls (a1:=a1) (hs.rd hr0) Hr5) ?_
 rintro _ w ⟨b6,rfl,hs2⟩
 have hs:St _ [_,_] _:=hs.call hs2
 show G _ _ _ _ [_,_,_,_,_,_] _
 obtain ⟨r8,Hr8,H⟩:=bind_get H
 have hs:St _ [_,_] _:=hs.pull 0 rfl
 have hs:=hs.pack 1
 refine Qas (args:=[pointer (some ⟨b6,0,none⟩)]) rfl rfl (Qat rfl (callFunc_enter Tryz.func55 rfl rfl) rfl) (Qa4.calls (a1:=(⟨a1,r5.Qa3,r5.QaT⟩:Qaz)) hs hr0 Hr8) ?_
 rintro _ w ⟨v9,rfl,hs⟩
 have hs:=St.unpack (Γ:=[_,_]) hs
 have hs:St _ [_,_,_] _:=hs
 have hs:St _ [_,_,_] _:=hs.pull 2 rfl
 refine QaB (n:=3) hs rfl rfl rfl (vs:=(([int .i8 r8.1.Qac,int .i8 r8.1.Qae,v9]:List Value))) rfl rfl rfl (fun _=>rfl) rfl (by intro v hv;simp only [List.mem_append,List.mem_cons,List.not_mem_nil,or_false] at hv;repeat (first|(subst hv;first|rfl|exact slOne (hs.row 1 rfl))|(rcases hv with hv|hv))) ?_
 intro w hs
 refine Qab ?_
 obtain rfl:=QsJ H
 refine Qax Tryz.func17 (v:=agg (([int .i8 r8.1.Qac,int .i8 r8.1.Qae,v9]:List Value)).toArray) (resC rfl ⟨⟨_,rfl,(run_loadVar_agg (es:=(([int .i8 r8.1.Qac,int .i8 r8.1.Qae,v9]:List Value))) rfl rfl (cells_all (hs.cells 0 rfl)))⟩,trivial⟩) ?_
 have hs:=hs.pull 1 rfl
 have hs:St _ [_] _:=St.take (Γ':=[_,_]) hs
 exact ⟨_,rfl,v9,rfl,hs⟩
def QbI.post (w0:World) (r:((List Int)×Int)) (v:Value) (w:World):Prop:=∃ u1:Value,v=tuple #[u1,int .i64 r.2]∧St w0 [Row 2 (K.int .i64) u1 r.1] w
theorem QbI.calls {N:Nat} {a1:Qag} {v2:Value} {w0:World} {r:((List Int)×Int)} (hr3:RdRow Qao w0 v2 a1.Qah) (H:QbI.f N a1=some r):
 Calls Tryz.prog 18 #[agg (([int .i8 a1.Qac,int .i8 a1.Qae,v2]:List Value)).toArray] w0 fun e w=>∃ v,e= .returned v∧QbI.post w0 r v w:=by
 unfold QbI.f at H
 have hs:St w0 [] w0:=St.refl w0
 refine calls_of_g (n:=8) Tryz.func18 rfl rfl ?_
 show G _ _ _ _ [_,_,_,_,_,_,_,_,_] _
 refine Qaf (Qak [0,1,2] rfl ?_)
 refine Qbx hs rfl rfl (cs:=(([int .i8 a1.Qac,int .i8 a1.Qae,v2]:List Value))) rfl rfl ?_
 intro b4 w hs
 refine Qaa (v:=slice none 0 0) rfl rfl rfl ?_
 refine Qaa (v:=int .i64 0) rfl rfl rfl ?_
 show G _ _ _ _ [_,_,_,_,_,_,_,_,_] _
 refine Qab (Qaf (Qaf (Qak [0,1,2] rfl ?_)))
 refine QaG rfl rfl (es:=(([int .i8 a1.Qac,int .i8 a1.Qae,v2]:List Value))) rfl rfl (fun _=>rfl) (n:=3) (fun _=>rfl) rfl (cells_all (hs.cells 0 rfl)) ?_
 obtain ⟨r6,Hr6,H⟩:=bind_get H
 refine Qas (args:=[agg (([int .i8 a1.Qac,int .i8 a1.Qae,v2]:List Value)).toArray]) rfl rfl (Qat rfl (callFunc_enter Tryz.func14 rfl rfl) rfl) (Qa1.calls (a1:=(⟨a1.Qac,a1.Qae,a1.Qah⟩:Qag)) (hs.rd hr3) Hr6) ?_
 rintro _ w ⟨rfl,hs2⟩
 have hs:St _ [_] _:=hs.call hs2
 cases r6 with
 |true=>
  rw [if_pos rfl] at H
  refine Qaa (v:=bool false) rfl rfl rfl ?_
  show G _ _ _ _ [_,_,_,_,_,_,_,_,_] _
  refine Qab (Qap rfl (QaE (Qaf (Qak [0,1,2,3] rfl ?_))))
  refine QaG rfl rfl (es:=(([int .i8 a1.Qac,int .i8 a1.Qae,v2]:List Value))) rfl rfl (fun _=>rfl) (n:=3) (fun _=>rfl) rfl (cells_all (hs.cells 0 rfl)) ?_
  obtain ⟨r7,Hr7,H⟩:=bind_get H
  refine Qas (args:=[agg (([int .i8 a1.Qac,int .i8 a1.Qae,v2]:List Value)).toArray]) rfl rfl (Qat rfl (callFunc_enter Tryz.func36 rfl rfl) rfl) (Qbf.calls (a1:=(⟨a1.Qac,a1.Qae,a1.Qah⟩:Qag)) (hs.rd hr3) Hr7) ?_
  intro v8 w hs2
  have hs:St _ [_,_] _:=hs.call hs2
  refine Qaa (v:=v8) rfl rfl rfl ?_
  show G _ _ _ _ [_,_,_,_,_,_,_,_,_] _
  refine Qaa (v:=int .i64 0) rfl rfl rfl (Qab ?_)
  obtain rfl:=QsJ H
  refine Qax Tryz.func18 (v:=tuple #[v8,int .i64 0]) (resN (l:=Tryz.f18.results.toList) (vs:=[v8,int .i64 0]) rfl ⟨rfl,rfl,trivial⟩ (by simp)) ?_
  have hs:=hs.pull 0 rfl
  have hs:St _ [_] _:=St.take (Γ':=[_]) hs
  exact ⟨_,rfl,v8,rfl,hs⟩
 |false=>
  rw [if_neg Bool.false_ne_true] at H
  refine Qaa (v:=bool true) rfl rfl rfl ?_
  show G _ _ _ _ [_,_,_,_,_,_,_,_,_] _
  refine Qab (Qam rfl (Qaf (Qak [0,1] rfl ?_)))
  refine Qaa (v:=slice none 0 0) rfl rfl rfl ?_
  refine Qaa (v:=int .i64 1) rfl rfl rfl (Qab ?_)
  obtain rfl:=QsJ H
  refine Qax Tryz.func18 (v:=tuple #[slice none 0 0,int .i64 1]) (resN (l:=Tryz.f18.results.toList) (vs:=[slice none 0 0,int .i64 1]) rfl ⟨rfl,rfl,trivial⟩ (by simp)) ?_
  have hs:=hs.nil 2 (K.int .i64)
  have hs:=hs.pull 0 rfl
  have hs:St _ [_] _:=St.take (Γ':=[_]) hs
  exact ⟨_,rfl,(slice none 0 0),rfl,hs⟩
def Qbn.post (w0:World) (r:Bool) (v:Value) (w:World):Prop:=v=bool r∧St w0 [] w
theorem Qbn.calls {N:Nat} {a1:Qag} {b2:Nat} {v3:Value} {w0:World} {r:Bool} (hr4:RdRow Qao w0 v3 a1.Qah) (hp0:w0.heap[b2]?=some (.cells ((([int .i8 a1.Qac,int .i8 a1.Qae,v3]:List Value)):List Value).toArray 30 (0,0))) (H:Qbn.f N a1=some r):
 Calls Tryz.prog 56 #[pointer (some ⟨b2,0,none⟩)] w0 fun e w=>∃ v,e= .returned v∧Qbn.post w0 r v w:=by
 unfold Qbn.f at H
 have hs:St w0 [] w0:=St.refl w0
 refine calls_of_g (n:=48) Tryz.func56 rfl rfl ?_
 show G _ _ _ _ [_,_,_,_,_,_,_,_,_,_,_,_,_,_,_,_,_,_,_,_,_,_,_,_,_,_,_,_,_,_,_,_,_,_,_,_,_,_,_,_,_,_,_,_,_,_,_,_,_] _
 refine Qaf (Qak [0] rfl ?_)
 refine Qaa (v:=bool false) rfl rfl rfl ?_
 show G _ _ _ _ [_,_,_,_,_,_,_,_,_,_,_,_,_,_,_,_,_,_,_,_,_,_,_,_,_,_,_,_,_,_,_,_,_,_,_,_,_,_,_,_,_,_,_,_,_,_,_,_,_] _
 refine Qab (Qaf (Qaf ?_))
 refine Qcj (n:=20) rfl [0,1,2,3,4,5,6,7,8,9,10,11,12,13,14,15,16,17,18,19] [0,1,2,3,4,5,6,7,8,9,10,11,12,13,14,15,16,17,18,19] rfl rfl ?_
 intro rest w hh hbw hO
 have hs:=hs.samew hh hbw
 show G _ _ _ _ [_,_,_,_,_,_,_,_,_,_,_,_,_,_,_,_,_,_,_,_,_,_,_,_,_,_,_,_,_,_,_,_,_,_,_,_,_,_,_,_,_,_,_,_,_,_,_,_,_] _
 refine Qbu ?_
 intro T hT
 refine QbV (m0:=0) hO rfl 1023 [0,1,2,3,4,5,6,7,8,9] [0,1,3,7,15,0,32,96,224,480,1023,2047,4095,8191,16383,32767,65535,131071,262143,524287] (by decide+kernel) (fun D t w=>∃ O:Nat→Value,t=[pointer (some ⟨b2,0,none⟩),O 1,bool false,O 3,cnd (D 0) (pointer (some ⟨b2,0,none⟩)) (O 4),cnd (D 1) (pointer (some ⟨b2,0,none⟩)) (O 5),cnd (D 2) (pointer (some ⟨b2,0,none⟩)) (O 6),cnd (D 3) (int .i8 a1.Qac) (O 7),cnd (D 4) (int .i64 (i64w a1.Qac)) (O 8),cnd (D 5) (pointer (some ⟨b2,0,none⟩)) (O 9),cnd (D 6) (pointer (some ⟨b2,0,none⟩)) (O 10),cnd (D 7) (pointer (some ⟨b2,1,none⟩)) (O 11),cnd (D 8) (int .i8 a1.Qae) (O 12),cnd (D 9) (int .i64 (i64w a1.Qae)) (O 13),O 14,O 15,O 16,O 17,O 18,O 19,O 20,O 21,O 22,O 23,O 24,O 25,O 26,O 27,O 28,O 29,O 30,O 31,O 32,O 33,O 34,O 35,O 36,O 37,O 38,O 39,O 40,O 41,O 42,O 43,O 44,O 45,O 46,O 47,O 48]∧St w0 [] w) ?_ ⟨?_,⟨?_,⟨?_,⟨?_,⟨?_,⟨?_,⟨?_,⟨?_,⟨?_,⟨?_,trivial⟩⟩⟩⟩⟩⟩⟩⟩⟩⟩ ?_
 ·exact ⟨fun i=>T.getD i undef,(by subst hT;rfl),hs⟩
 ·
  rintro D t w hD hp hcl ⟨O,ht,hs⟩ rest hk
  have hp:AllDone D []:=hp
  have q1_:=ny hcl 1 0 hD
  have q2_:=ny hcl 2 0 q1_
  have q3_:=ny hcl 3 0 q2_
  have q4_:=ny hcl 4 0 q3_
  simp only [hD,q1_,q2_,q3_,q4_,cq,oT] at ht hs
  subst ht
  refine Qaa (v:=pointer (some ⟨b2,0,none⟩)) rfl rfl rfl ?_
  show G _ _ _ _ [_,_,_,_,_,_,_,_,_,_,_,_,_,_,_,_,_,_,_,_,_,_,_,_,_,_,_,_,_,_,_,_,_,_,_,_,_,_,_,_,_,_,_,_,_,_,_,_,_] _
  refine hk _ _ ⟨O,?_,hs.cast ?_⟩<;>simp only [oT,lq,cq,Nat.reduceBEq,q1_,q2_,q3_,q4_]
 ·
  rintro D t w hD hp hcl ⟨O,ht,hs⟩ rest hk
  have hp:AllDone D [0]:=hp
  obtain ⟨p0_,_⟩:=hp
  have q2_:=ny hcl 2 0 hD
  have q3_:=ny hcl 3 0 q2_
  have q4_:=ny hcl 4 0 q3_
  simp only [hD,p0_,q2_,q3_,q4_,cq,oT] at ht hs
  subst ht
  refine Qaa (v:=pointer (some ⟨b2,0,none⟩)) rfl rfl rfl ?_
  show G _ _ _ _ [_,_,_,_,_,_,_,_,_,_,_,_,_,_,_,_,_,_,_,_,_,_,_,_,_,_,_,_,_,_,_,_,_,_,_,_,_,_,_,_,_,_,_,_,_,_,_,_,_] _
  refine hk _ _ ⟨O,?_,hs.cast ?_⟩<;>simp only [oT,lq,cq,Nat.reduceBEq,p0_,q2_,q3_,q4_]
 ·
  rintro D t w hD hp hcl ⟨O,ht,hs⟩ rest hk
  have hp:AllDone D [1]:=hp
  obtain ⟨p1_,_⟩:=hp
  obtain ⟨p0_,_⟩:=(show D 1=true→AllDone D [0] from hcl 1 (by decide)) p1_
  have q3_:=ny hcl 3 0 hD
  have q4_:=ny hcl 4 0 q3_
  simp only [hD,p0_,p1_,q3_,q4_,cq,oT] at ht hs
  subst ht
  refine Qaa (v:=pointer (some ⟨b2,0,none⟩)) rfl rfl rfl ?_
  show G _ _ _ _ [_,_,_,_,_,_,_,_,_,_,_,_,_,_,_,_,_,_,_,_,_,_,_,_,_,_,_,_,_,_,_,_,_,_,_,_,_,_,_,_,_,_,_,_,_,_,_,_,_] _
  refine hk _ _ ⟨O,?_,hs.cast ?_⟩<;>simp only [oT,lq,cq,Nat.reduceBEq,p0_,p1_,q3_,q4_]
 ·
  rintro D t w hD hp hcl ⟨O,ht,hs⟩ rest hk
  have hp:AllDone D [2]:=hp
  obtain ⟨p2_,_⟩:=hp
  obtain ⟨p1_,_⟩:=(show D 2=true→AllDone D [1] from hcl 2 (by decide)) p2_
  obtain ⟨p0_,_⟩:=(show D 1=true→AllDone D [0] from hcl 1 (by decide)) p1_
  have q4_:=ny hcl 4 0 hD
  simp only [hD,p0_,p1_,p2_,q4_,cq,oT] at ht hs
  subst ht
  refine Qaw rfl rfl (v:=int .i8 a1.Qac) rfl rfl (fun _=>rfl) (cells_load (hs.box hp0) 0 1 rfl) ?_
  show G _ _ _ _ [_,_,_,_,_,_,_,_,_,_,_,_,_,_,_,_,_,_,_,_,_,_,_,_,_,_,_,_,_,_,_,_,_,_,_,_,_,_,_,_,_,_,_,_,_,_,_,_,_] _
  refine hk _ _ ⟨O,?_,hs.cast ?_⟩<;>simp only [oT,lq,cq,Nat.reduceBEq,p0_,p1_,p2_,q4_]
 ·
  rintro D t w hD hp hcl ⟨O,ht,hs⟩ rest hk
  have hp:AllDone D [3]:=hp
  obtain ⟨p3_,_⟩:=hp
  obtain ⟨p2_,_⟩:=(show D 3=true→AllDone D [2] from hcl 3 (by decide)) p3_
  obtain ⟨p1_,_⟩:=(show D 2=true→AllDone D [1] from hcl 2 (by decide)) p2_
  obtain ⟨p0_,_⟩:=(show D 1=true→AllDone D [0] from hcl 1 (by decide)) p1_
  simp only [hD,p0_,p1_,p2_,p3_,cq,oT] at ht hs
  subst ht
  refine Qaa (v:=int .i64 (i64w a1.Qac)) rfl rfl rfl ?_
  show G _ _ _ _ [_,_,_,_,_,_,_,_,_,_,_,_,_,_,_,_,_,_,_,_,_,_,_,_,_,_,_,_,_,_,_,_,_,_,_,_,_,_,_,_,_,_,_,_,_,_,_,_,_] _
  refine hk _ _ ⟨O,?_,hs.cast ?_⟩<;>simp only [oT,lq,cq,Nat.reduceBEq,p0_,p1_,p2_,p3_]
 ·
  rintro D t w hD hp hcl ⟨O,ht,hs⟩ rest hk
  have hp:AllDone D []:=hp
  have q6_:=ny hcl 6 0 hD
  have q7_:=ny hcl 7 0 q6_
  have q8_:=ny hcl 8 0 q7_
  have q9_:=ny hcl 9 0 q8_
  simp only [hD,q6_,q7_,q8_,q9_,cq,oT] at ht hs
  subst ht
  refine Qaa (v:=pointer (some ⟨b2,0,none⟩)) rfl rfl rfl ?_
  show G _ _ _ _ [_,_,_,_,_,_,_,_,_,_,_,_,_,_,_,_,_,_,_,_,_,_,_,_,_,_,_,_,_,_,_,_,_,_,_,_,_,_,_,_,_,_,_,_,_,_,_,_,_] _
  refine hk _ _ ⟨O,?_,hs.cast ?_⟩<;>simp only [oT,lq,cq,Nat.reduceBEq,q6_,q7_,q8_,q9_]
 ·
  rintro D t w hD hp hcl ⟨O,ht,hs⟩ rest hk
  have hp:AllDone D [5]:=hp
  obtain ⟨p5_,_⟩:=hp
  have q7_:=ny hcl 7 0 hD
  have q8_:=ny hcl 8 0 q7_
  have q9_:=ny hcl 9 0 q8_
  simp only [hD,p5_,q7_,q8_,q9_,cq,oT] at ht hs
  subst ht
  refine Qaa (v:=pointer (some ⟨b2,0,none⟩)) rfl rfl rfl ?_
  show G _ _ _ _ [_,_,_,_,_,_,_,_,_,_,_,_,_,_,_,_,_,_,_,_,_,_,_,_,_,_,_,_,_,_,_,_,_,_,_,_,_,_,_,_,_,_,_,_,_,_,_,_,_] _
  refine hk _ _ ⟨O,?_,hs.cast ?_⟩<;>simp only [oT,lq,cq,Nat.reduceBEq,p5_,q7_,q8_,q9_]
 ·
  rintro D t w hD hp hcl ⟨O,ht,hs⟩ rest hk
  have hp:AllDone D [6]:=hp
  obtain ⟨p6_,_⟩:=hp
  obtain ⟨p5_,_⟩:=(show D 6=true→AllDone D [5] from hcl 6 (by decide)) p6_
  have q8_:=ny hcl 8 0 hD
  have q9_:=ny hcl 9 0 q8_
  simp only [hD,p5_,p6_,q8_,q9_,cq,oT] at ht hs
  subst ht
  refine Qaa (v:=pointer (some ⟨b2,1,none⟩)) rfl rfl rfl ?_
  show G _ _ _ _ [_,_,_,_,_,_,_,_,_,_,_,_,_,_,_,_,_,_,_,_,_,_,_,_,_,_,_,_,_,_,_,_,_,_,_,_,_,_,_,_,_,_,_,_,_,_,_,_,_] _
  refine hk _ _ ⟨O,?_,hs.cast ?_⟩<;>simp only [oT,lq,cq,Nat.reduceBEq,p5_,p6_,q8_,q9_]
 ·
  rintro D t w hD hp hcl ⟨O,ht,hs⟩ rest hk
  have hp:AllDone D [7]:=hp
  obtain ⟨p7_,_⟩:=hp
  obtain ⟨p6_,_⟩:=(show D 7=true→AllDone D [6] from hcl 7 (by decide)) p7_
  obtain ⟨p5_,_⟩:=(show D 6=true→AllDone D [5] from hcl 6 (by decide)) p6_
  have q9_:=ny hcl 9 0 hD
  simp only [hD,p5_,p6_,p7_,q9_,cq,oT] at ht hs
  subst ht
  refine Qaw rfl rfl (v:=int .i8 a1.Qae) rfl rfl (fun _=>rfl) (cells_load (hs.box hp0) 1 1 rfl) ?_
  show G _ _ _ _ [_,_,_,_,_,_,_,_,_,_,_,_,_,_,_,_,_,_,_,_,_,_,_,_,_,_,_,_,_,_,_,_,_,_,_,_,_,_,_,_,_,_,_,_,_,_,_,_,_] _
  refine hk _ _ ⟨O,?_,hs.cast ?_⟩<;>simp only [oT,lq,cq,Nat.reduceBEq,p5_,p6_,p7_,q9_]
 ·
  rintro D t w hD hp hcl ⟨O,ht,hs⟩ rest hk
  have hp:AllDone D [8]:=hp
  obtain ⟨p8_,_⟩:=hp
  obtain ⟨p7_,_⟩:=(show D 8=true→AllDone D [7] from hcl 8 (by decide)) p8_
  obtain ⟨p6_,_⟩:=(show D 7=true→AllDone D [6] from hcl 7 (by decide)) p7_
  obtain ⟨p5_,_⟩:=(show D 6=true→AllDone D [5] from hcl 6 (by decide)) p6_
  simp only [hD,p5_,p6_,p7_,p8_,cq,oT] at ht hs
  subst ht
  refine Qaa (v:=int .i64 (i64w a1.Qae)) rfl rfl rfl ?_
  show G _ _ _ _ [_,_,_,_,_,_,_,_,_,_,_,_,_,_,_,_,_,_,_,_,_,_,_,_,_,_,_,_,_,_,_,_,_,_,_,_,_,_,_,_,_,_,_,_,_,_,_,_,_] _
  refine hk _ _ ⟨O,?_,hs.cast ?_⟩<;>simp only [oT,lq,cq,Nat.reduceBEq,p5_,p6_,p7_,p8_]
 intro D t w rest hall hO1_ hI
 obtain ⟨O,ht,hs⟩:=hI
 have p0_:=hall 0 (by decide) rfl
 have p1_:=hall 1 (by decide) rfl
 have p2_:=hall 2 (by decide) rfl
 have p3_:=hall 3 (by decide) rfl
 have p4_:=hall 4 (by decide) rfl
 have p5_:=hall 5 (by decide) rfl
 have p6_:=hall 6 (by decide) rfl
 have p7_:=hall 7 (by decide) rfl
 have p8_:=hall 8 (by decide) rfl
 have p9_:=hall 9 (by decide) rfl
 simp only [p0_,p1_,p2_,p3_,p4_,p5_,p6_,p7_,p8_,p9_,cq,oT] at ht hs
 subst ht
 obtain ⟨rest,rfl,hO2_⟩:=ord_one (m:=1023) hO1_ rfl 10 (m':=2047) (by decide+kernel) rfl
 clear hO1_
 obtain ⟨r6,Hr6,H⟩:=bind_get H
 refine Qas (args:=[int .i64 (i64w a1.Qac),int .i64 (i64w a1.Qae)]) rfl rfl (Qat rfl (callFunc_enter Tryz.func38 rfl rfl) rfl) (QbE.calls (a1:=i64w a1.Qac) (a2:=i64w a1.Qae) Hr6) ?_
 rintro _ w ⟨rfl,hs2⟩
 have hs:St _ [] _:=hs.call hs2
 cases r6 with
 |true=>
  rw [if_pos rfl] at H
  show G _ _ _ _ [_,_,_,_,_,_,_,_,_,_,_,_,_,_,_,_,_,_,_,_,_,_,_,_,_,_,_,_,_,_,_,_,_,_,_,_,_,_,_,_,_,_,_,_,_,_,_,_,_] _
  obtain ⟨rest,rfl,hO3_⟩:=ord_one (m:=2047) hO2_ rfl 11 (m':=4095) (by decide+kernel) rfl
  clear hO2_
  refine Qaa (v:=bool false) rfl rfl rfl ?_
  obtain ⟨rest,rfl,hO4_⟩:=ord_one (m:=4095) hO3_ rfl 12 (m':=8191) (by decide+kernel) rfl
  clear hO3_
  refine Qaa (v:=bool false) rfl rfl rfl ?_
  obtain ⟨rest,rfl,hO5_⟩:=ord_one (m:=8191) hO4_ rfl 13 (m':=16383) (by decide+kernel) rfl
  clear hO4_
  refine Qaa (v:=pointer (some ⟨b2,0,none⟩)) rfl rfl rfl ?_
  obtain ⟨rest,rfl,hO6_⟩:=ord_one (m:=16383) hO5_ rfl 14 (m':=32767) (by decide+kernel) rfl
  clear hO5_
  refine Qaa (v:=pointer (some ⟨b2,0,none⟩)) rfl rfl rfl ?_
  obtain ⟨rest,rfl,hO7_⟩:=ord_one (m:=32767) hO6_ rfl 15 (m':=65535) (by decide+kernel) rfl
  clear hO6_
  refine Qaa (v:=pointer (some ⟨b2,2,none⟩)) rfl rfl rfl ?_
  obtain ⟨rest,rfl,hO8_⟩:=ord_one (m:=65535) hO7_ rfl 16 (m':=131071) (by decide+kernel) rfl
  clear hO7_
  refine Qaw rfl rfl (v:=v3) rfl rfl (fun _=>rfl) (cells_load (hs.box hp0) 2 1 rfl) ?_
  obtain ⟨rest,rfl,hO9_⟩:=ord_one (m:=131071) hO8_ rfl 17 (m':=262143) (by decide+kernel) rfl
  clear hO8_
  refine Qbp (hs.rd hr4) rfl rfl rfl rfl rfl ?_
  show G _ _ _ _ [_,_,_,_,_,_,_,_,_,_,_,_,_,_,_,_,_,_,_,_,_,_,_,_,_,_,_,_,_,_,_,_,_,_,_,_,_,_,_,_,_,_,_,_,_,_,_,_,_] _
  obtain ⟨rest,rfl,hO10_⟩:=ord_one (m:=262143) hO9_ rfl 18 (m':=524287) (by decide+kernel) rfl
  clear hO9_
  refine QaA (B:=decide ((a1.Qah.length:Int)>60)) rfl rfl rfl ?_ ?_
  ·
   intro hb
   rw [if_pos (b_dec_t hb)] at H
   obtain ⟨rest,rfl,hO11_⟩:=ord_one (m:=524287) hO10_ rfl 19 (m':=1048575) (by decide+kernel) rfl
   clear hO10_
   refine Qaa (v:=bool true) rfl rfl rfl ?_
   show G _ _ _ _ [_,_,_,_,_,_,_,_,_,_,_,_,_,_,_,_,_,_,_,_,_,_,_,_,_,_,_,_,_,_,_,_,_,_,_,_,_,_,_,_,_,_,_,_,_,_,_,_,_] _
   obtain rfl:=ord_end hO11_ rfl (by decide+kernel)
   refine Qab (Qam rfl (Qaf (Qak [0] rfl ?_)))
   refine Qaa (v:=bool false) rfl rfl rfl (Qab ?_)
   obtain rfl:=QsJ H
   refine Qax Tryz.func56 (v:=bool false) (res1 rfl rfl) ?_
   have hs:St _ [] _:=St.take (Γ':=[]) hs
   exact ⟨_,rfl,rfl,hs⟩
  intro hb
  rw [if_neg (b_dec_f hb)] at H
  obtain ⟨rest,rfl,hO12_⟩:=ord_one (m:=524287) hO10_ rfl 19 (m':=1048575) (by decide+kernel) rfl
  clear hO10_
  refine Qaa (v:=bool false) rfl rfl rfl ?_
  obtain rfl:=ord_end hO12_ rfl (by decide+kernel)
  refine Qab (Qap rfl (QaE (Qaf (Qaf (Qak [0] rfl ?_)))))
  refine Qaa (v:=int .i64 0) rfl rfl rfl ?_
  show G _ _ _ _ [_,_,_,_,_,_,_,_,_,_,_,_,_,_,_,_,_,_,_,_,_,_,_,_,_,_,_,_,_,_,_,_,_,_,_,_,_,_,_,_,_,_,_,_,_,_,_,_,_] _
  refine Qab ?_
  obtain ⟨o1_,Ho,Hr1_⟩:=bind_get H
  refine QaF (J:=fun t w=>Qbn.a0 N=some r∧Fr t (fun O=>([O 0,O 1,O 2,O 3,O 4,O 5,O 6,O 7,O 8,O 9,O 10,O 11,O 12,O 13,O 14,O 15,O 16,O 17,O 18,O 19,O 20,O 21,O 22,O 23,O 24,O 25,O 26,O 27,O 28,O 29,O 30,O 31,O 32,O 33,O 34,O 35,O 36,O 37,O 38,O 39,O 40,O 41,O 42,O 43,O 44,O 45,O 46,O 47,O 48]:List Value))∧St w0 [] w) ?_ ?_
  ·
   rintro t w ⟨H,hf,hs⟩
   obtain ⟨O,rfl⟩:=hf.open
   show G _ _ _ _ [_,_,_,_,_,_,_,_,_,_,_,_,_,_,_,_,_,_,_,_,_,_,_,_,_,_,_,_,_,_,_,_,_,_,_,_,_,_,_,_,_,_,_,_,_,_,_,_,_] _
   unfold Qbn.a0 at H
   refine Qaf (Qak [0] rfl ?_)
   refine Qaa (v:=bool true) rfl rfl rfl (Qab ?_)
   obtain rfl:=QsJ H
   refine Qax Tryz.func56 (v:=bool true) (res1 rfl rfl) ?_
   have hs:St _ [] _:=St.take (Γ':=[]) hs
   exact ⟨_,rfl,rfl,hs⟩
  intro ha1_
  have hs:St _ [] _:=St.take (Γ':=[]) hs
  refine QaZ (I:=fun n_ t w=>∃ x7:Int,rounds (fun s=>Qbn.b0 N a1 s) n_ x7=some o1_∧Fr t (fun O=>([pointer (some ⟨b2,0,none⟩),O 1,O 2,int .i64 x7,O 4,O 5,O 6,O 7,O 8,O 9,O 10,O 11,O 12,O 13,O 14,O 15,O 16,O 17,O 18,O 19,O 20,O 21,O 22,O 23,O 24,O 25,O 26,O 27,O 28,O 29,O 30,O 31,O 32,O 33,O 34,O 35,O 36,O 37,O 38,O 39,O 40,O 41,O 42,O 43,O 44,O 45,O 46,O 47,O 48]:List Value))∧St w0 [] w) N ⟨0,Ho,rfl,hs⟩ ?_ ?_
  ·
   rintro _ _ ⟨x7,h,_⟩
   exact rounds_zero h
  intro n_ ih1_
  rintro t w ⟨x7,Ho,hf,hs⟩
  obtain ⟨O,rfl⟩:=hf.open
  show G _ _ _ _ [_,_,_,_,_,_,_,_,_,_,_,_,_,_,_,_,_,_,_,_,_,_,_,_,_,_,_,_,_,_,_,_,_,_,_,_,_,_,_,_,_,_,_,_,_,_,_,_,_] _
  obtain ⟨x18_,H,Hx1_⟩:=rounds_succ Ho
  have H:Qbn.b0 N a1 x7=some x18_:=H
  unfold Qbn.b0 at H
  refine Qaf (Qaf (Qak [0,1,2,3,4,5,6] rfl ?_))
  refine Qaa (v:=int .i64 x7) rfl rfl rfl ?_
  refine Qaa (v:=pointer (some ⟨b2,0,none⟩)) rfl rfl rfl ?_
  refine Qaa (v:=pointer (some ⟨b2,0,none⟩)) rfl rfl rfl ?_
  refine Qaa (v:=pointer (some ⟨b2,2,none⟩)) rfl rfl rfl ?_
  refine Qaw rfl rfl (v:=v3) rfl rfl (fun _=>rfl) (cells_load (hs.box hp0) 2 1 rfl) ?_
  refine Qbp (hs.rd hr4) rfl rfl rfl rfl rfl ?_
  refine QaA (B:=decide (x7< (a1.Qah.length:Int))) rfl rfl rfl ?_ ?_
  ·
   intro hb
   rw [if_pos (b_dec_t hb)] at H
   refine Qab (Qam rfl (QaE (Qaf ?_)))
   refine Qbz (Qaf ?_)
   refine Qcj (n:=16) rfl [0,1,2,3,4,5,6,7,8,9,10,11,12,13,14,15] [0,1,2,3,4,5,6,7,8,9,10,11,12,13,14,15] rfl rfl ?_
   intro rest w hh hbw hO
   have hs:=hs.samew hh hbw
   show G _ _ _ _ [_,_,_,_,_,_,_,_,_,_,_,_,_,_,_,_,_,_,_,_,_,_,_,_,_,_,_,_,_,_,_,_,_,_,_,_,_,_,_,_,_,_,_,_,_,_,_,_,_] _
   obtain ⟨gd14,H⟩:=ite_get H
   obtain ⟨ad15_,ad15_N,ad15_C,had15_⟩:=sl_at (hs.rd hr4) gd14.1 gd14.2
   obtain ⟨r8,Hr8,H⟩:=bind_get H
   refine Qbu ?_
   intro T hT
   refine QbV (m0:=0) hO rfl 16383 [0,1,2,3,4,5,6,7,8,9,10,11,12,13] [0,1,3,7,0,31,63,127,0,256,768,1792,3840,7936,16383,32767] (by decide+kernel) (fun D t w=>∃ O:Nat→Value,t=[pointer (some ⟨b2,0,none⟩),O 1,O 2,int .i64 x7,O 4,O 5,O 6,O 7,O 8,O 9,O 10,O 11,O 12,O 13,O 14,O 15,O 16,O 17,O 18,O 19,O 20,O 21,O 22,O 23,int .i64 x7,pointer (some ⟨b2,0,none⟩),pointer (some ⟨b2,0,none⟩),pointer (some ⟨b2,2,none⟩),v3,int .i64 (a1.Qah.length:Int),bool true,O 31,O 32,cnd (D 0) (pointer (some ⟨b2,0,none⟩)) (O 33),cnd (D 1) (pointer (some ⟨b2,0,none⟩)) (O 34),cnd (D 2) (pointer (some ⟨b2,2,none⟩)) (O 35),cnd (D 3) v3 (O 36),cnd (D 4) (int .i64 x7) (O 37),cnd (D 5) (pointer (some (ad15_.add (x7.toNat*2)))) (O 38),cnd (D 6) (pointer (some ((ad15_.add (x7.toNat*2)).add 0))) (O 39),cnd (D 7) (int .u64 ((rdL a1.Qah x7 Qau).Qbh)) (O 40),cnd (D 8) (pointer (some ⟨b2,0,none⟩)) (O 41),cnd (D 9) (pointer (some ⟨b2,0,none⟩)) (O 42),cnd (D 10) (pointer (some ⟨b2,0,none⟩)) (O 43),cnd (D 11) (int .i8 a1.Qac) (O 44),cnd (D 12) (int .i64 (i64w a1.Qac)) (O 45),cnd (D 13) (int .u64 r8) (O 46),O 47,O 48]∧St w0 [] w) ?_ ⟨?_,⟨?_,⟨?_,⟨?_,⟨?_,⟨?_,⟨?_,⟨?_,⟨?_,⟨?_,⟨?_,⟨?_,⟨?_,⟨?_,trivial⟩⟩⟩⟩⟩⟩⟩⟩⟩⟩⟩⟩⟩⟩ ?_
   ·exact ⟨fun i=>T.getD i undef,(by subst hT;rfl),hs⟩
   ·
    rintro D t w hD hp hcl ⟨O,ht,hs⟩ rest hk
    have hp:AllDone D []:=hp
    have q1_:=ny hcl 1 0 hD
    have q2_:=ny hcl 2 0 q1_
    have q3_:=ny hcl 3 0 q2_
    have q5_:=ny hcl 5 0 q3_
    have q6_:=ny hcl 6 0 q5_
    have q7_:=ny hcl 7 0 q6_
    simp only [hD,q1_,q2_,q3_,q5_,q6_,q7_,cq,oT] at ht hs
    subst ht
    refine Qaa (v:=pointer (some ⟨b2,0,none⟩)) rfl rfl rfl ?_
    show G _ _ _ _ [_,_,_,_,_,_,_,_,_,_,_,_,_,_,_,_,_,_,_,_,_,_,_,_,_,_,_,_,_,_,_,_,_,_,_,_,_,_,_,_,_,_,_,_,_,_,_,_,_] _
    refine hk _ _ ⟨O,?_,hs.cast ?_⟩<;>simp only [oT,lq,cq,Nat.reduceBEq,q1_,q2_,q3_,q5_,q6_,q7_]
   ·
    rintro D t w hD hp hcl ⟨O,ht,hs⟩ rest hk
    have hp:AllDone D [0]:=hp
    obtain ⟨p0_,_⟩:=hp
    have q2_:=ny hcl 2 0 hD
    have q3_:=ny hcl 3 0 q2_
    have q5_:=ny hcl 5 0 q3_
    have q6_:=ny hcl 6 0 q5_
    have q7_:=ny hcl 7 0 q6_
    simp only [hD,p0_,q2_,q3_,q5_,q6_,q7_,cq,oT] at ht hs
    subst ht
    refine Qaa (v:=pointer (some ⟨b2,0,none⟩)) rfl rfl rfl ?_
    show G _ _ _ _ [_,_,_,_,_,_,_,_,_,_,_,_,_,_,_,_,_,_,_,_,_,_,_,_,_,_,_,_,_,_,_,_,_,_,_,_,_,_,_,_,_,_,_,_,_,_,_,_,_] _
    refine hk _ _ ⟨O,?_,hs.cast ?_⟩<;>simp only [oT,lq,cq,Nat.reduceBEq,p0_,q2_,q3_,q5_,q6_,q7_]
   ·
    rintro D t w hD hp hcl ⟨O,ht,hs⟩ rest hk
    have hp:AllDone D [1]:=hp
    obtain ⟨p1_,_⟩:=hp
    obtain ⟨p0_,_⟩:=(show D 1=true→AllDone D [0] from hcl 1 (by decide)) p1_
    have q3_:=ny hcl 3 0 hD
    have q5_:=ny hcl 5 0 q3_
    have q6_:=ny hcl 6 0 q5_
    have q7_:=ny hcl 7 0 q6_
    simp only [hD,p0_,p1_,q3_,q5_,q6_,q7_,cq,oT] at ht hs
    subst ht
    refine Qaa (v:=pointer (some ⟨b2,2,none⟩)) rfl rfl rfl ?_
    show G _ _ _ _ [_,_,_,_,_,_,_,_,_,_,_,_,_,_,_,_,_,_,_,_,_,_,_,_,_,_,_,_,_,_,_,_,_,_,_,_,_,_,_,_,_,_,_,_,_,_,_,_,_] _
    refine hk _ _ ⟨O,?_,hs.cast ?_⟩<;>simp only [oT,lq,cq,Nat.reduceBEq,p0_,p1_,q3_,q5_,q6_,q7_]
   ·
    rintro D t w hD hp hcl ⟨O,ht,hs⟩ rest hk
    have hp:AllDone D [2]:=hp
    obtain ⟨p2_,_⟩:=hp
    obtain ⟨p1_,_⟩:=(show D 2=true→AllDone D [1] from hcl 2 (by decide)) p2_
    obtain ⟨p0_,_⟩:=(show D 1=true→AllDone D [0] from hcl 1 (by decide)) p1_
    have q5_:=ny hcl 5 0 hD
    have q6_:=ny hcl 6 0 q5_
    have q7_:=ny hcl 7 0 q6_
    simp only [hD,p0_,p1_,p2_,q5_,q6_,q7_,cq,oT] at ht hs
    subst ht
    refine Qaw rfl rfl (v:=v3) rfl rfl (fun _=>rfl) (cells_load (hs.box hp0) 2 1 rfl) ?_
    show G _ _ _ _ [_,_,_,_,_,_,_,_,_,_,_,_,_,_,_,_,_,_,_,_,_,_,_,_,_,_,_,_,_,_,_,_,_,_,_,_,_,_,_,_,_,_,_,_,_,_,_,_,_] _
    refine hk _ _ ⟨O,?_,hs.cast ?_⟩<;>simp only [oT,lq,cq,Nat.reduceBEq,p0_,p1_,p2_,q5_,q6_,q7_]
   ·
    rintro D t w hD hp hcl ⟨O,ht,hs⟩ rest hk
    have hp:AllDone D []:=hp
    have q5_:=ny hcl 5 1 hD
    have q6_:=ny hcl 6 0 q5_
    have q7_:=ny hcl 7 0 q6_
    simp only [hD,q5_,q6_,q7_,cq,oT] at ht hs
    subst ht
    refine Qaa (v:=int .i64 x7) rfl rfl rfl ?_
    show G _ _ _ _ [_,_,_,_,_,_,_,_,_,_,_,_,_,_,_,_,_,_,_,_,_,_,_,_,_,_,_,_,_,_,_,_,_,_,_,_,_,_,_,_,_,_,_,_,_,_,_,_,_] _
    refine hk _ _ ⟨O,?_,hs.cast ?_⟩<;>simp only [oT,lq,cq,Nat.reduceBEq,q5_,q6_,q7_]
   ·
    rintro D t w hD hp hcl ⟨O,ht,hs⟩ rest hk
    have hp:AllDone D [3,4]:=hp
    obtain ⟨p3_,p4_,_⟩:=hp
    obtain ⟨p2_,_⟩:=(show D 3=true→AllDone D [2] from hcl 3 (by decide)) p3_
    obtain ⟨p1_,_⟩:=(show D 2=true→AllDone D [1] from hcl 2 (by decide)) p2_
    obtain ⟨p0_,_⟩:=(show D 1=true→AllDone D [0] from hcl 1 (by decide)) p1_
    have q6_:=ny hcl 6 0 hD
    have q7_:=ny hcl 7 0 q6_
    simp only [hD,p0_,p1_,p2_,p3_,p4_,q6_,q7_,cq,oT] at ht hs
    subst ht
    refine Qcn (κ:=Qao) (m:=2) rfl (hs.rd hr4) rfl (fun _=>rfl) gd14.1 gd14.2 had15_ rfl rfl rfl rfl rfl ?_
    show G _ _ _ _ [_,_,_,_,_,_,_,_,_,_,_,_,_,_,_,_,_,_,_,_,_,_,_,_,_,_,_,_,_,_,_,_,_,_,_,_,_,_,_,_,_,_,_,_,_,_,_,_,_] _
    refine hk _ _ ⟨O,?_,hs.cast ?_⟩<;>simp only [oT,lq,cq,Nat.reduceBEq,p0_,p1_,p2_,p3_,p4_,q6_,q7_]
   ·
    rintro D t w hD hp hcl ⟨O,ht,hs⟩ rest hk
    have hp:AllDone D [5]:=hp
    obtain ⟨p5_,_⟩:=hp
    obtain ⟨p3_,p4_,_⟩:=(show D 5=true→AllDone D [3,4] from hcl 5 (by decide)) p5_
    obtain ⟨p2_,_⟩:=(show D 3=true→AllDone D [2] from hcl 3 (by decide)) p3_
    obtain ⟨p1_,_⟩:=(show D 2=true→AllDone D [1] from hcl 2 (by decide)) p2_
    obtain ⟨p0_,_⟩:=(show D 1=true→AllDone D [0] from hcl 1 (by decide)) p1_
    have q7_:=ny hcl 7 0 hD
    simp only [hD,p0_,p1_,p2_,p3_,p4_,p5_,q7_,cq,oT] at ht hs
    subst ht
    refine Qaa (v:=pointer (some ((ad15_.add (x7.toNat*2)).add 0))) rfl rfl (QcE rfl rfl rfl rfl rfl (m:=1) (fun _=>rfl) (by decide)) ?_
    show G _ _ _ _ [_,_,_,_,_,_,_,_,_,_,_,_,_,_,_,_,_,_,_,_,_,_,_,_,_,_,_,_,_,_,_,_,_,_,_,_,_,_,_,_,_,_,_,_,_,_,_,_,_] _
    refine hk _ _ ⟨O,?_,hs.cast ?_⟩<;>simp only [oT,lq,cq,Nat.reduceBEq,p0_,p1_,p2_,p3_,p4_,p5_,q7_]
   ·
    rintro D t w hD hp hcl ⟨O,ht,hs⟩ rest hk
    have hp:AllDone D [6]:=hp
    obtain ⟨p6_,_⟩:=hp
    obtain ⟨p5_,_⟩:=(show D 6=true→AllDone D [5] from hcl 6 (by decide)) p6_
    obtain ⟨p3_,p4_,_⟩:=(show D 5=true→AllDone D [3,4] from hcl 5 (by decide)) p5_
    obtain ⟨p2_,_⟩:=(show D 3=true→AllDone D [2] from hcl 3 (by decide)) p3_
    obtain ⟨p1_,_⟩:=(show D 2=true→AllDone D [1] from hcl 2 (by decide)) p2_
    obtain ⟨p0_,_⟩:=(show D 1=true→AllDone D [0] from hcl 1 (by decide)) p1_
    simp only [hD,p0_,p1_,p2_,p3_,p4_,p5_,p6_,cq,oT] at ht hs
    subst ht
    refine Qaw rfl rfl (v:=int .u64 ((rdL a1.Qah x7 Qau).Qbh)) rfl rfl (fun _=>rfl) (CellsAt.sub (cellsAt_of QaX Qau (hs.rd hr4) had15_ gd14.1 gd14.2) 0 1 (by first|rfl|(simp [QaC,List.drop_append,List.take_append,encAI_len,encAB_len,encA_len,List.take_of_length_le,List.drop_eq_nil_of_le]))) ?_
    show G _ _ _ _ [_,_,_,_,_,_,_,_,_,_,_,_,_,_,_,_,_,_,_,_,_,_,_,_,_,_,_,_,_,_,_,_,_,_,_,_,_,_,_,_,_,_,_,_,_,_,_,_,_] _
    refine hk _ _ ⟨O,?_,hs.cast ?_⟩<;>simp only [oT,lq,cq,Nat.reduceBEq,p0_,p1_,p2_,p3_,p4_,p5_,p6_]
   ·
    rintro D t w hD hp hcl ⟨O,ht,hs⟩ rest hk
    have hp:AllDone D []:=hp
    have q9_:=ny hcl 9 0 hD
    have q10_:=ny hcl 10 0 q9_
    have q11_:=ny hcl 11 0 q10_
    have q12_:=ny hcl 12 0 q11_
    have q13_:=ny hcl 13 0 q12_
    simp only [hD,q9_,q10_,q11_,q12_,q13_,cq,oT] at ht hs
    subst ht
    refine Qaa (v:=pointer (some ⟨b2,0,none⟩)) rfl rfl rfl ?_
    show G _ _ _ _ [_,_,_,_,_,_,_,_,_,_,_,_,_,_,_,_,_,_,_,_,_,_,_,_,_,_,_,_,_,_,_,_,_,_,_,_,_,_,_,_,_,_,_,_,_,_,_,_,_] _
    refine hk _ _ ⟨O,?_,hs.cast ?_⟩<;>simp only [oT,lq,cq,Nat.reduceBEq,q9_,q10_,q11_,q12_,q13_]
   ·
    rintro D t w hD hp hcl ⟨O,ht,hs⟩ rest hk
    have hp:AllDone D [8]:=hp
    obtain ⟨p8_,_⟩:=hp
    have q10_:=ny hcl 10 0 hD
    have q11_:=ny hcl 11 0 q10_
    have q12_:=ny hcl 12 0 q11_
    have q13_:=ny hcl 13 0 q12_
    simp only [hD,p8_,q10_,q11_,q12_,q13_,cq,oT] at ht hs
    subst ht
    refine Qaa (v:=pointer (some ⟨b2,0,none⟩)) rfl rfl rfl ?_
    show G _ _ _ _ [_,_,_,_,_,_,_,_,_,_,_,_,_,_,_,_,_,_,_,_,_,_,_,_,_,_,_,_,_,_,_,_,_,_,_,_,_,_,_,_,_,_,_,_,_,_,_,_,_] _
    refine hk _ _ ⟨O,?_,hs.cast ?_⟩<;>simp only [oT,lq,cq,Nat.reduceBEq,p8_,q10_,q11_,q12_,q13_]
   ·
    rintro D t w hD hp hcl ⟨O,ht,hs⟩ rest hk
    have hp:AllDone D [9]:=hp
    obtain ⟨p9_,_⟩:=hp
    obtain ⟨p8_,_⟩:=(show D 9=true→AllDone D [8] from hcl 9 (by decide)) p9_
    have q11_:=ny hcl 11 0 hD
    have q12_:=ny hcl 12 0 q11_
    have q13_:=ny hcl 13 0 q12_
    simp only [hD,p8_,p9_,q11_,q12_,q13_,cq,oT] at ht hs
    subst ht
    refine Qaa (v:=pointer (some ⟨b2,0,none⟩)) rfl rfl rfl ?_
    show G _ _ _ _ [_,_,_,_,_,_,_,_,_,_,_,_,_,_,_,_,_,_,_,_,_,_,_,_,_,_,_,_,_,_,_,_,_,_,_,_,_,_,_,_,_,_,_,_,_,_,_,_,_] _
    refine hk _ _ ⟨O,?_,hs.cast ?_⟩<;>simp only [oT,lq,cq,Nat.reduceBEq,p8_,p9_,q11_,q12_,q13_]
   ·
    rintro D t w hD hp hcl ⟨O,ht,hs⟩ rest hk
    have hp:AllDone D [10]:=hp
    obtain ⟨p10_,_⟩:=hp
    obtain ⟨p9_,_⟩:=(show D 10=true→AllDone D [9] from hcl 10 (by decide)) p10_
    obtain ⟨p8_,_⟩:=(show D 9=true→AllDone D [8] from hcl 9 (by decide)) p9_
    have q12_:=ny hcl 12 0 hD
    have q13_:=ny hcl 13 0 q12_
    simp only [hD,p8_,p9_,p10_,q12_,q13_,cq,oT] at ht hs
    subst ht
    refine Qaw rfl rfl (v:=int .i8 a1.Qac) rfl rfl (fun _=>rfl) (cells_load (hs.box hp0) 0 1 rfl) ?_
    show G _ _ _ _ [_,_,_,_,_,_,_,_,_,_,_,_,_,_,_,_,_,_,_,_,_,_,_,_,_,_,_,_,_,_,_,_,_,_,_,_,_,_,_,_,_,_,_,_,_,_,_,_,_] _
    refine hk _ _ ⟨O,?_,hs.cast ?_⟩<;>simp only [oT,lq,cq,Nat.reduceBEq,p8_,p9_,p10_,q12_,q13_]
   ·
    rintro D t w hD hp hcl ⟨O,ht,hs⟩ rest hk
    have hp:AllDone D [11]:=hp
    obtain ⟨p11_,_⟩:=hp
    obtain ⟨p10_,_⟩:=(show D 11=true→AllDone D [10] from hcl 11 (by decide)) p11_
    obtain ⟨p9_,_⟩:=(show D 10=true→AllDone D [9] from hcl 10 (by decide)) p10_
    obtain ⟨p8_,_⟩:=(show D 9=true→AllDone D [8] from hcl 9 (by decide)) p9_
    have q13_:=ny hcl 13 0 hD
    simp only [hD,p8_,p9_,p10_,p11_,q13_,cq,oT] at ht hs
    subst ht
    refine Qaa (v:=int .i64 (i64w a1.Qac)) rfl rfl rfl ?_
    show G _ _ _ _ [_,_,_,_,_,_,_,_,_,_,_,_,_,_,_,_,_,_,_,_,_,_,_,_,_,_,_,_,_,_,_,_,_,_,_,_,_,_,_,_,_,_,_,_,_,_,_,_,_] _
    refine hk _ _ ⟨O,?_,hs.cast ?_⟩<;>simp only [oT,lq,cq,Nat.reduceBEq,p8_,p9_,p10_,p11_,q13_]
   ·
    rintro D t w hD hp hcl ⟨O,ht,hs⟩ rest hk
    have hp:AllDone D [12]:=hp
    obtain ⟨p12_,_⟩:=hp
    obtain ⟨p11_,_⟩:=(show D 12=true→AllDone D [11] from hcl 12 (by decide)) p12_
    obtain ⟨p10_,_⟩:=(show D 11=true→AllDone D [10] from hcl 11 (by decide)) p11_
    obtain ⟨p9_,_⟩:=(show D 10=true→AllDone D [9] from hcl 10 (by decide)) p10_
    obtain ⟨p8_,_⟩:=(show D 9=true→AllDone D [8] from hcl 9 (by decide)) p9_
    simp only [hD,p8_,p9_,p10_,p11_,p12_,cq,oT] at ht hs
    subst ht
    refine Qas (args:=[int .i64 (i64w a1.Qac)]) rfl rfl (Qat rfl (callFunc_enter Tryz.func93 rfl rfl) rfl) (QbT.calls (a1:=i64w a1.Qac) Hr8) ?_
    rintro _ w ⟨rfl,hs2⟩
    have hs:St _ [] _:=hs.call hs2
    show G _ _ _ _ [_,_,_,_,_,_,_,_,_,_,_,_,_,_,_,_,_,_,_,_,_,_,_,_,_,_,_,_,_,_,_,_,_,_,_,_,_,_,_,_,_,_,_,_,_,_,_,_,_] _
    refine hk _ _ ⟨O,?_,hs.cast ?_⟩<;>simp only [oT,lq,cq,Nat.reduceBEq,p8_,p9_,p10_,p11_,p12_]
   intro D t w rest hall hO13_ hI
   obtain ⟨O,ht,hs⟩:=hI
   have p0_:=hall 0 (by decide) rfl
   have p1_:=hall 1 (by decide) rfl
   have p2_:=hall 2 (by decide) rfl
   have p3_:=hall 3 (by decide) rfl
   have p4_:=hall 4 (by decide) rfl
   have p5_:=hall 5 (by decide) rfl
   have p6_:=hall 6 (by decide) rfl
   have p7_:=hall 7 (by decide) rfl
   have p8_:=hall 8 (by decide) rfl
   have p9_:=hall 9 (by decide) rfl
   have p10_:=hall 10 (by decide) rfl
   have p11_:=hall 11 (by decide) rfl
   have p12_:=hall 12 (by decide) rfl
   have p13_:=hall 13 (by decide) rfl
   simp only [p0_,p1_,p2_,p3_,p4_,p5_,p6_,p7_,p8_,p9_,p10_,p11_,p12_,p13_,cq,oT] at ht hs
   subst ht
   obtain ⟨rest,rfl,hO16_⟩:=ord_one (m:=16383) hO13_ rfl 14 (m':=32767) (by decide+kernel) rfl
   clear hO13_
   refine Qaa (v:=int .u64 (bAndNot .u64 ((rdL a1.Qah x7 Qau).Qbh) r8)) rfl rfl rfl ?_
   obtain ⟨rest,rfl,hO17_⟩:=ord_one (m:=32767) hO16_ rfl 15 (m':=65535) (by decide+kernel) rfl
   clear hO16_
   refine QaA (B:=(bAndNot .u64 ((rdL a1.Qah x7 Qau).Qbh) r8) !=0) rfl rfl rfl ?_ ?_
   ·
    intro hb
    rw [if_neg (b_bne_t hb)] at H
    show G _ _ _ _ [_,_,_,_,_,_,_,_,_,_,_,_,_,_,_,_,_,_,_,_,_,_,_,_,_,_,_,_,_,_,_,_,_,_,_,_,_,_,_,_,_,_,_,_,_,_,_,_,_] _
    obtain rfl:=ord_end hO17_ rfl (by decide+kernel)
    refine Qab (Qam rfl (Qaf (Qak [0] rfl ?_)))
    refine Qaa (v:=bool false) rfl rfl rfl (Qab ?_)
    obtain rfl:=QsJ H
    subst Hx1_
    have H:=QsJ Hr1_
    subst H
    refine Qax Tryz.func56 (v:=bool false) (res1 rfl rfl) ?_
    have hs:St _ [] _:=St.take (Γ':=[]) hs
    exact ⟨_,rfl,rfl,hs⟩
   intro hb
   rw [if_pos (b_bne_f hb)] at H
   show G _ _ _ _ [_,_,_,_,_,_,_,_,_,_,_,_,_,_,_,_,_,_,_,_,_,_,_,_,_,_,_,_,_,_,_,_,_,_,_,_,_,_,_,_,_,_,_,_,_,_,_,_,_] _
   obtain rfl:=ord_end hO17_ rfl (by decide+kernel)
   refine Qab (Qap rfl (QaE ?_))
   refine QaH (Qak [0,1,2] rfl ?_)
   refine Qaa (v:=int .i64 x7) rfl rfl rfl ?_
   refine Qaa (v:=int .i64 (i64w (x7+1))) rfl rfl rfl ?_
   refine Qaa (v:=int .i64 (i64w (x7+1))) rfl rfl rfl (Qab ?_)
   obtain rfl:=QsJ H
   have hs:St _ [] _:=St.take (Γ':=[]) hs
   exact ih1_ _ _ ⟨i64w (x7+1),Hx1_,rfl,hs⟩
  intro hb
  rw [if_neg (b_dec_f hb)] at H
  show G _ _ _ _ [_,_,_,_,_,_,_,_,_,_,_,_,_,_,_,_,_,_,_,_,_,_,_,_,_,_,_,_,_,_,_,_,_,_,_,_,_,_,_,_,_,_,_,_,_,_,_,_,_] _
  refine Qab (Qap rfl ?_)
  obtain rfl:=QsJ H
  subst Hx1_
  have hs:St _ [] _:=St.take (Γ':=[]) hs
  refine Qbq rfl ?_
  exact ha1_ _ _ ⟨Hr1_,rfl,hs⟩
 |false=>
  rw [if_neg Bool.false_ne_true] at H
  obtain ⟨rest,rfl,hO19_⟩:=ord_one (m:=2047) hO2_ rfl 11 (m':=4095) (by decide+kernel) rfl
  clear hO2_
  refine Qaa (v:=bool true) rfl rfl rfl ?_
  obtain ⟨rest,rfl,hO20_⟩:=ord_one (m:=4095) hO19_ rfl 12 (m':=8191) (by decide+kernel) rfl
  clear hO19_
  refine Qaa (v:=bool true) rfl rfl rfl ?_
  obtain ⟨rest,rfl,hO21_⟩:=ord_one (m:=8191) hO20_ rfl 13 (m':=16383) (by decide+kernel) rfl
  clear hO20_
  refine Qad rfl rfl ?_
  obtain ⟨rest,rfl,hO22_⟩:=ord_one (m:=16383) hO21_ rfl 14 (m':=32767) (by decide+kernel) rfl
  clear hO21_
  refine Qad rfl rfl ?_
  obtain ⟨rest,rfl,hO23_⟩:=ord_one (m:=32767) hO22_ rfl 15 (m':=65535) (by decide+kernel) rfl
  clear hO22_
  refine Qad rfl rfl ?_
  obtain ⟨rest,rfl,hO24_⟩:=ord_one (m:=65535) hO23_ rfl 16 (m':=131071) (by decide+kernel) rfl
  clear hO23_
  refine Qad rfl rfl ?_
  show G _ _ _ _ [_,_,_,_,_,_,_,_,_,_,_,_,_,_,_,_,_,_,_,_,_,_,_,_,_,_,_,_,_,_,_,_,_,_,_,_,_,_,_,_,_,_,_,_,_,_,_,_,_] _
  obtain ⟨rest,rfl,hO25_⟩:=ord_one (m:=131071) hO24_ rfl 17 (m':=262143) (by decide+kernel) rfl
  clear hO24_
  refine Qad rfl rfl ?_
  obtain ⟨rest,rfl,hO26_⟩:=ord_one (m:=262143) hO25_ rfl 18 (m':=524287) (by decide+kernel) rfl
  clear hO25_
  refine Qad rfl rfl ?_
  obtain ⟨rest,rfl,hO27_⟩:=ord_one (m:=524287) hO26_ rfl 19 (m':=1048575) (by decide+kernel) rfl
  clear hO26_
  refine Qaa (v:=bool true) rfl rfl rfl ?_
  show G _ _ _ _ [_,_,_,_,_,_,_,_,_,_,_,_,_,_,_,_,_,_,_,_,_,_,_,_,_,_,_,_,_,_,_,_,_,_,_,_,_,_,_,_,_,_,_,_,_,_,_,_,_] _
  obtain rfl:=ord_end hO27_ rfl (by decide+kernel)
  refine Qab (Qam rfl (Qaf (Qak [0] rfl ?_)))
  refine Qaa (v:=bool false) rfl rfl rfl (Qab ?_)
  obtain rfl:=QsJ H
  refine Qax Tryz.func56 (v:=bool false) (res1 rfl rfl) ?_
  have hs:St _ [] _:=St.take (Γ':=[]) hs
  exact ⟨_,rfl,rfl,hs⟩
def QbJ.post (w0:World) (r:((List Int)×Int)) (v:Value) (w:World):Prop:=∃ u1:Value,v=tuple #[u1,int .i64 r.2]∧St w0 [Row 2 (K.int .i64) u1 r.1] w
theorem QbJ.calls {N:Nat} {a1:Qag} {v2:Value} {w0:World} {r:((List Int)×Int)} (hr3:RdRow Qao w0 v2 a1.Qah) (H:QbJ.f N a1=some r):
 Calls Tryz.prog 19 #[agg (([int .i8 a1.Qac,int .i8 a1.Qae,v2]:List Value)).toArray] w0 fun e w=>∃ v,e= .returned v∧QbJ.post w0 r v w:=by
 unfold QbJ.f at H
 have hs:St w0 [] w0:=St.refl w0
 refine calls_of_g (n:=7) Tryz.func19 rfl rfl ?_
 show G _ _ _ _ [_,_,_,_,_,_,_,_] _
 refine Qaf (Qak [0,1,2] rfl ?_)
 refine Qbx hs rfl rfl (cs:=(([int .i8 a1.Qac,int .i8 a1.Qae,v2]:List Value))) rfl rfl ?_
 intro b4 w hs
 refine Qaa (v:=slice none 0 0) rfl rfl rfl ?_
 refine Qaa (v:=int .i64 0) rfl rfl rfl ?_
 show G _ _ _ _ [_,_,_,_,_,_,_,_] _
 refine Qab (Qaf (Qaf (Qak [0,1] rfl ?_)))
 obtain ⟨r6,Hr6,H⟩:=bind_get H
 refine Qas (args:=[pointer (some ⟨b4,0,none⟩)]) rfl rfl (Qat rfl (callFunc_enter Tryz.func56 rfl rfl) rfl) (Qbn.calls (a1:=(⟨a1.Qac,a1.Qae,a1.Qah⟩:Qag)) (hs.rd hr3) (hs.cells 0 rfl) Hr6) ?_
 rintro _ w ⟨rfl,hs2⟩
 have hs:St _ [_] _:=hs.call hs2
 cases r6 with
 |true=>
  rw [if_pos rfl] at H
  show G _ _ _ _ [_,_,_,_,_,_,_,_] _
  refine Qaa (v:=bool false) rfl rfl rfl (Qab (Qap rfl (QaE (Qaf (Qak [0,1,2] rfl ?_)))))
  obtain ⟨r7,Hr7,H⟩:=bind_get H
  refine Qas (args:=[pointer (some ⟨b4,0,none⟩)]) rfl rfl (Qat rfl (callFunc_enter Tryz.func57 rfl rfl) rfl) (QaN.calls (a1:=(⟨a1.Qac,a1.Qae,a1.Qah⟩:Qag)) (hs.rd hr3) (hs.cells 0 rfl) Hr7) ?_
  intro v8 w hs2
  have hs:St _ [_,_] _:=hs.call hs2
  refine Qaa (v:=v8) rfl rfl rfl ?_
  show G _ _ _ _ [_,_,_,_,_,_,_,_] _
  refine Qaa (v:=int .i64 0) rfl rfl rfl (Qab ?_)
  obtain rfl:=QsJ H
  refine Qax Tryz.func19 (v:=tuple #[v8,int .i64 0]) (resN (l:=Tryz.f19.results.toList) (vs:=[v8,int .i64 0]) rfl ⟨rfl,rfl,trivial⟩ (by simp)) ?_
  have hs:=hs.pull 0 rfl
  have hs:St _ [_] _:=St.take (Γ':=[_]) hs
  exact ⟨_,rfl,v8,rfl,hs⟩
 |false=>
  rw [if_neg Bool.false_ne_true] at H
  refine Qaa (v:=bool true) rfl rfl rfl (Qab (Qam rfl (Qaf (Qak [0,1,2] rfl ?_))))
  refine QcB (κ:=(K.int .i64)) hs rfl rfl rfl rfl (fun _=>rfl) ?_
  intro v10 w hs
  show G _ _ _ _ [_,_,_,_,_,_,_,_] _
  refine Qaa (v:=v10) rfl rfl rfl ?_
  refine Qaa (v:=int .i64 1) rfl rfl rfl (Qab ?_)
  obtain rfl:=QsJ H
  refine Qax Tryz.func19 (v:=tuple #[v10,int .i64 1]) (resN (l:=Tryz.f19.results.toList) (vs:=[v10,int .i64 1]) rfl ⟨rfl,rfl,trivial⟩ (by simp)) ?_
  have hs:=hs.pull 0 rfl
  have hs:St _ [_] _:=St.take (Γ':=[_]) hs
  exact ⟨_,rfl,v10,rfl,hs⟩
def QbZ.post (w0:World) (r:((Ar Int 4)×Int)) (v:Value) (w:World):Prop:=v=tuple #[agg ((encA (encI .i64)) r.1).toArray,int .i64 r.2]∧St w0 [] w
theorem QbZ.calls {N:Nat} {a1:Qag} {v2:Value} {w0:World} {r:((Ar Int 4)×Int)} (hr3:RdRow Qao w0 v2 a1.Qah) (H:QbZ.f N a1=some r):
 Calls Tryz.prog 20 #[agg (([int .i8 a1.Qac,int .i8 a1.Qae,v2]:List Value)).toArray] w0 fun e w=>∃ v,e= .returned v∧QbZ.post w0 r v w:=by
 unfold QbZ.f at H
 have hs:St w0 [] w0:=St.refl w0
 refine calls_of_g (n:=9) Tryz.func20 rfl rfl ?_
 show G _ _ _ _ [_,_,_,_,_,_,_,_,_,_] _
 refine Qaf (Qak [0,1,2] rfl ?_)
 refine Qbx hs rfl rfl (cs:=(([int .i8 a1.Qac,int .i8 a1.Qae,v2]:List Value))) rfl rfl ?_
 intro b4 w hs
 show G _ _ _ _ [_,_,_,_,_,_,_,_,_,_] _
 refine Qa5 hs rfl rfl (z:=(agg #[int .i64 0,int .i64 0,int .i64 0,int .i64 0])) (cs:=((encA (encI .i64)) (Ar.rep 4 0))) rfl (fun _=>rfl) rfl ?_
 intro b6 w hs
 refine Qaa (v:=int .i64 0) rfl rfl rfl (Qab (Qaf (Qaf (Qak [0,1,2] rfl ?_))))
 refine QaG rfl rfl (es:=(([int .i8 a1.Qac,int .i8 a1.Qae,v2]:List Value))) rfl rfl (fun _=>rfl) (n:=3) (fun _=>rfl) rfl (cells_all (hs.cells 1 rfl)) ?_
 show G _ _ _ _ [_,_,_,_,_,_,_,_,_,_] _
 obtain ⟨r8,Hr8,H⟩:=bind_get H
 refine Qas (args:=[agg (([int .i8 a1.Qac,int .i8 a1.Qae,v2]:List Value)).toArray]) rfl rfl (Qat rfl (callFunc_enter Tryz.func14 rfl rfl) rfl) (Qa1.calls (a1:=(⟨a1.Qac,a1.Qae,a1.Qah⟩:Qag)) (hs.rd hr3) Hr8) ?_
 rintro _ w ⟨rfl,hs2⟩
 have hs:St _ [_,_] _:=hs.call hs2
 cases r8 with
 |true=>
  rw [if_pos rfl] at H
  refine Qaa (v:=bool false) rfl rfl rfl (Qab (Qap rfl (QaE (Qaf (Qak [0,1,2,3] rfl ?_)))))
  refine QaG rfl rfl (es:=(([int .i8 a1.Qac,int .i8 a1.Qae,v2]:List Value))) rfl rfl (fun _=>rfl) (n:=3) (fun _=>rfl) rfl (cells_all (hs.cells 1 rfl)) ?_
  show G _ _ _ _ [_,_,_,_,_,_,_,_,_,_] _
  obtain ⟨r9,Hr9,H⟩:=bind_get H
  refine Qas (args:=[agg (([int .i8 a1.Qac,int .i8 a1.Qae,v2]:List Value)).toArray]) rfl rfl (Qat rfl (callFunc_enter Tryz.func58 rfl rfl) rfl) (QaD.calls (a1:=(⟨a1.Qac,a1.Qae,a1.Qah⟩:Qag)) (hs.rd hr3) Hr9) ?_
  rintro _ w ⟨rfl,hs2⟩
  have hs:St _ [_,_] _:=hs.call hs2
  refine QaB (n:=4) hs ((fkA (n:=4) (he:=(fkI .i64).len) (h1:=(fkI .i64).one)).len _) rfl rfl (vs:=((encA (encI .i64)) r9)) rfl rfl rfl (fun _=>rfl) ((fkA (n:=4) (he:=(fkI .i64).len) (h1:=(fkI .i64).one)).len _) ((fkA (n:=4) (he:=(fkI .i64).len) (h1:=(fkI .i64).one)).one _) ?_
  intro w hs
  refine Qaa (v:=int .i64 0) rfl rfl rfl (Qab ?_)
  obtain rfl:=QsJ H
  refine Qax Tryz.func20 (v:=tuple #[agg ((encA (encI .i64)) r9).toArray,int .i64 0]) (resN (l:=Tryz.f20.results.toList) (vs:=[agg ((encA (encI .i64)) r9).toArray,int .i64 0]) rfl ⟨⟨_,rfl,(run_loadVar_agg (es:=((encA (encI .i64)) r9)) rfl (congrArg (Result.ok · _) ((fkA (n:=4) (he:=(fkI .i64).len) (h1:=(fkI .i64).one)).len _).symm) (cells_all (hs.cells 0 rfl)))⟩,rfl,trivial⟩ (by simp)) ?_
  have hs:St _ [] _:=St.take (Γ':=[_,_]) hs
  exact ⟨_,rfl,rfl,hs⟩
 |false=>
  rw [if_neg Bool.false_ne_true] at H
  refine Qaa (v:=bool true) rfl rfl rfl (Qab (Qam rfl (Qaf (Qak [0,1,2] rfl ?_))))
  refine Qaa (v:=agg ((encA (encI .i64)) (Ar.rep 4 0)).toArray) rfl rfl (Qb7 rfl rfl) ?_
  show G _ _ _ _ [_,_,_,_,_,_,_,_,_,_] _
  refine QaB (n:=4) hs ((fkA (n:=4) (he:=(fkI .i64).len) (h1:=(fkI .i64).one)).len _) rfl rfl (vs:=((encA (encI .i64)) (Ar.rep 4 0))) rfl rfl rfl (fun _=>rfl) ((fkA (n:=4) (he:=(fkI .i64).len) (h1:=(fkI .i64).one)).len _) ((fkA (n:=4) (he:=(fkI .i64).len) (h1:=(fkI .i64).one)).one _) ?_
  intro w hs
  refine Qaa (v:=int .i64 1) rfl rfl rfl (Qab ?_)
  obtain rfl:=QsJ H
  refine Qax Tryz.func20 (v:=tuple #[agg ((encA (encI .i64)) (Ar.rep 4 0)).toArray,int .i64 1]) (resN (l:=Tryz.f20.results.toList) (vs:=[agg ((encA (encI .i64)) (Ar.rep 4 0)).toArray,int .i64 1]) rfl ⟨⟨_,rfl,(run_loadVar_agg (es:=((encA (encI .i64)) (Ar.rep 4 0))) rfl (congrArg (Result.ok · _) ((fkA (n:=4) (he:=(fkI .i64).len) (h1:=(fkI .i64).one)).len _).symm) (cells_all (hs.cells 0 rfl)))⟩,rfl,trivial⟩ (by simp)) ?_
  have hs:St _ [] _:=St.take (Γ':=[_,_]) hs
  exact ⟨_,rfl,rfl,hs⟩
end Go.Proofs.YtdnipilfcjkfoaaGreatDoorX
