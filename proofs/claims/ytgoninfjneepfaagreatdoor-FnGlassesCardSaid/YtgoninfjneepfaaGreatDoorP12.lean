import Derived.Test.YtgoninfjneepfaaGreatDoorP11
namespace Go.Proofs.YtgoninfjneepfaaGreatDoorX
open Go Go.RowKit Go.Proofs
open Go.Value (int pointer bool agg slice string tuple)
set_option maxHeartbeats 8000000
set_option maxRecDepth 100000
set_option linter.unusedVariables false
set_option linter.unusedSimpArgs false
def Qai.post (wb:World) (Z:As) (b6:Nat) (v10:Value) (mm12:(List (Option Nat))) (b9:Nat) (v10:Value) (r:(Int×(List (Option (List ((Ar Int 4)×Int))))×(List (Option (List ((Ar Int 4)×Int)))))) (v:Value) (w:World):Prop:=v=tuple #[]∧St wb [Cells b6 ((encI .i64) r.1) 2,Rows2 101 kHM (MapO (ekA (n:=4) .i16) (int .i64)) v10 mm12 r.2.1,Cells b9 [v10] 99,Z] w
theorem Qai.calls {N:Nat} {a1:(List Int)} {a3:Qa3} {a4:Int} {a5:Int} {a8:(List (Option (List ((Ar Int 4)×Int))))} {v2:Value} {b6:Nat} {b9:Nat} {v10:Value} {mm12:(List (Option Nat))} {wb:World} {Z:As} {w0:World} {r:(Int×(List (Option (List ((Ar Int 4)×Int))))×(List (Option (List ((Ar Int 4)×Int)))))} (hs:St wb [Cells b6 ((encI .i64) a5) 2,Rows2 101 kHM (MapO (ekA (n:=4) .i16) (int .i64)) v10 mm12 a8,Cells b9 ([v10]) 99,Z] w0) (hr0:RdRow (K.int .i16) wb v2 a1) (H:Qai.f N a1 a3 a4 a5 a8=some r):
 Calls Tryz.prog 73 #[v2,agg (QaD a3).toArray,int .i64 a4,Value.func (Fn.func 74) #[] #[pointer (some ⟨b6,0,none⟩),pointer (some ⟨b9,0,none⟩)]] w0 fun e w=>∃ v,e= .returned v∧Qai.post wb Z b6 v10 mm12 b9 v10 r v w:=by
 unfold Qai.f at H
 refine calls_of_g (n:=44) Tryz.func73 rfl rfl ?_
 show G _ _ _ _ [_,_,_,_,_,_,_,_,_,_,_,_,_,_,_,_,_,_,_,_,_,_,_,_,_,_,_,_,_,_,_,_,_,_,_,_,_,_,_,_,_,_,_,_,_,_,_,_] _
 refine Qad (Qag [0] rfl ?_)
 refine Qbq hs rfl rfl (cs:=(QaD a3)) rfl rfl ?_
 intro b14 w hs
 refine Qab (Qad (Qag [0,1,2,3] rfl ?_))
 refine Qaa (v:=v2) rfl rfl rfl ?_
 refine Qbc (hs.rd hr0) rfl rfl rfl rfl rfl ?_
 obtain ⟨g1,H⟩:=ite_get H
 refine Qaa (v:=int .i64 (shlI .i64 1 (a1.length:Int))) rfl rfl (Qce rfl rfl rfl g1) ?_
 show G _ _ _ _ [_,_,_,_,_,_,_,_,_,_,_,_,_,_,_,_,_,_,_,_,_,_,_,_,_,_,_,_,_,_,_,_,_,_,_,_,_,_,_,_,_,_,_,_,_,_,_,_] _
 refine Qaa (v:=int .i64 0) rfl rfl rfl (Qab ?_)
 obtain ⟨o1_,Ho,Hr1_⟩:=bind_get H
 refine Qax (J:=fun t w=>∃ x34:Int,∃ x35:(List (Option (List ((Ar Int 4)×Int)))),Qai.a0 N x34 x35=some r∧Fr t (fun O=>([O 0,O 1,O 2,O 3,O 4,O 5,O 6,O 7,O 8,O 9,O 10,O 11,O 12,O 13,O 14,O 15,O 16,O 17,O 18,O 19,O 20,O 21,O 22,O 23,O 24,O 25,O 26,O 27,O 28,O 29,O 30,O 31,O 32,O 33,O 34,O 35,O 36,O 37,O 38,O 39,O 40,O 41,O 42,O 43,O 44,O 45,O 46,O 47]:List Value))∧St wb [Cells b6 ((encI .i64) x34) 2,Cells b9 ([v10]) 99,Rows2 101 kHM (MapO (ekA (n:=4) .i16) (int .i64)) v10 mm12 x35,Z] w) ?_ ?_
 ·
  rintro t w ⟨x34,x35,H,hf,hs⟩
  obtain ⟨O,rfl⟩:=hf.open
  show G _ _ _ _ [_,_,_,_,_,_,_,_,_,_,_,_,_,_,_,_,_,_,_,_,_,_,_,_,_,_,_,_,_,_,_,_,_,_,_,_,_,_,_,_,_,_,_,_,_,_,_,_] _
  unfold Qai.a0 at H
  obtain rfl:=QsJ H
  refine Qcc Tryz.func73 (v:=tuple #[]) (resN (l:=Tryz.f73.results.toList) (vs:=[]) rfl trivial (by simp)) ?_
  have hs:=hs.pull 3 rfl
  have hs:=hs.pull 2 rfl
  have hs:=hs.pull 3 rfl
  have hs:=hs.pull 3 rfl
  have hs:St _ [_,_,_,_] _:=St.take (Γ':=[]) hs
  exact ⟨_,rfl,rfl,hs⟩
 intro ha1_
 have hs:=hs.pull 4 rfl
 have hs:=hs.pull 1 rfl
 have hs:=hs.pull 4 rfl
 have hs:=hs.pull 4 rfl
 have hs:=hs.pull 4 rfl
 have hs:St _ [_,_,_,_,_] _:=St.take (Γ':=[]) hs
 refine QaL (I:=fun n_ t w=>∃ x24:Int,∃ x25:(List (Option (List ((Ar Int 4)×Int)))),∃ x26:Int,rounds (fun s=>Qai.b0 N a1 a3 a4 s.1 s.2.1 s.2.2) n_ (x24,x25,x26)=some o1_∧Fr t (fun O=>([v2,O 1,int .i64 a4,Value.func (Fn.func 74) #[] #[pointer (some ⟨b6,0,none⟩),pointer (some ⟨b9,0,none⟩)],O 4,pointer (some ⟨b14,0,none⟩),O 6,O 7,O 8,O 9,O 10,O 11,O 12,int .i64 (shlI .i64 1 (a1.length:Int)),int .i64 x26,O 15,O 16,O 17,O 18,O 19,O 20,O 21,O 22,O 23,O 24,O 25,O 26,O 27,O 28,O 29,O 30,O 31,O 32,O 33,O 34,O 35,O 36,O 37,O 38,O 39,O 40,O 41,O 42,O 43,O 44,O 45,O 46,O 47]:List Value))∧St wb [Cells b6 ((encI .i64) x24) 2,Rows2 101 kHM (MapO (ekA (n:=4) .i16) (int .i64)) v10 mm12 x25,Cells b9 ([v10]) 99,Cells b14 (QaD a3) 113,Z] w) N ⟨a5,a8,0,Ho,rfl,hs⟩ ?_ ?_
 ·
  rintro _ _ ⟨x24,x25,x26,h,_⟩
  exact rounds_zero h
 intro n_ ih1_
 rintro t w ⟨x24,x25,x26,Ho,hf,hs⟩
 obtain ⟨O,rfl⟩:=hf.open
 show G _ _ _ _ [_,_,_,_,_,_,_,_,_,_,_,_,_,_,_,_,_,_,_,_,_,_,_,_,_,_,_,_,_,_,_,_,_,_,_,_,_,_,_,_,_,_,_,_,_,_,_,_] _
 obtain ⟨x2_,H,Hx1_⟩:=rounds_succ Ho
 have H:Qai.b0 N a1 a3 a4 x24 x25 x26=some x2_:=H
 unfold Qai.b0 at H
 refine Qad (Qag [0] rfl ?_)
 refine Qap (B:=decide (x26< (shlI .i64 1 (a1.length:Int)))) rfl rfl rfl ?_ ?_
 ·
  intro hb
  rw [if_pos (b_dec_t hb)] at H
  refine Qab (Qad (Qah rfl (Qay (Qad ?_))))
  refine Qax (J:=(fun t w=>∃ x32:Int,∃ x33:(List (Option (List ((Ar Int 4)×Int)))),Qai.j2 N x26 x32 x33=some x2_∧Fr t (fun O=>([v2,O 1,int .i64 a4,Value.func (Fn.func 74) #[] #[pointer (some ⟨b6,0,none⟩),pointer (some ⟨b9,0,none⟩)],O 4,pointer (some ⟨b14,0,none⟩),O 6,O 7,O 8,O 9,O 10,O 11,O 12,int .i64 (shlI .i64 1 (a1.length:Int)),int .i64 x26,O 15,O 16,O 17,O 18,O 19,O 20,O 21,O 22,O 23,O 24,O 25,O 26,O 27,O 28,O 29,O 30,O 31,O 32,O 33,O 34,O 35,O 36,O 37,O 38,O 39,O 40,O 41,O 42,O 43,O 44,O 45,O 46,O 47]:List Value))∧St wb [Cells b6 ((encI .i64) x32) 2,Cells b9 ([v10]) 99,Rows2 101 kHM (MapO (ekA (n:=4) .i16) (int .i64)) v10 mm12 x33,Cells b14 (QaD a3) 113,Z] w)) ?_ ?_
  ·
   rintro t w ⟨x32,x33,H,hf,hs⟩
   obtain ⟨O,rfl⟩:=hf.open
   show G _ _ _ _ [_,_,_,_,_,_,_,_,_,_,_,_,_,_,_,_,_,_,_,_,_,_,_,_,_,_,_,_,_,_,_,_,_,_,_,_,_,_,_,_,_,_,_,_,_,_,_,_] _
   unfold Qai.j2 at H
   refine Qag [0,1] rfl ?_
   refine Qaa (v:=int .i64 (i64w (x26+1))) rfl rfl rfl ?_
   refine Qaa (v:=int .i64 (i64w (x26+1))) rfl rfl rfl (Qab ?_)
   obtain rfl:=QsJ H
   have hs:=hs.pull 4 rfl
   have hs:=hs.pull 4 rfl
   have hs:=hs.pull 3 rfl
   have hs:=hs.pull 4 rfl
   have hs:=hs.pull 4 rfl
   have hs:St _ [_,_,_,_,_] _:=St.take (Γ':=[]) hs
   exact ih1_ _ _ ⟨x32,x33,i64w (x26+1),Hx1_,rfl,hs⟩
  intro ha
  refine Qad (Qag [0,1] rfl ?_)
  refine Qaa (v:=int .i64 x26) rfl rfl rfl ?_
  refine Qaa (v:=int .i64 x26) rfl rfl rfl ?_
  show G _ _ _ _ [_,_,_,_,_,_,_,_,_,_,_,_,_,_,_,_,_,_,_,_,_,_,_,_,_,_,_,_,_,_,_,_,_,_,_,_,_,_,_,_,_,_,_,_,_,_,_,_] _
  refine Qab (Qad (Qag [0,1,2,3,4,5,6,7,8,9,10,11,12] rfl ?_))
  refine Qaa (v:=v2) rfl rfl rfl ?_
  refine Qaa (v:=pointer (some ⟨b14,1,none⟩)) rfl rfl rfl ?_
  refine QaG rfl rfl (es:=((encA (encI .i16)) a3.Qaz)) rfl rfl (fun _=>rfl) (n:=4) (fun _=>rfl) ((fkA (n:=4) (he:=(fkI .i16).len) (h1:=(fkI .i16).one)).len _) (cells_load (hs.cells 3 rfl) 1 4 (by simp only [QaD];first|rfl|exact List.take_of_length_le (Nat.le_of_eq ((fkA (n:=4) (he:=(fkI .i16).len) (h1:=(fkI .i16).one)).len _))|simp [List.drop_append,List.take_append,encAI_len,encAB_len,encA_len,List.take_of_length_le])) ?_
  refine Qaa (v:=int .i64 x26) rfl rfl rfl ?_
  refine Qaa (v:=int .u8 (u8w x26)) rfl rfl rfl ?_
  obtain ⟨r27,Hr27,H⟩:=bind_get H
  refine QaB (args:=[v2,agg ((encA (encI .i16)) a3.Qaz).toArray,int .u8 (u8w x26)]) rfl rfl (QaC rfl (callFunc_enter Tryz.func25 rfl rfl) rfl) (Qao.calls (a1:=a1) (a3:=a3.Qaz) (a4:=u8w x26) (hs.rd hr0) Hr27) ?_
  rintro _ w ⟨rfl,hs2⟩
  have hs:St _ [_,_,_,_,_] _:=hs.call hs2
  obtain ⟨r28,Hr28,H⟩:=bind_get H
  refine QaB (args:=[agg ((encA (encI .i16)) r27).toArray]) rfl rfl (QaC rfl (callFunc_enter Tryz.func39 rfl rfl) rfl) (Qaw.calls (a1:=r27) Hr28) ?_
  rintro _ w ⟨rfl,hs2⟩
  have hs:St _ [_,_,_,_,_] _:=hs.call hs2
  show G _ _ _ _ [_,_,_,_,_,_,_,_,_,_,_,_,_,_,_,_,_,_,_,_,_,_,_,_,_,_,_,_,_,_,_,_,_,_,_,_,_,_,_,_,_,_,_,_,_,_,_,_] _
  refine Qaa (v:=tuple #[agg ((encA (encI .i16)) r28.1).toArray,int .i64 r28.2]) rfl rfl rfl ?_
  refine Qaa (v:=agg ((encA (encI .i16)) r28.1).toArray) rfl rfl rfl ?_
  refine Qaa (v:=int .i64 r28.2) rfl rfl rfl ?_
  refine Qa8 hs rfl rfl (z:=(agg #[int .i16 0,int .i16 0,int .i16 0,int .i16 0])) (cs:=((encA (encI .i16)) (Ar.rep 4 0))) rfl (fun _=>rfl) rfl ?_
  intro b29 w hs
  refine QaH (n:=4) hs ((fkA (n:=4) (he:=(fkI .i16).len) (h1:=(fkI .i16).one)).len _) rfl rfl (vs:=((encA (encI .i16)) r28.1)) rfl rfl rfl (fun _=>rfl) ((fkA (n:=4) (he:=(fkI .i16).len) (h1:=(fkI .i16).one)).len _) ((fkA (n:=4) (he:=(fkI .i16).len) (h1:=(fkI .i16).one)).one _) ?_
  intro w hs
  refine Qaa (v:=int .i64 r28.2) rfl rfl rfl (Qab (Qad (Qag [0,1,2,3,4,5,6,7,8,9] rfl ?_)))
  refine Qaa (v:=int .i64 r28.2) rfl rfl rfl ?_
  refine Qap (B:=decide (r28.2>0)) rfl rfl rfl ?_ ?_
  ·
   intro hb
   rw [if_pos (b_dec_t hb)] at H
   refine Qaa (v:=bool true) rfl rfl rfl ?_
   refine Qaa (v:=pointer (some ⟨b14,0,none⟩)) rfl rfl rfl ?_
   refine Qat rfl rfl (v:=int .i64 a3.Qav) rfl rfl (fun _=>rfl) (cells_load (hs.cells 4 rfl) 0 1 (by first|rfl|(simp only [QaD];simp [List.drop_append,List.take_append,encAI_len,encAB_len,List.take_of_length_le]))) ?_
   show G _ _ _ _ [_,_,_,_,_,_,_,_,_,_,_,_,_,_,_,_,_,_,_,_,_,_,_,_,_,_,_,_,_,_,_,_,_,_,_,_,_,_,_,_,_,_,_,_,_,_,_,_] _
   refine Qaa (v:=int .i64 r28.2) rfl rfl rfl ?_
   refine Qaa (v:=int .i64 (i64w (a3.Qav+r28.2))) rfl rfl rfl ?_
   refine Qaa (v:=int .i64 a4) rfl rfl rfl ?_
   refine Qap (B:=decide ((i64w (a3.Qav+r28.2))≤a4)) rfl rfl rfl ?_ ?_
   ·
    intro hb
    rw [if_pos (b_dec_t hb)] at H
    refine Qaa (v:=bool true) rfl rfl rfl (Qab (Qah rfl (Qag [0,1,2,3,4,5,6,7,8,9] rfl ?_)))
    refine Qaa (v:=Value.func (Fn.func 74) #[] #[pointer (some ⟨b6,0,none⟩),pointer (some ⟨b9,0,none⟩)]) rfl rfl rfl ?_
    refine Qaa (v:=int .i64 x26) rfl rfl rfl ?_
    refine Qaa (v:=int .u8 (u8w x26)) rfl rfl rfl ?_
    refine Qaa (v:=pointer (some ⟨b14,0,none⟩)) rfl rfl rfl ?_
    refine Qat rfl rfl (v:=int .i64 a3.Qav) rfl rfl (fun _=>rfl) (cells_load (hs.cells 4 rfl) 0 1 (by first|rfl|(simp only [QaD];simp [List.drop_append,List.take_append,encAI_len,encAB_len,List.take_of_length_le]))) ?_
    show G _ _ _ _ [_,_,_,_,_,_,_,_,_,_,_,_,_,_,_,_,_,_,_,_,_,_,_,_,_,_,_,_,_,_,_,_,_,_,_,_,_,_,_,_,_,_,_,_,_,_,_,_] _
    refine Qaa (v:=int .i64 r28.2) rfl rfl rfl ?_
    refine Qaa (v:=int .i64 (i64w (a3.Qav+r28.2))) rfl rfl rfl ?_
    refine QaG rfl rfl (es:=((encA (encI .i16)) r28.1)) rfl rfl (fun _=>rfl) (n:=4) (fun _=>rfl) ((fkA (n:=4) (he:=(fkI .i16).len) (h1:=(fkI .i16).one)).len _) (cells_all (hs.cells 0 rfl)) ?_
    show G _ _ _ _ [_,_,_,_,_,_,_,_,_,_,_,_,_,_,_,_,_,_,_,_,_,_,_,_,_,_,_,_,_,_,_,_,_,_,_,_,_,_,_,_,_,_,_,_,_,_,_,_] _
    refine Qaa (v:=agg (QaD (⟨i64w (a3.Qav+r28.2),r28.1⟩:Qa3)).toArray) rfl rfl (QbW (cs:=(QaD (⟨i64w (a3.Qav+r28.2),r28.1⟩:Qa3))) (segs:=[[int .i64 0],[int .i16 0,int .i16 0,int .i16 0,int .i16 0]]) rfl rfl (fun _=>rfl) ⟨rfl,(fun _=>rfl),rfl,(fun _=>rfl),trivial⟩ (by simp only [List.map_cons,List.map_nil,List.forall_mem_cons,List.not_mem_nil,false_implies,implies_true,and_true];exact ⟨⟨_,rfl,rfl⟩,⟨_,rfl,(fkA (n:=4) (he:=(fkI .i16).len) (h1:=(fkI .i16).one)).len _⟩⟩) (by first|rfl|(simp [ev,QaD];done)|(simp [ev,QaD];rfl))) ?_
    show G _ _ _ _ [_,_,_,_,_,_,_,_,_,_,_,_,_,_,_,_,_,_,_,_,_,_,_,_,_,_,_,_,_,_,_,_,_,_,_,_,_,_,_,_,_,_,_,_,_,_,_,_] _
    obtain ⟨r31,Hr31,H⟩:=bind_get H
    have hs:=hs.pull 3 rfl
    have hs:=hs.pull 3 rfl
    have hs:St _ [_,_,_,_,_,_] _:=hs.pull 3 rfl
    have hs:=hs.pack 3
    refine QaB (args:=[int .u8 (u8w x26),agg (QaD (⟨i64w (a3.Qav+r28.2),r28.1⟩:Qa3)).toArray,pointer (some ⟨b6,0,none⟩),pointer (some ⟨b9,0,none⟩)]) rfl rfl (QcG rfl (callFunc_enter Tryz.func74 rfl rfl) rfl rfl) (Qbg.calls (a1:=u8w x26) (a2:=(⟨i64w (a3.Qav+r28.2),r28.1⟩:Qa3)) (a3:=x24) (a6:=x25) hs Hr31) ?_
    rintro _ w ⟨rfl,hs⟩
    have hs:=St.unpack (Γ:=[_,_,_]) hs
    have hs:St _ [_,_,_,_,_,_] _:=hs
    refine Qab ?_
    refine QaE ?_
    have hs:=hs.pull 5 rfl
    have hs:=hs.pull 5 rfl
    have hs:=hs.pull 3 rfl
    have hs:=hs.pull 4 rfl
    have hs:=hs.pull 4 rfl
    have hs:St _ [_,_,_,_,_] _:=St.take (Γ':=[_]) hs
    exact ha _ _ ⟨r31.1,r31.2.1,H,rfl,hs⟩
   intro hb
   rw [if_neg (b_dec_f hb)] at H
   refine Qaa (v:=bool false) rfl rfl rfl ?_
   show G _ _ _ _ [_,_,_,_,_,_,_,_,_,_,_,_,_,_,_,_,_,_,_,_,_,_,_,_,_,_,_,_,_,_,_,_,_,_,_,_,_,_,_,_,_,_,_,_,_,_,_,_] _
   refine Qab (Qal rfl (Qay ?_))
   refine QaE ?_
   have hs:=hs.pull 5 rfl
   have hs:=hs.pull 5 rfl
   have hs:=hs.pull 4 rfl
   have hs:=hs.pull 5 rfl
   have hs:=hs.pull 5 rfl
   have hs:St _ [_,_,_,_,_] _:=St.take (Γ':=[_]) hs
   exact ha _ _ ⟨x24,x25,H,rfl,hs⟩
  intro hb
  rw [if_neg (b_dec_f hb)] at H
  show G _ _ _ _ [_,_,_,_,_,_,_,_,_,_,_,_,_,_,_,_,_,_,_,_,_,_,_,_,_,_,_,_,_,_,_,_,_,_,_,_,_,_,_,_,_,_,_,_,_,_,_,_] _
  refine Qaa (v:=bool false) rfl rfl rfl (Qac rfl rfl (Qac rfl rfl (Qac rfl rfl (Qac rfl rfl (Qac rfl rfl (Qac rfl rfl ?_))))))
  show G _ _ _ _ [_,_,_,_,_,_,_,_,_,_,_,_,_,_,_,_,_,_,_,_,_,_,_,_,_,_,_,_,_,_,_,_,_,_,_,_,_,_,_,_,_,_,_,_,_,_,_,_] _
  refine Qaa (v:=bool false) rfl rfl rfl (Qab (Qal rfl (Qay ?_)))
  refine QaE ?_
  have hs:=hs.pull 5 rfl
  have hs:=hs.pull 5 rfl
  have hs:=hs.pull 4 rfl
  have hs:=hs.pull 5 rfl
  have hs:=hs.pull 5 rfl
  have hs:St _ [_,_,_,_,_] _:=St.take (Γ':=[_]) hs
  exact ha _ _ ⟨x24,x25,H,rfl,hs⟩
 intro hb
 rw [if_neg (b_dec_f hb)] at H
 refine Qab (Qad (Qal rfl ?_))
 obtain rfl:=QsJ H
 subst Hx1_
 have hs:=hs.pull 4 rfl
 have hs:=hs.pull 2 rfl
 have hs:=hs.pull 3 rfl
 have hs:=hs.pull 3 rfl
 have hs:St _ [_,_,_,_] _:=St.take (Γ':=[_]) hs
 refine Qa7 rfl ?_
 exact ha1_ _ _ ⟨x24,x25,Hr1_,rfl,hs⟩
def Qan.post (w0:World) (r:(List (Option (List ((Ar Int 4)×Int))))) (v:Value) (w:World):Prop:=∃ u1:Value,∃ mm2:(List (Option Nat)),v=u1∧St w0 [Rows2 101 kHM (MapO (ekA (n:=4) .i16) (int .i64)) u1 mm2 r] w
theorem Qan.calls {N:Nat} {a1:(List Int)} {a3:(Ar Int 4)} {a4:Int} {v2:Value} {w0:World} {Q:(List (Option (List ((Ar Int 4)×Int))))→Prop} (hr0:RdRow (K.int .i16) w0 v2 a1) (H:Qan.f N a1 a3 a4 Q):
 Calls Tryz.prog 60 #[v2,agg ((encA (encI .i16)) a3).toArray,int .i64 a4] w0 fun e w=>∃ v,e= .returned v∧∃ r,Q r∧Qan.post w0 r v w:=by
 unfold Qan.f at H
 have hs:St w0 [] w0:=St.refl w0
 refine calls_of_g (n:=49) Tryz.func60 rfl rfl ?_
 show G _ _ _ _ [_,_,_,_,_,_,_,_,_,_,_,_,_,_,_,_,_,_,_,_,_,_,_,_,_,_,_,_,_,_,_,_,_,_,_,_,_,_,_,_,_,_,_,_,_,_,_,_,_,_,_,_] _
 refine Qad (Qag [0,1] rfl ?_)
 refine Qbq hs rfl rfl (cs:=((encA (encI .i16)) a3)) rfl rfl ?_
 intro b5 w hs
 refine Qaa (v:=slice none 0 0) rfl rfl rfl (Qab (Qad (Qag [0,1,2,3,4] rfl ?_)))
 refine Qaa (v:=int .i64 a4) rfl rfl rfl ?_
 refine Qaa (v:=int .i64 (i64w (a4+1))) rfl rfl rfl ?_
 show G _ _ _ _ [_,_,_,_,_,_,_,_,_,_,_,_,_,_,_,_,_,_,_,_,_,_,_,_,_,_,_,_,_,_,_,_,_,_,_,_,_,_,_,_,_,_,_,_,_,_,_,_,_,_,_,_] _
 obtain ⟨g,H⟩:=ite_getD H
 refine Qcg (κ:=kHM) (z:=none) (zc:=(encHM none)) (zv:=(Value.map none)) (B:=8) hs rfl rfl rfl rfl rfl g.1 rfl rfl rfl rfl rfl (fun _=>⟨rfl,rfl⟩) rfl (by decide) (by have:=g.2;omega) ?_
 intro v7 w hs
 have hs:=hs.r2make (I:=(MapO (ekA (n:=4) .i16) (int .i64))) (y:=(none:Option (List ((Ar Int 4)×Int)))) mapO0
 have hs:St _ [_,_] _:=hs
 refine Qa8 hs rfl rfl (z:=(slice none 0 0)) (cs:=[slice none 0 0]) rfl (fun _=>rfl) rfl ?_
 intro b9 w hs
 refine QaH (n:=1) hs rfl rfl rfl (vs:=[v7]) rfl rfl (slCells (hs.r2row 1 rfl)) (fun _=>rfl) rfl (by intro v hv;simp only [List.mem_cons,List.not_mem_nil,or_false] at hv;subst hv;exact slOne (hs.r2row 1 rfl)) ?_
 intro w hs
 refine Qab (Qad (Qad (Qag [0,1,2] rfl ?_)))
 refine Qat rfl rfl (v:=v7) rfl rfl (fun _=>rfl) (cells_load (hs.cells 0 rfl) 0 1 rfl) ?_
 show G _ _ _ _ [_,_,_,_,_,_,_,_,_,_,_,_,_,_,_,_,_,_,_,_,_,_,_,_,_,_,_,_,_,_,_,_,_,_,_,_,_,_,_,_,_,_,_,_,_,_,_,_,_,_,_,_] _
 refine Qcq hs 1 rfl rfl rfl rfl rfl rfl ?_
 refine Qaa (v:=int .i64 0) rfl rfl rfl (Qab ?_)
 have Ho:=H
 refine Qax (J:=fun t w=>∃ mm21:(List (Option Nat)),∃ x22:(List (Option (List ((Ar Int 4)×Int)))),Qan.a0 N a4 a1 a3 x22 Q∧Fr t (fun O=>([v2,O 1,int .i64 a4,O 3,pointer (some ⟨b5,0,none⟩),O 5,O 6,pointer (some ⟨b9,0,none⟩),O 8,O 9,O 10,O 11,O 12,O 13,O 14,O 15,O 16,O 17,O 18,O 19,O 20,O 21,O 22,O 23,O 24,O 25,O 26,O 27,O 28,O 29,O 30,O 31,O 32,O 33,O 34,O 35,O 36,O 37,O 38,O 39,O 40,O 41,O 42,O 43,O 44,O 45,O 46,O 47,O 48,O 49,O 50,O 51]:List Value))∧St w0 [Cells b5 ((encA (encI .i16)) a3) 28,Cells b9 ([v7]) 99,Rows2 101 kHM (MapO (ekA (n:=4) .i16) (int .i64)) v7 mm21 x22] w) ?_ ?_
 ·
  rintro t w ⟨mm21,x22,H,hf,hs⟩
  obtain ⟨O,rfl⟩:=hf.open
  show G _ _ _ _ [_,_,_,_,_,_,_,_,_,_,_,_,_,_,_,_,_,_,_,_,_,_,_,_,_,_,_,_,_,_,_,_,_,_,_,_,_,_,_,_,_,_,_,_,_,_,_,_,_,_,_,_] _
  unfold Qan.a0 at H
  refine Qad ?_
  obtain ⟨gd3,H⟩:=ite_getD H
  obtain ⟨ad4_,ad4_N,ad4_C,had4_⟩:=sl_at (hs.r2row 2 rfl) gd3.1 (hs.r2lt 2 rfl gd3.2)
  obtain ⟨gd5,H⟩:=ite_getD H
  obtain ⟨b23,eb23⟩:=hs.r2some 2 rfl gd3.1 gd3.2 gd5
  refine Qbe ?_
  intro T hT
  refine QbM (n:=5) rfl [0,1,2,3,4] [0,1,2,3,4] rfl rfl (Inv:=fun D t w=>∃ b23:Nat,∃ O:Nat→Value,t=[v2,O 1,int .i64 a4,O 3,pointer (some ⟨b5,0,none⟩),O 5,O 6,pointer (some ⟨b9,0,none⟩),O 8,O 9,O 10,O 11,O 12,O 13,O 14,O 15,O 16,O 17,O 18,O 19,O 20,O 21,O 22,O 23,O 24,cnd (D 0) v7 (O 25),cnd (D 1) (pointer (some (ad4_.add ((0:Int).toNat*1)))) (O 26),cnd (D 2) (Value.map (rdL mm21 0 none)) (O 27),cnd (D 3) (agg ((encA (encI .i16)) a3).toArray) (O 28),O 29,O 30,O 31,O 32,O 33,O 34,O 35,O 36,O 37,O 38,O 39,O 40,O 41,O 42,O 43,O 44,O 45,O 46,O 47,O 48,O 49,O 50,O 51]∧St w0 [Cells b5 ((encA (encI .i16)) a3) 28,Cells b9 ([v7]) 99,Rows2 101 kHM (MapO (ekA (n:=4) .i16) (int .i64)) v7 mm21 (cnd (D 4) (stL x22 0 (some (mSet ((rdL x22 0 none).getD []) a3 0))) x22)] w) ?_ ⟨⟨⟨⟨⟨trivial,?_⟩,?_⟩,?_⟩,?_⟩,?_⟩ ?_
  ·
   intro w hh hbw
   have hs:=hs.samew hh hbw
   exact ⟨0,fun i=>T.getD i undef,(by subst hT;rfl),hs⟩
  ·
   rintro D t w hD hp hcl ⟨b23,O,ht,hs⟩ rest hk
   have q1_:=nz hcl 1 0 hD
   have q2_:=nz hcl 2 0 q1_
   have q4_:=nz hcl 4 0 q2_
   simp only [hD,q1_,q2_,q4_,cq,oT] at ht hs
   subst ht
   refine Qat rfl rfl (v:=v7) rfl rfl (fun _=>rfl) (cells_load (hs.cells 1 rfl) 0 1 rfl) ?_
   show G _ _ _ _ [_,_,_,_,_,_,_,_,_,_,_,_,_,_,_,_,_,_,_,_,_,_,_,_,_,_,_,_,_,_,_,_,_,_,_,_,_,_,_,_,_,_,_,_,_,_,_,_,_,_,_,_] _
   refine hk _ _ ⟨b23,O,?_,hs.cast ?_⟩<;>simp only [oT,lq,cq,Nat.reduceBEq,q1_,q2_,q4_]
  ·
   rintro D t w hD hp hcl ⟨b23,O,ht,hs⟩ rest hk
   obtain ⟨p0_,_⟩:=hp
   have q2_:=nz hcl 2 0 hD
   have q4_:=nz hcl 4 0 q2_
   simp only [hD,p0_,q2_,q4_,cq,oT] at ht hs
   subst ht
   refine Qby (κ:=kHM) (m:=1) rfl (hs.r2row 2 rfl) rfl (fun _=>rfl) gd3.1 (hs.r2lt 2 rfl gd3.2) had4_ rfl rfl rfl rfl rfl ?_
   show G _ _ _ _ [_,_,_,_,_,_,_,_,_,_,_,_,_,_,_,_,_,_,_,_,_,_,_,_,_,_,_,_,_,_,_,_,_,_,_,_,_,_,_,_,_,_,_,_,_,_,_,_,_,_,_,_] _
   refine hk _ _ ⟨b23,O,?_,hs.cast ?_⟩<;>simp only [oT,lq,cq,Nat.reduceBEq,p0_,q2_,q4_]
  ·
   rintro D t w hD hp hcl ⟨b23,O,ht,hs⟩ rest hk
   obtain ⟨p1_,_⟩:=hp
   obtain ⟨p0_,_⟩:=(hcl.get 1 (by decide)) p1_
   have q4_:=nz hcl 4 0 hD
   simp only [hD,p0_,p1_,q4_,cq,oT] at ht hs
   subst ht
   refine Qat rfl rfl (v:=Value.map (rdL mm21 0 none)) rfl rfl (fun _=>rfl) (cellsAt_of fkHM none (hs.r2row 2 rfl) had4_ gd3.1 (hs.r2lt 2 rfl gd3.2)) ?_
   show G _ _ _ _ [_,_,_,_,_,_,_,_,_,_,_,_,_,_,_,_,_,_,_,_,_,_,_,_,_,_,_,_,_,_,_,_,_,_,_,_,_,_,_,_,_,_,_,_,_,_,_,_,_,_,_,_] _
   refine hk _ _ ⟨b23,O,?_,hs.cast ?_⟩<;>simp only [oT,lq,cq,Nat.reduceBEq,p0_,p1_,q4_]
  ·
   rintro D t w hD hp hcl ⟨b23,O,ht,hs⟩ rest hk
   have q4_:=nz hcl 4 1 hD
   simp only [hD,q4_,cq,oT] at ht hs
   subst ht
   refine QaG rfl rfl (es:=((encA (encI .i16)) a3)) rfl rfl (fun _=>rfl) (n:=4) (fun _=>rfl) ((fkA (n:=4) (he:=(fkI .i16).len) (h1:=(fkI .i16).one)).len _) (cells_all (hs.cells 0 rfl)) ?_
   show G _ _ _ _ [_,_,_,_,_,_,_,_,_,_,_,_,_,_,_,_,_,_,_,_,_,_,_,_,_,_,_,_,_,_,_,_,_,_,_,_,_,_,_,_,_,_,_,_,_,_,_,_,_,_,_,_] _
   refine hk _ _ ⟨b23,O,?_,hs.cast ?_⟩<;>simp only [oT,lq,cq,Nat.reduceBEq,q4_]
  ·
   rintro D t w hD hp hcl ⟨b23,O,ht,hs⟩ rest hk
   obtain ⟨p2_,p3_,p0_,p1_,_,_,_⟩:=hp
   simp only [hD,p0_,p1_,p2_,p3_,cq,oT] at ht hs
   subst ht
   have hs:St _ [_,_,_] _:=hs.pull 2 rfl
   refine Qb8 QbT gd3.1 gd3.2 eb23 (a:=a3) (y:=0) hs rfl rfl (.inl rfl) Tryz.underlying101 rfl rfl rfl ?_
   intro w hs
   show G _ _ _ _ [_,_,_,_,_,_,_,_,_,_,_,_,_,_,_,_,_,_,_,_,_,_,_,_,_,_,_,_,_,_,_,_,_,_,_,_,_,_,_,_,_,_,_,_,_,_,_,_,_,_,_,_] _
   have hs:=hs.push 2 (by simp)
   refine hk _ _ ⟨b23,O,?_,hs.cast ?_⟩<;>simp only [oT,lq,cq,Nat.reduceBEq,p0_,p1_,p2_,p3_]
  intro D t w hall hI
  obtain ⟨b23,O,ht,hs⟩:=hI
  have p0_:=hall 0 (by decide)
  have p1_:=hall 1 (by decide)
  have p2_:=hall 2 (by decide)
  have p3_:=hall 3 (by decide)
  have p4_:=hall 4 (by decide)
  simp only [p0_,p1_,p2_,p3_,p4_,cq,oT] at ht hs
  subst ht
  refine Qad (Qad (Qag [0,1] rfl ?_))
  refine Qaa (v:=int .i64 a4) rfl rfl rfl ?_
  refine Qaa (v:=int .i64 0) rfl rfl rfl (Qab ?_)
  have Ho:=H
  refine Qax (J:=fun t w=>∃ x69:(List (Option (List ((Ar Int 4)×Int)))),Qan.a2 N x69 Q∧Fr t (fun O=>([O 0,O 1,O 2,O 3,O 4,O 5,O 6,pointer (some ⟨b9,0,none⟩),O 8,O 9,O 10,O 11,O 12,O 13,O 14,O 15,O 16,O 17,O 18,O 19,O 20,O 21,O 22,O 23,O 24,O 25,O 26,O 27,O 28,O 29,O 30,O 31,O 32,O 33,O 34,O 35,O 36,O 37,O 38,O 39,O 40,O 41,O 42,O 43,O 44,O 45,O 46,O 47,O 48,O 49,O 50,O 51]:List Value))∧St w0 [Cells b9 ([v7]) 99,Rows2 101 kHM (MapO (ekA (n:=4) .i16) (int .i64)) v7 mm21 x69] w) ?_ ?_
  ·
   rintro t w ⟨x69,H,hf,hs⟩
   obtain ⟨O,rfl⟩:=hf.open
   show G _ _ _ _ [_,_,_,_,_,_,_,_,_,_,_,_,_,_,_,_,_,_,_,_,_,_,_,_,_,_,_,_,_,_,_,_,_,_,_,_,_,_,_,_,_,_,_,_,_,_,_,_,_,_,_,_] _
   unfold Qan.a2 at H
   refine Qad (Qag [0,1] rfl ?_)
   refine Qat rfl rfl (v:=v7) rfl rfl (fun _=>rfl) (cells_load (hs.cells 0 rfl) 0 1 rfl) ?_
   refine Qaa (v:=v7) rfl rfl rfl ?_
   show G _ _ _ _ [_,_,_,_,_,_,_,_,_,_,_,_,_,_,_,_,_,_,_,_,_,_,_,_,_,_,_,_,_,_,_,_,_,_,_,_,_,_,_,_,_,_,_,_,_,_,_,_,_,_,_,_] _
   refine Qab ?_
   refine Qas Tryz.func60 (v:=v7) (res1 rfl rfl) ?_
   have hs:=hs.pull 1 rfl
   have hs:St _ [_] _:=St.take (Γ':=[_]) hs
   exact ⟨_,rfl,_,H,v7,mm21,rfl,hs⟩
  intro ha1_
  have hs:=hs.pull 1 rfl
  have hs:=hs.pull 2 rfl
  have hs:St _ [_,_] _:=St.take (Γ':=[_]) hs
  refine QaL (I:=fun n_ t w=>∃ x46:(List (Option (List ((Ar Int 4)×Int)))),∃ x47:Int,roundsD (fun s=>Qan.b2 N a4 a1 s.1 s.2) n_ (x46,x47) (Ex.finD (fun s=>Qan.a2 N s Q) Q)∧Fr t (fun O=>([v2,O 1,int .i64 a4,O 3,O 4,O 5,O 6,pointer (some ⟨b9,0,none⟩),O 8,O 9,O 10,O 11,O 12,O 13,O 14,O 15,O 16,O 17,O 18,O 19,O 20,O 21,O 22,O 23,O 24,O 25,O 26,O 27,O 28,int .i64 a4,int .i64 x47,O 31,O 32,O 33,O 34,O 35,O 36,O 37,O 38,O 39,O 40,O 41,O 42,O 43,O 44,O 45,O 46,O 47,O 48,O 49,O 50,O 51]:List Value))∧St w0 [Rows2 101 kHM (MapO (ekA (n:=4) .i16) (int .i64)) v7 mm21 x46,Cells b9 ([v7]) 99] w) N ⟨stL x22 0 (some (mSet ((rdL x22 0 none).getD []) a3 0)),0,Ho,rfl,hs⟩ ?_ ?_
  ·
   rintro _ _ ⟨x46,x47,h,_⟩
   exact (h:False).elim
  intro n_ ih1_
  rintro t w ⟨x46,x47,Ho,hf,hs⟩
  obtain ⟨O,rfl⟩:=hf.open
  show G _ _ _ _ [_,_,_,_,_,_,_,_,_,_,_,_,_,_,_,_,_,_,_,_,_,_,_,_,_,_,_,_,_,_,_,_,_,_,_,_,_,_,_,_,_,_,_,_,_,_,_,_,_,_,_,_] _
  obtain ⟨x20_,hQ1_,H⟩:=roundsD_succ Ho
  have H:Qan.b2 N a4 a1 x46 x47 x20_:=H
  unfold Qan.b2 at H
  refine Qad (Qag [0] rfl ?_)
  refine Qap (B:=decide (x47< a4)) rfl rfl rfl ?_ ?_
  ·
   intro hb
   rw [if_pos (b_dec_t hb)] at H
   refine Qab (Qad (Qah rfl (Qay (Qad ?_))))
   refine Qbh (Qad (Qag [0,1] rfl ?_))
   refine Qaa (v:=int .i64 x47) rfl rfl rfl ?_
   refine Qaa (v:=int .i64 x47) rfl rfl rfl (Qab (Qad (Qag [0,1,2,3,4] rfl ?_)))
   refine Qat rfl rfl (v:=v7) rfl rfl (fun _=>rfl) (cells_load (hs.cells 1 rfl) 0 1 rfl) ?_
   show G _ _ _ _ [_,_,_,_,_,_,_,_,_,_,_,_,_,_,_,_,_,_,_,_,_,_,_,_,_,_,_,_,_,_,_,_,_,_,_,_,_,_,_,_,_,_,_,_,_,_,_,_,_,_,_,_] _
   refine Qaa (v:=int .i64 x47) rfl rfl rfl ?_
   obtain ⟨g13,H⟩:=ite_getD H
   refine Qbb fkHM none (hs.r2row 0 rfl) rfl (fun _=>rfl) g13.1 (hs.r2lt 0 rfl g13.2) rfl rfl rfl rfl rfl ?_
   intro p48 hp48 lp48 op48
   refine Qat rfl rfl (v:=Value.map (rdL mm21 x47 none)) rfl rfl (fun _=>rfl) hp48 ?_
   obtain ⟨g14,H⟩:=ite_getD H
   obtain ⟨b49,eb49⟩:=hs.r2some 0 rfl g13.1 g13.2 g14
   refine Qcw g13.1 g13.2 eb49 (some_getD g14) hs rfl rfl rfl Tryz.underlying101 rfl ?_
   intro b50 w hs
   show G _ _ _ _ [_,_,_,_,_,_,_,_,_,_,_,_,_,_,_,_,_,_,_,_,_,_,_,_,_,_,_,_,_,_,_,_,_,_,_,_,_,_,_,_,_,_,_,_,_,_,_,_,_,_,_,_] _
   refine Qab ?_
   have Ho:=H
   refine Qax (J:=fun t w=>∃ x68:(List (Option (List ((Ar Int 4)×Int)))),Qan.a4 N x47 x68 x20_∧Fr t (fun O=>([v2,O 1,int .i64 a4,O 3,O 4,O 5,O 6,pointer (some ⟨b9,0,none⟩),O 8,O 9,O 10,O 11,O 12,O 13,O 14,O 15,O 16,O 17,O 18,O 19,O 20,O 21,O 22,O 23,O 24,O 25,O 26,O 27,O 28,int .i64 a4,int .i64 x47,O 31,O 32,O 33,O 34,O 35,O 36,O 37,O 38,O 39,O 40,O 41,O 42,O 43,O 44,O 45,O 46,O 47,O 48,O 49,O 50,O 51]:List Value))∧St w0 [Cells b9 ([v7]) 99,Rows2 101 kHM (MapO (ekA (n:=4) .i16) (int .i64)) v7 mm21 x68] w) ?_ ?_
   ·
    rintro t w ⟨x68,H,hf,hs⟩
    obtain ⟨O,rfl⟩:=hf.open
    show G _ _ _ _ [_,_,_,_,_,_,_,_,_,_,_,_,_,_,_,_,_,_,_,_,_,_,_,_,_,_,_,_,_,_,_,_,_,_,_,_,_,_,_,_,_,_,_,_,_,_,_,_,_,_,_,_] _
    unfold Qan.a4 at H
    refine QaE (Qag [0,1] rfl ?_)
    refine Qaa (v:=int .i64 (i64w (x47+1))) rfl rfl rfl ?_
    refine Qaa (v:=int .i64 (i64w (x47+1))) rfl rfl rfl (Qab ?_)
    have hs:=hs.pull 0 rfl
    have hs:=hs.pull 1 rfl
    have hs:St _ [_,_] _:=St.take (Γ':=[]) hs
    exact ih1_ _ _ ⟨x68,i64w (x47+1),cast (congrFun hQ1_ _) H,rfl,hs⟩
   intro ha2_
   have hs:=hs.pull 0 rfl
   have hs:=hs.pull 2 rfl
   have hs:=hs.pull 2 rfl
   have hs:St _ [_,_,_] _:=St.take (Γ':=[]) hs
   refine QaL (I:=fun n_ t w=>∃ x59:(List (Option (List ((Ar Int 4)×Int)))),∃ x60:(List ((Ar Int 4)×Int)),roundsD (fun s=>Qan.b4 N x47 x46 a1 a4 s.1 s.2) n_ (x59,x60) (Ex.finBD (fun s=>Qan.a4 N x47 s x20_) x20_)∧Fr t (fun O=>([v2,O 1,int .i64 a4,O 3,O 4,O 5,O 6,pointer (some ⟨b9,0,none⟩),O 8,int .i64 x47,O 10,O 11,O 12,O 13,O 14,O 15,O 16,O 17,O 18,O 19,O 20,O 21,O 22,O 23,O 24,O 25,O 26,O 27,O 28,int .i64 a4,int .i64 x47,O 31,O 32,O 33,O 34,O 35,O 36,pointer (some ⟨b50,0,none⟩),O 38,O 39,O 40,O 41,O 42,O 43,O 44,O 45,O 46,O 47,O 48,O 49,O 50,O 51]:List Value))∧St w0 [Rows2 101 kHM (MapO (ekA (n:=4) .i16) (int .i64)) v7 mm21 x59,Cells b9 ([v7]) 99,IterAs b50 b49 ((rdL x46 x47 none).getD []) x60 none] w) N ⟨x46,(rdL x46 x47 none).getD [],Ho,rfl,hs⟩ ?_ ?_
   ·
    rintro _ _ ⟨x59,x60,h,_⟩
    exact (h:False).elim
   intro n_ ih2_
   rintro t w ⟨x59,x60,Ho,hf,hs⟩
   obtain ⟨O,rfl⟩:=hf.open
   show G _ _ _ _ [_,_,_,_,_,_,_,_,_,_,_,_,_,_,_,_,_,_,_,_,_,_,_,_,_,_,_,_,_,_,_,_,_,_,_,_,_,_,_,_,_,_,_,_,_,_,_,_,_,_,_,_] _
   obtain ⟨x19_,hQ2_,H⟩:=roundsD_succ Ho
   have H:Qan.b4 N x47 x46 a1 a4 x59 x60 x19_:=H
   unfold Qan.b4 at H
   refine Qad (Qag [0,1] rfl ?_)
   obtain ⟨hkv17_,H⟩:=H
   have hs:St _ [_,_,_] _:=hs.pull 2 rfl
   refine QcE g13.1 (rdL_lt g13.1 hkv17_) eb49 hkv17_ hs rfl rfl rfl rfl ?_ ?_
   ·
    intro hl18_ w hs
    have H:=H.1 hl18_
    show G _ _ _ _ [_,_,_,_,_,_,_,_,_,_,_,_,_,_,_,_,_,_,_,_,_,_,_,_,_,_,_,_,_,_,_,_,_,_,_,_,_,_,_,_,_,_,_,_,_,_,_,_,_,_,_,_] _
    refine Qaa (v:=bool false) rfl rfl rfl (Qab (Qad (Qal rfl ?_)))
    have hs:=hs.pull 1 rfl
    have hs:=hs.pull 2 rfl
    have hs:St _ [_,_] _:=St.take (Γ':=[_]) hs
    refine Qa7 rfl ?_
    exact ha2_ _ _ ⟨x59,cast (congrFun hQ2_ _) H,rfl,hs⟩
   intro q61 l62 hl18_ w hs
   have H:=H.2 q61 l62 hl18_
   dsimp only at H
   refine Qaa (v:=bool true) rfl rfl rfl (Qab (Qad (Qah rfl (Qay ?_))))
   refine Qbh (Qad (Qag [0,1,2,3,4,5,6] rfl ?_))
   have hs:St _ [_,_,_] _:=hs.pull 1 rfl
   have hs:St _ [_,_,_] _:=hs.pull 1 rfl
   refine Qcu g13.1 (rdL_lt g13.1 hkv17_) eb49 hkv17_ hs rfl rfl rfl rfl ?_
   have hs:=hs.iterForget
   have hs:St _ [_,_,_] _:=hs
   refine Qaa (v:=agg ((encA (encI .i16)) q61.1).toArray) rfl rfl rfl ?_
   refine Qaa (v:=int .i64 q61.2) rfl rfl rfl ?_
   refine Qa8 hs rfl rfl (z:=(agg #[int .i16 0,int .i16 0,int .i16 0,int .i16 0])) (cs:=((encA (encI .i16)) (Ar.rep 4 0))) rfl (fun _=>rfl) rfl ?_
   intro b63 w hs
   show G _ _ _ _ [_,_,_,_,_,_,_,_,_,_,_,_,_,_,_,_,_,_,_,_,_,_,_,_,_,_,_,_,_,_,_,_,_,_,_,_,_,_,_,_,_,_,_,_,_,_,_,_,_,_,_,_] _
   refine Qa8 hs rfl rfl (z:=(int .i64 0)) (cs:=((encI .i64) 0)) rfl (fun _=>rfl) rfl ?_
   intro b65 w hs
   have hs:St _ [_,_,_,_,_] _:=hs.pull 1 rfl
   refine QaH (n:=4) hs ((fkA (n:=4) (he:=(fkI .i16).len) (h1:=(fkI .i16).one)).len _) rfl rfl (vs:=((encA (encI .i16)) q61.1)) rfl rfl rfl (fun _=>rfl) ((fkA (n:=4) (he:=(fkI .i16).len) (h1:=(fkI .i16).one)).len _) ((fkA (n:=4) (he:=(fkI .i16).len) (h1:=(fkI .i16).one)).one _) ?_
   intro w hs
   have hs:St _ [_,_,_,_,_] _:=hs.pull 1 rfl
   refine QaH (n:=1) hs ((fkI .i64).len _) rfl rfl (vs:=((encI .i64) q61.2)) rfl rfl rfl (fun _=>rfl) ((fkI .i64).len _) ((fkI .i64).one _) ?_
   intro w hs
   refine Qab (Qag [0,1,2,3,4,5,6] rfl ?_)
   refine Qaa (v:=v2) rfl rfl rfl ?_
   refine Qaa (v:=int .i64 x47) rfl rfl rfl ?_
   refine QaG rfl rfl (es:=((encA (encI .i16)) q61.1)) rfl rfl (fun _=>rfl) (n:=4) (fun _=>rfl) ((fkA (n:=4) (he:=(fkI .i16).len) (h1:=(fkI .i16).one)).len _) (cells_all (hs.cells 1 rfl)) ?_
   show G _ _ _ _ [_,_,_,_,_,_,_,_,_,_,_,_,_,_,_,_,_,_,_,_,_,_,_,_,_,_,_,_,_,_,_,_,_,_,_,_,_,_,_,_,_,_,_,_,_,_,_,_,_,_,_,_] _
   refine Qaa (v:=agg (QaD (⟨x47,q61.1⟩:Qa3)).toArray) rfl rfl (QbW (cs:=(QaD (⟨x47,q61.1⟩:Qa3))) (segs:=[[int .i64 0],[int .i16 0,int .i16 0,int .i16 0,int .i16 0]]) rfl rfl (fun _=>rfl) ⟨rfl,(fun _=>rfl),rfl,(fun _=>rfl),trivial⟩ (by simp only [List.map_cons,List.map_nil,List.forall_mem_cons,List.not_mem_nil,false_implies,implies_true,and_true];exact ⟨⟨_,rfl,rfl⟩,⟨_,rfl,(fkA (n:=4) (he:=(fkI .i16).len) (h1:=(fkI .i16).one)).len _⟩⟩) (by first|rfl|(simp [ev,QaD];done)|(simp [ev,QaD];rfl))) ?_
   show G _ _ _ _ [_,_,_,_,_,_,_,_,_,_,_,_,_,_,_,_,_,_,_,_,_,_,_,_,_,_,_,_,_,_,_,_,_,_,_,_,_,_,_,_,_,_,_,_,_,_,_,_,_,_,_,_] _
   refine Qaa (v:=int .i64 a4) rfl rfl rfl ?_
   refine Qaa (v:=Value.func (Fn.func 74) #[] #[pointer (some ⟨b65,0,none⟩),pointer (some ⟨b9,0,none⟩)]) rfl rfl (QcA rfl rfl) ?_
   obtain ⟨r67,Hr67,H⟩:=H
   have hs:=hs.pull 4 rfl
   have hs:=hs.pull 4 rfl
   have hs:St _ [_,_,_,_,_] _:=hs.pull 2 rfl
   have hs:=hs.pack 3
   refine QaB (args:=[v2,agg (QaD (⟨x47,q61.1⟩:Qa3)).toArray,int .i64 a4,Value.func (Fn.func 74) #[] #[pointer (some ⟨b65,0,none⟩),pointer (some ⟨b9,0,none⟩)]]) rfl rfl (QaC rfl (callFunc_enter Tryz.func73 rfl rfl) rfl) (Qai.calls (a1:=a1) (a3:=(⟨x47,q61.1⟩:Qa3)) (a4:=a4) (a5:=q61.2) (a8:=x59) hs hr0 Hr67) ?_
   rintro _ w ⟨rfl,hs⟩
   have hs:=St.unpack (Γ:=[_,_,_]) hs
   have hs:St _ [_,_,_,_,_] _:=hs
   refine Qab ?_
   refine QaE ?_
   have hs:=hs.pull 4 rfl
   have hs:=hs.pull 3 rfl
   have hs:=hs.pull 3 rfl
   have hs:St _ [_,_,_] _:=St.take (Γ':=[_,_]) hs
   exact ih2_ _ _ ⟨r67.2.1,l62,cast (congrFun hQ2_ _) H,rfl,hs⟩
  intro hb
  rw [if_neg (b_dec_f hb)] at H
  show G _ _ _ _ [_,_,_,_,_,_,_,_,_,_,_,_,_,_,_,_,_,_,_,_,_,_,_,_,_,_,_,_,_,_,_,_,_,_,_,_,_,_,_,_,_,_,_,_,_,_,_,_,_,_,_,_] _
  refine Qab (Qad (Qal rfl ?_))
  have hs:=hs.pull 0 rfl
  have hs:=hs.pull 1 rfl
  have hs:St _ [_,_] _:=St.take (Γ':=[]) hs
  refine Qa7 rfl ?_
  exact ha1_ _ _ ⟨x46,cast (congrFun hQ1_ _) H,rfl,hs⟩
 intro ha1_
 have hs:=hs.pull 0 rfl
 have hs:=hs.pull 1 rfl
 have hs:=hs.pull 2 rfl
 have hs:St _ [_,_,_] _:=St.take (Γ':=[]) hs
 refine QaL (I:=fun n_ t w=>∃ mm15:(List (Option Nat)),∃ x16:(List (Option (List ((Ar Int 4)×Int)))),∃ x17:Int,roundsD (fun s=>Qan.b0 N a4 s.1 s.2) n_ (x16,x17) (Ex.finD (fun s=>Qan.a0 N a4 a1 a3 s Q) Q)∧Fr t (fun O=>([v2,O 1,int .i64 a4,O 3,pointer (some ⟨b5,0,none⟩),O 5,O 6,pointer (some ⟨b9,0,none⟩),O 8,O 9,O 10,O 11,O 12,O 13,O 14,O 15,int .i64 ((List.replicate ((i64w (a4+1))).toNat (none:Option (List ((Ar Int 4)×Int)))).length:Int),int .i64 x17,O 18,O 19,O 20,O 21,O 22,O 23,O 24,O 25,O 26,O 27,O 28,O 29,O 30,O 31,O 32,O 33,O 34,O 35,O 36,O 37,O 38,O 39,O 40,O 41,O 42,O 43,O 44,O 45,O 46,O 47,O 48,O 49,O 50,O 51]:List Value))∧St w0 [Cells b5 ((encA (encI .i16)) a3) 28,Rows2 101 kHM (MapO (ekA (n:=4) .i16) (int .i64)) v7 mm15 x16,Cells b9 ([v7]) 99] w) N ⟨List.replicate ((i64w (a4+1))).toNat (none:Option Nat),List.replicate ((i64w (a4+1))).toNat (none:Option (List ((Ar Int 4)×Int))),0,Ho,rfl,hs⟩ ?_ ?_
 ·
  rintro _ _ ⟨mm15,x16,x17,h,_⟩
  exact (h:False).elim
 intro n_ ih1_
 rintro t w ⟨mm15,x16,x17,Ho,hf,hs⟩
 obtain ⟨O,rfl⟩:=hf.open
 show G _ _ _ _ [_,_,_,_,_,_,_,_,_,_,_,_,_,_,_,_,_,_,_,_,_,_,_,_,_,_,_,_,_,_,_,_,_,_,_,_,_,_,_,_,_,_,_,_,_,_,_,_,_,_,_,_] _
 obtain ⟨x21_,hQ1_,H⟩:=roundsD_succ Ho
 have H:Qan.b0 N a4 x16 x17 x21_:=H
 unfold Qan.b0 at H
 refine Qad (Qag [0] rfl ?_)
 refine Qap (B:=decide (x17< ((List.replicate ((i64w (a4+1))).toNat (none:Option (List ((Ar Int 4)×Int)))).length:Int))) rfl rfl rfl ?_ ?_
 ·
  intro hb
  rw [if_pos (b_dec_t hb)] at H
  show G _ _ _ _ [_,_,_,_,_,_,_,_,_,_,_,_,_,_,_,_,_,_,_,_,_,_,_,_,_,_,_,_,_,_,_,_,_,_,_,_,_,_,_,_,_,_,_,_,_,_,_,_,_,_,_,_] _
  refine Qab (Qad (Qah rfl (Qay (Qad ?_))))
  refine Qbh (Qad (Qag [0,1] rfl ?_))
  refine Qaa (v:=int .i64 x17) rfl rfl rfl ?_
  refine Qaa (v:=int .i64 x17) rfl rfl rfl (Qab (Qag [0,1,2,3,4] rfl ?_))
  refine Qat rfl rfl (v:=v7) rfl rfl (fun _=>rfl) (cells_load (hs.cells 2 rfl) 0 1 rfl) ?_
  refine Qaa (v:=int .i64 x17) rfl rfl rfl ?_
  refine Qcr (ek:=(ekA (n:=4) .i16)) (en:=(int .i64)) hs rfl rfl rfl ?_
  intro b18 w hs
  show G _ _ _ _ [_,_,_,_,_,_,_,_,_,_,_,_,_,_,_,_,_,_,_,_,_,_,_,_,_,_,_,_,_,_,_,_,_,_,_,_,_,_,_,_,_,_,_,_,_,_,_,_,_,_,_,_] _
  obtain ⟨g2,H⟩:=ite_getD H
  refine Qbb fkHM none (hs.r2row 2 rfl) rfl (fun _=>rfl) g2.1 (hs.r2lt 2 rfl g2.2) rfl rfl rfl rfl rfl ?_
  intro p20 hp20 lp20 op20
  have hs:St _ [_,_,_,_] _:=hs.pull 2 rfl
  refine Qb9 (I:=(MapO (ekA (n:=4) .i16) (int .i64))) (h':=some b18) (x':=some ([]:(List ((Ar Int 4)×Int)))) fkHM g2.1 g2.2 op20 hs rfl rfl rfl rfl rfl (fun _=>rfl) ?_
  intro w hs
  refine Qab ?_
  refine QaE (Qag [0,1] rfl ?_)
  refine Qaa (v:=int .i64 (i64w (x17+1))) rfl rfl rfl ?_
  refine Qaa (v:=int .i64 (i64w (x17+1))) rfl rfl rfl (Qab ?_)
  have hs:=hs.pull 2 rfl
  have hs:=hs.pull 1 rfl
  have hs:=hs.pull 2 rfl
  have hs:St _ [_,_,_] _:=St.take (Γ':=[]) hs
  exact ih1_ _ _ ⟨stL mm15 x17 (some b18),stL x16 x17 (some ([]:(List ((Ar Int 4)×Int)))),i64w (x17+1),cast (congrFun hQ1_ _) H,rfl,hs⟩
 intro hb
 rw [if_neg (b_dec_f hb)] at H
 refine Qab (Qad (Qal rfl ?_))
 have hs:=hs.pull 1 rfl
 have hs:=hs.pull 2 rfl
 have hs:=hs.pull 2 rfl
 have hs:St _ [_,_,_] _:=St.take (Γ':=[]) hs
 refine Qa7 rfl ?_
 exact ha1_ _ _ ⟨mm15,x16,cast (congrFun hQ1_ _) H,rfl,hs⟩
def Qau.post (w0:World) (r:(List Int)) (v:Value) (w:World):Prop:=St w0 [Row 2 (K.int .i64) v r] w
theorem Qau.calls {N:Nat} {a1:(List Int)} {a3:(Ar Int 4)} {a4:Int} {a5:Bool} {v2:Value} {w0:World} {Q:(List Int)→Prop} (hr0:RdRow (K.int .i16) w0 v2 a1) (H:Qau.f N a1 a3 a4 a5 Q):
 Calls Tryz.prog 44 #[v2,agg ((encA (encI .i16)) a3).toArray,int .i64 a4,bool a5] w0 fun e w=>∃ v,e= .returned v∧∃ r,Q r∧Qau.post w0 r v w:=by
 unfold Qau.f at H
 have hs:St w0 [] w0:=St.refl w0
 refine calls_of_g (n:=30) Tryz.func44 rfl rfl ?_
 show G _ _ _ _ [_,_,_,_,_,_,_,_,_,_,_,_,_,_,_,_,_,_,_,_,_,_,_,_,_,_,_,_,_,_,_,_,_,_] _
 refine Qad (Qag [0,1] rfl ?_)
 refine Qbq hs rfl rfl (cs:=((encA (encI .i16)) a3)) rfl rfl ?_
 intro b6 w hs
 show G _ _ _ _ [_,_,_,_,_,_,_,_,_,_,_,_,_,_,_,_,_,_,_,_,_,_,_,_,_,_,_,_,_,_,_,_,_,_] _
 refine Qaa (v:=slice none 0 0) rfl rfl rfl (Qab (Qad (Qag [0,1] rfl ?_)))
 refine QbV (κ:=(K.int .i64)) hs rfl rfl rfl rfl (fun _=>rfl) ?_
 intro v8 w hs
 refine Qaa (v:=v8) rfl rfl rfl ?_
 show G _ _ _ _ [_,_,_,_,_,_,_,_,_,_,_,_,_,_,_,_,_,_,_,_,_,_,_,_,_,_,_,_,_,_,_,_,_,_] _
 refine Qab (Qad (Qad (Qag [0,1,2,3,4,5] rfl ?_)))
 refine Qaa (v:=v2) rfl rfl rfl ?_
 refine QaG rfl rfl (es:=((encA (encI .i16)) a3)) rfl rfl (fun _=>rfl) (n:=4) (fun _=>rfl) ((fkA (n:=4) (he:=(fkI .i16).len) (h1:=(fkI .i16).one)).len _) (cells_all (hs.cells 1 rfl)) ?_
 refine Qaa (v:=int .i64 a4) rfl rfl rfl ?_
 refine QaB (args:=[v2,agg ((encA (encI .i16)) a3).toArray,int .i64 a4]) rfl rfl (QaC rfl (callFunc_enter Tryz.func60 rfl rfl) rfl) (Qan.calls (a1:=a1) (a3:=a3) (a4:=a4) (hs.rd hr0) H) ?_
 rintro v11 w ⟨r10,H,_,mm12,rfl,hs2⟩
 try dsimp only at H
 have hs:St _ [_,_,_] _:=hs.call hs2
 refine Qcq hs 0 rfl rfl rfl rfl rfl rfl ?_
 show G _ _ _ _ [_,_,_,_,_,_,_,_,_,_,_,_,_,_,_,_,_,_,_,_,_,_,_,_,_,_,_,_,_,_,_,_,_,_] _
 refine Qaa (v:=int .i64 0) rfl rfl rfl (Qab ?_)
 have Ho:=H
 refine Qax (J:=fun t w=>∃ v26:Value,∃ x27:(List Int),Qau.a0 N x27 Q∧Fr t (fun O=>([O 0,O 1,O 2,O 3,O 4,O 5,O 6,O 7,O 8,v26,O 10,O 11,O 12,O 13,O 14,O 15,O 16,O 17,O 18,O 19,O 20,O 21,O 22,O 23,O 24,O 25,O 26,O 27,O 28,O 29,O 30,O 31,O 32,O 33]:List Value))∧St w0 [Row 2 (K.int .i64) v26 x27] w) ?_ ?_
 ·
  rintro t w ⟨v26,x27,H,hf,hs⟩
  obtain ⟨O,rfl⟩:=hf.open
  show G _ _ _ _ [_,_,_,_,_,_,_,_,_,_,_,_,_,_,_,_,_,_,_,_,_,_,_,_,_,_,_,_,_,_,_,_,_,_] _
  unfold Qau.a0 at H
  refine Qad (Qag [0,1] rfl ?_)
  refine Qaa (v:=v26) rfl rfl rfl ?_
  refine Qaa (v:=v26) rfl rfl rfl (Qab ?_)
  refine Qas Tryz.func44 (v:=v26) (res1 rfl rfl) ?_
  have hs:=hs.pull 0 rfl
  have hs:St _ [_] _:=St.take (Γ':=[]) hs
  exact ⟨_,rfl,_,H,hs⟩
 intro ha1_
 have hs:=hs.pull 0 rfl
 have hs:=hs.pull 1 rfl
 have hs:St _ [_,_] _:=St.take (Γ':=[_]) hs
 refine QaL (I:=fun n_ t w=>∃ v15:Value,∃ x16:(List Int),∃ x17:Int,roundsD (fun s=>Qau.b0 N r10 a5 s.1 s.2) n_ (x16,x17) (Ex.finD (fun s=>Qau.a0 N s Q) Q)∧Fr t (fun O=>([O 0,O 1,O 2,bool a5,O 4,O 5,O 6,O 7,O 8,v15,O 10,O 11,O 12,O 13,O 14,O 15,v11,int .i64 (r10.length:Int),int .i64 x17,O 19,O 20,O 21,O 22,O 23,O 24,O 25,O 26,O 27,O 28,O 29,O 30,O 31,O 32,O 33]:List Value))∧St w0 [Row 2 (K.int .i64) v15 x16,Rows2 101 kHM (MapO (ekA (n:=4) .i16) (int .i64)) v11 mm12 r10] w) N ⟨v8,([]:List Int),0,Ho,rfl,hs⟩ ?_ ?_
 ·
  rintro _ _ ⟨v15,x16,x17,h,_⟩
  exact (h:False).elim
 intro n_ ih1_
 rintro t w ⟨v15,x16,x17,Ho,hf,hs⟩
 obtain ⟨O,rfl⟩:=hf.open
 show G _ _ _ _ [_,_,_,_,_,_,_,_,_,_,_,_,_,_,_,_,_,_,_,_,_,_,_,_,_,_,_,_,_,_,_,_,_,_] _
 obtain ⟨x2_,hQ1_,H⟩:=roundsD_succ Ho
 have H:Qau.b0 N r10 a5 x16 x17 x2_:=H
 unfold Qau.b0 at H
 refine Qad (Qag [0] rfl ?_)
 refine Qap (B:=decide (x17< (r10.length:Int))) rfl rfl rfl ?_ ?_
 ·
  intro hb
  rw [if_pos (b_dec_t hb)] at H
  refine Qab (Qad (Qah rfl (Qay (Qad ?_))))
  refine Qax (J:=(fun t w=>∃ v23:Value,∃ x24:(List Int),Qau.j2 N x17 x24 x2_∧Fr t (fun O=>([O 0,O 1,O 2,bool a5,O 4,O 5,O 6,O 7,O 8,v23,O 10,O 11,O 12,O 13,O 14,O 15,v11,int .i64 (r10.length:Int),int .i64 x17,O 19,O 20,O 21,O 22,O 23,O 24,O 25,O 26,O 27,O 28,O 29,O 30,O 31,O 32,O 33]:List Value))∧St w0 [Row 2 (K.int .i64) v23 x24,Rows2 101 kHM (MapO (ekA (n:=4) .i16) (int .i64)) v11 mm12 r10] w)) ?_ ?_
  ·
   rintro t w ⟨v23,x24,H,hf,hs⟩
   obtain ⟨O,rfl⟩:=hf.open
   show G _ _ _ _ [_,_,_,_,_,_,_,_,_,_,_,_,_,_,_,_,_,_,_,_,_,_,_,_,_,_,_,_,_,_,_,_,_,_] _
   unfold Qau.j2 at H
   refine Qag [0,1] rfl ?_
   refine Qaa (v:=int .i64 (i64w (x17+1))) rfl rfl rfl ?_
   refine Qaa (v:=int .i64 (i64w (x17+1))) rfl rfl rfl (Qab ?_)
   have hs:=hs.pull 1 rfl
   have hs:=hs.pull 1 rfl
   have hs:St _ [_,_] _:=St.take (Γ':=[]) hs
   exact ih1_ _ _ ⟨v23,x24,i64w (x17+1),cast (congrFun hQ1_ _) H,rfl,hs⟩
  intro ha
  refine Qad (Qag [0,1,2,3,4] rfl ?_)
  refine Qaa (v:=int .i64 x17) rfl rfl rfl ?_
  obtain ⟨g1,H⟩:=ite_getD H
  refine Qbb fkHM none (hs.r2row 1 rfl) rfl (fun _=>rfl) g1.1 (hs.r2lt 1 rfl g1.2) rfl rfl rfl rfl rfl ?_
  intro p18 hp18 lp18 op18
  show G _ _ _ _ [_,_,_,_,_,_,_,_,_,_,_,_,_,_,_,_,_,_,_,_,_,_,_,_,_,_,_,_,_,_,_,_,_,_] _
  refine Qat rfl rfl (v:=Value.map (rdL mm12 x17 none)) rfl rfl (fun _=>rfl) hp18 ?_
  refine Qaa (v:=int .i64 x17) rfl rfl rfl ?_
  refine Qaa (v:=Value.map (rdL mm12 x17 none)) rfl rfl rfl ?_
  show G _ _ _ _ [_,_,_,_,_,_,_,_,_,_,_,_,_,_,_,_,_,_,_,_,_,_,_,_,_,_,_,_,_,_,_,_,_,_] _
  refine Qab (Qad (Qag [0,1,2,3,4] rfl ?_))
  refine Qaa (v:=Value.map (rdL mm12 x17 none)) rfl rfl rfl ?_
  refine Qaa (v:=int .i64 (((rdL r10 x17 none).getD []).length:Int)) rfl rfl (QcM (q:=rdL mm12 x17 none) (kv:=rdL r10 x17 none) (hs.r2mp 1 rfl g1.1 g1.2) rfl Tryz.underlying101 rfl) ?_
  refine Qaa (v:=bool (decide ((((rdL r10 x17 none).getD []).length:Int)>0))) rfl rfl rfl ?_
  refine Qaa (v:=bool a5) rfl rfl rfl ?_
  refine Qap (B:=(decide ((((rdL r10 x17 none).getD []).length:Int)>0))==a5) rfl rfl rfl ?_ ?_
  ·
   intro hb
   rw [if_pos (b_beq_t hb)] at H
   refine Qab (Qah rfl (Qag [0,1,2,3,4] rfl ?_))
   refine Qaa (v:=v15) rfl rfl rfl ?_
   refine Qaa (v:=int .i64 x17) rfl rfl rfl ?_
   show G _ _ _ _ [_,_,_,_,_,_,_,_,_,_,_,_,_,_,_,_,_,_,_,_,_,_,_,_,_,_,_,_,_,_,_,_,_,_] _
   refine QbZ (fkI .i64) (y:=x17) hs rfl rfl rfl rfl (fun _=>rfl) (zv:=(int .i64 0)) (fun _=>rfl) rfl (by decide) (by decide) rfl ?_
   intro v19 w hs
   show G _ _ _ _ [_,_,_,_,_,_,_,_,_,_,_,_,_,_,_,_,_,_,_,_,_,_,_,_,_,_,_,_,_,_,_,_,_,_] _
   have hs:St _ [_,_,_] _:=hs.pull 1 rfl
   obtain ⟨g,H⟩:=ite_getD H
   refine QbU (fkI .i64) (zv:=(int .i64 0)) (B:=8) hs (hs.row 1 rfl) rfl rfl rfl rfl rfl rfl rfl rfl rfl (by decide) rfl rfl (by decide) (by omega) ?_
   intro v21 w hs
   refine Qaa (v:=v21) rfl rfl rfl (Qab ?_)
   refine QaE ?_
   have hs:=hs.pull 2 rfl
   have hs:=hs.pull 1 rfl
   have hs:St _ [_,_] _:=St.take (Γ':=[_]) hs
   exact ha _ _ ⟨v21,x16++([x17]),H,rfl,hs⟩
  intro hb
  rw [if_neg (b_beq_f hb)] at H
  show G _ _ _ _ [_,_,_,_,_,_,_,_,_,_,_,_,_,_,_,_,_,_,_,_,_,_,_,_,_,_,_,_,_,_,_,_,_,_] _
  refine Qab (Qal rfl (Qay ?_))
  refine QaE ?_
  have hs:=hs.pull 1 rfl
  have hs:=hs.pull 1 rfl
  have hs:St _ [_,_] _:=St.take (Γ':=[]) hs
  exact ha _ _ ⟨v15,x16,H,rfl,hs⟩
 intro hb
 rw [if_neg (b_dec_f hb)] at H
 refine Qab (Qad (Qal rfl ?_))
 have hs:=hs.pull 0 rfl
 have hs:St _ [_] _:=St.take (Γ':=[_]) hs
 refine Qa7 rfl ?_
 exact ha1_ _ _ ⟨v15,x16,cast (congrFun hQ1_ _) H,rfl,hs⟩
def QbG.post (w0:World) (r:((List Int)×Int)) (v:Value) (w:World):Prop:=∃ u1:Value,v=tuple #[u1,int .i64 r.2]∧St w0 [Row 2 (K.int .i64) u1 r.1] w
theorem QbG.calls {N:Nat} {a1:(List Int)} {a3:(Ar Int 4)} {a4:Int} {v2:Value} {w0:World} {Q:((List Int)×Int)→Prop} (hr0:RdRow (K.int .i16) w0 v2 a1) (H:QbG.f N a1 a3 a4 Q):
 Calls Tryz.prog 17 #[v2,agg ((encA (encI .i16)) a3).toArray,int .i64 a4] w0 fun e w=>∃ v,e= .returned v∧∃ r,Q r∧QbG.post w0 r v w:=by
 unfold QbG.f at H
 have hs:St w0 [] w0:=St.refl w0
 refine calls_of_g (n:=17) Tryz.func17 rfl rfl ?_
 show G _ _ _ _ [_,_,_,_,_,_,_,_,_,_,_,_,_,_,_,_,_,_,_,_] _
 refine Qad (Qag [0,1,2] rfl ?_)
 refine Qbq hs rfl rfl (cs:=((encA (encI .i16)) a3)) rfl rfl ?_
 intro b5 w hs
 refine Qaa (v:=slice none 0 0) rfl rfl rfl ?_
 show G _ _ _ _ [_,_,_,_,_,_,_,_,_,_,_,_,_,_,_,_,_,_,_,_] _
 refine Qaa (v:=int .i64 0) rfl rfl rfl (Qab (Qad (Qad (Qag [0,1,2,3,4] rfl ?_))))
 refine Qaa (v:=v2) rfl rfl rfl ?_
 refine QaG rfl rfl (es:=((encA (encI .i16)) a3)) rfl rfl (fun _=>rfl) (n:=4) (fun _=>rfl) ((fkA (n:=4) (he:=(fkI .i16).len) (h1:=(fkI .i16).one)).len _) (cells_all (hs.cells 0 rfl)) ?_
 show G _ _ _ _ [_,_,_,_,_,_,_,_,_,_,_,_,_,_,_,_,_,_,_,_] _
 refine Qaa (v:=int .i64 a4) rfl rfl rfl ?_
 obtain ⟨r7,Hr7,H⟩:=H
 refine QaB (args:=[v2,agg ((encA (encI .i16)) a3).toArray,int .i64 a4]) rfl rfl (QaC rfl (callFunc_enter Tryz.func43 rfl rfl) rfl) (Qbk.calls (a1:=a1) (a3:=a3) (a4:=a4) (hs.rd hr0) Hr7) ?_
 rintro _ w ⟨rfl,hs2⟩
 have hs:St _ [_] _:=hs.call hs2
 refine Qaa (v:=int .i64 r7) rfl rfl rfl ?_
 show G _ _ _ _ [_,_,_,_,_,_,_,_,_,_,_,_,_,_,_,_,_,_,_,_] _
 refine Qab (Qad (Qag [0,1] rfl ?_))
 refine Qaa (v:=int .i64 r7) rfl rfl rfl ?_
 refine Qap (B:=r7 !=0) rfl rfl rfl ?_ ?_
 ·
  intro hb
  rw [if_neg (b_bne_t hb)] at H
  show G _ _ _ _ [_,_,_,_,_,_,_,_,_,_,_,_,_,_,_,_,_,_,_,_] _
  refine Qab (Qah rfl (Qad (Qag [0,1,2] rfl ?_)))
  refine Qaa (v:=int .i64 r7) rfl rfl rfl ?_
  refine Qaa (v:=slice none 0 0) rfl rfl rfl ?_
  refine Qaa (v:=int .i64 r7) rfl rfl rfl ?_
  show G _ _ _ _ [_,_,_,_,_,_,_,_,_,_,_,_,_,_,_,_,_,_,_,_] _
  refine Qab ?_
  refine Qas Tryz.func17 (v:=tuple #[slice none 0 0,int .i64 r7]) (resN (l:=Tryz.f17.results.toList) (vs:=[slice none 0 0,int .i64 r7]) rfl ⟨rfl,rfl,trivial⟩ (by simp)) ?_
  have hs:=hs.nil 2 (K.int .i64)
  have hs:=hs.pull 0 rfl
  have hs:St _ [_] _:=St.take (Γ':=[_]) hs
  exact ⟨_,rfl,_,H,(slice none 0 0),rfl,hs⟩
 intro hb
 rw [if_pos (b_bne_f hb)] at H
 refine Qab (Qal rfl (Qay (Qad (Qag [0,1,2,3,4,5] rfl ?_))))
 refine Qaa (v:=v2) rfl rfl rfl ?_
 show G _ _ _ _ [_,_,_,_,_,_,_,_,_,_,_,_,_,_,_,_,_,_,_,_] _
 refine QaG rfl rfl (es:=((encA (encI .i16)) a3)) rfl rfl (fun _=>rfl) (n:=4) (fun _=>rfl) ((fkA (n:=4) (he:=(fkI .i16).len) (h1:=(fkI .i16).one)).len _) (cells_all (hs.cells 0 rfl)) ?_
 refine Qaa (v:=int .i64 a4) rfl rfl rfl ?_
 refine QaB (args:=[v2,agg ((encA (encI .i16)) a3).toArray,int .i64 a4,bool true]) rfl rfl (QaC rfl (callFunc_enter Tryz.func44 rfl rfl) rfl) (Qau.calls (a1:=a1) (a3:=a3) (a4:=a4) (a5:=true) (hs.rd hr0) H) ?_
 rintro v9 w ⟨r8,H,hs2⟩
 try dsimp only at H
 have hs:St _ [_,_] _:=hs.call hs2
 show G _ _ _ _ [_,_,_,_,_,_,_,_,_,_,_,_,_,_,_,_,_,_,_,_] _
 refine Qaa (v:=v9) rfl rfl rfl ?_
 refine Qaa (v:=int .i64 0) rfl rfl rfl (Qab ?_)
 refine Qas Tryz.func17 (v:=tuple #[v9,int .i64 0]) (resN (l:=Tryz.f17.results.toList) (vs:=[v9,int .i64 0]) rfl ⟨rfl,rfl,trivial⟩ (by simp)) ?_
 have hs:=hs.pull 0 rfl
 have hs:St _ [_] _:=St.take (Γ':=[_]) hs
 exact ⟨_,rfl,_,H,v9,rfl,hs⟩
def QbA.post (w0:World) (r:Int) (v:Value) (w:World):Prop:=v=int .i64 r∧St w0 [] w
theorem QbA.calls {N:Nat} {a1:(List Int)} {a3:(Ar Int 4)} {a4:Int} {v2:Value} {w0:World} {r:Int} (hr0:RdRow (K.int .i16) w0 v2 a1) (H:QbA.f N a1 a3 a4=some r):
 Calls Tryz.prog 45 #[v2,agg ((encA (encI .i16)) a3).toArray,int .i64 a4] w0 fun e w=>∃ v,e= .returned v∧QbA.post w0 r v w:=by
 unfold QbA.f at H
 have hs:St w0 [] w0:=St.refl w0
 refine calls_of_g (n:=11) Tryz.func45 rfl rfl ?_
 show G _ _ _ _ [_,_,_,_,_,_,_,_,_,_,_,_,_,_] _
 refine Qad (Qag [0,1] rfl ?_)
 refine Qbq hs rfl rfl (cs:=((encA (encI .i16)) a3)) rfl rfl ?_
 intro b5 w hs
 refine Qaa (v:=int .i64 0) rfl rfl rfl (Qab (Qad (Qad (Qag [0,1,2,3] rfl ?_))))
 refine Qaa (v:=v2) rfl rfl rfl ?_
 show G _ _ _ _ [_,_,_,_,_,_,_,_,_,_,_,_,_,_] _
 refine QaG rfl rfl (es:=((encA (encI .i16)) a3)) rfl rfl (fun _=>rfl) (n:=4) (fun _=>rfl) ((fkA (n:=4) (he:=(fkI .i16).len) (h1:=(fkI .i16).one)).len _) (cells_all (hs.cells 0 rfl)) ?_
 obtain ⟨r7,Hr7,H⟩:=bind_get H
 refine QaB (args:=[v2,agg ((encA (encI .i16)) a3).toArray]) rfl rfl (QaC rfl (callFunc_enter Tryz.func26 rfl rfl) rfl) (QaY.calls (a1:=a1) (a3:=a3) (hs.rd hr0) Hr7) ?_
 rintro _ w ⟨rfl,hs2⟩
 have hs:St _ [_] _:=hs.call hs2
 cases r7 with
 |true=>
  rw [if_pos rfl] at H
  show G _ _ _ _ [_,_,_,_,_,_,_,_,_,_,_,_,_,_] _
  refine Qaa (v:=bool false) rfl rfl rfl (Qab (Qal rfl (Qay (Qad (Qad (Qag [0,1,2] rfl ?_))))))
  refine Qaa (v:=int .i64 a4) rfl rfl rfl ?_
  obtain ⟨r8,Hr8,H⟩:=bind_get H
  refine QaB (args:=[int .i64 a4,int .i64 0,int .i64 120]) rfl rfl (QaC rfl (callFunc_enter Tryz.func61 rfl rfl) rfl) (QbD.calls (a1:=a4) (a2:=0) (a3:=120) Hr8) ?_
  rintro _ w ⟨rfl,hs2⟩
  have hs:St _ [_] _:=hs.call hs2
  cases r8 with
  |true=>
   rw [if_pos rfl] at H
   show G _ _ _ _ [_,_,_,_,_,_,_,_,_,_,_,_,_,_] _
   refine Qaa (v:=bool false) rfl rfl rfl (Qab (Qal rfl (Qay (Qad (Qag [0] rfl ?_)))))
   refine Qaa (v:=int .i64 0) rfl rfl rfl (Qab ?_)
   obtain rfl:=QsJ H
   refine Qas Tryz.func45 (v:=int .i64 0) (res1 rfl rfl) ?_
   have hs:St _ [] _:=St.take (Γ':=[_]) hs
   exact ⟨_,rfl,rfl,hs⟩
  |false=>
   rw [if_neg Bool.false_ne_true] at H
   show G _ _ _ _ [_,_,_,_,_,_,_,_,_,_,_,_,_,_] _
   refine Qaa (v:=bool true) rfl rfl rfl (Qab (Qah rfl (Qad (Qag [0] rfl ?_))))
   refine Qaa (v:=int .i64 2) rfl rfl rfl (Qab ?_)
   obtain rfl:=QsJ H
   refine Qas Tryz.func45 (v:=int .i64 2) (res1 rfl rfl) ?_
   have hs:St _ [] _:=St.take (Γ':=[_]) hs
   exact ⟨_,rfl,rfl,hs⟩
 |false=>
  rw [if_neg Bool.false_ne_true] at H
  refine Qaa (v:=bool true) rfl rfl rfl ?_
  show G _ _ _ _ [_,_,_,_,_,_,_,_,_,_,_,_,_,_] _
  refine Qab (Qah rfl (Qad (Qag [0] rfl ?_)))
  refine Qaa (v:=int .i64 1) rfl rfl rfl (Qab ?_)
  obtain rfl:=QsJ H
  refine Qas Tryz.func45 (v:=int .i64 1) (res1 rfl rfl) ?_
  have hs:St _ [] _:=St.take (Γ':=[_]) hs
  exact ⟨_,rfl,rfl,hs⟩
def QaW.post (w0:World) (r:Int) (v:Value) (w:World):Prop:=v=int .i64 r∧St w0 [] w
theorem QaW.calls {N:Nat} {a1:(List Int)} {a3:(Ar Int 4)} {v2:Value} {w0:World} {r:Int} (hr0:RdRow (K.int .i16) w0 v2 a1) (H:QaW.f N a1 a3=some r):
 Calls Tryz.prog 76 #[v2,agg ((encA (encI .i16)) a3).toArray] w0 fun e w=>∃ v,e= .returned v∧QaW.post w0 r v w:=by
 unfold QaW.f at H
 have hs:St w0 [] w0:=St.refl w0
 refine calls_of_g (n:=26) Tryz.func76 rfl rfl ?_
 show G _ _ _ _ [_,_,_,_,_,_,_,_,_,_,_,_,_,_,_,_,_,_,_,_,_,_,_,_,_,_,_,_] _
 refine Qad (Qag [0,1] rfl ?_)
 refine Qbq hs rfl rfl (cs:=((encA (encI .i16)) a3)) rfl rfl ?_
 intro b4 w hs
 show G _ _ _ _ [_,_,_,_,_,_,_,_,_,_,_,_,_,_,_,_,_,_,_,_,_,_,_,_,_,_,_,_] _
 refine Qaa (v:=int .i64 0) rfl rfl rfl (Qab (Qad (Qag [0] rfl ?_)))
 refine Qaa (v:=int .i64 0) rfl rfl rfl (Qab (Qad (Qad (Qag [0,1,2,3] rfl ?_))))
 refine Qaa (v:=v2) rfl rfl rfl ?_
 refine Qbc (hs.rd hr0) rfl rfl rfl rfl rfl ?_
 show G _ _ _ _ [_,_,_,_,_,_,_,_,_,_,_,_,_,_,_,_,_,_,_,_,_,_,_,_,_,_,_,_] _
 refine Qaa (v:=int .i64 (i64w ((a1.length:Int) - 1))) rfl rfl rfl ?_
 refine Qaa (v:=int .i64 (i64w ((a1.length:Int) - 1))) rfl rfl rfl (Qab ?_)
 obtain ⟨o1_,Ho,Hr1_⟩:=bind_get H
 refine Qax (J:=fun t w=>∃ x8:Int,QaW.a0 N x8=some r∧Fr t (fun O=>([O 0,O 1,O 2,O 3,O 4,int .i64 x8,O 6,O 7,O 8,O 9,O 10,O 11,O 12,O 13,O 14,O 15,O 16,O 17,O 18,O 19,O 20,O 21,O 22,O 23,O 24,O 25,O 26,O 27]:List Value))∧St w0 [] w) ?_ ?_
 ·
  rintro t w ⟨x8,H,hf,hs⟩
  obtain ⟨O,rfl⟩:=hf.open
  show G _ _ _ _ [_,_,_,_,_,_,_,_,_,_,_,_,_,_,_,_,_,_,_,_,_,_,_,_,_,_,_,_] _
  unfold QaW.a0 at H
  refine Qad (Qag [0,1] rfl ?_)
  refine Qaa (v:=int .i64 x8) rfl rfl rfl ?_
  refine Qaa (v:=int .i64 x8) rfl rfl rfl (Qab ?_)
  obtain rfl:=QsJ H
  refine Qas Tryz.func76 (v:=int .i64 x8) (res1 rfl rfl) ?_
  have hs:St _ [] _:=St.take (Γ':=[]) hs
  exact ⟨_,rfl,rfl,hs⟩
 intro ha1_
 have hs:=hs.pull 0 rfl
 have hs:St _ [_] _:=St.take (Γ':=[]) hs
 refine QaL (I:=fun n_ t w=>∃ x6:Int,∃ x7:Int,rounds (fun s=>QaW.b0 N a1 a3 s.1 s.2) n_ (x6,x7)=some o1_∧Fr t (fun O=>([v2,O 1,O 2,pointer (some ⟨b4,0,none⟩),O 4,int .i64 x6,int .i64 x7,O 7,O 8,O 9,O 10,O 11,O 12,O 13,O 14,O 15,O 16,O 17,O 18,O 19,O 20,O 21,O 22,O 23,O 24,O 25,O 26,O 27]:List Value))∧St w0 [Cells b4 ((encA (encI .i16)) a3) 28] w) N ⟨0,i64w ((a1.length:Int) - 1),Ho,rfl,hs⟩ ?_ ?_
 ·
  rintro _ _ ⟨x6,x7,h,_⟩
  exact rounds_zero h
 intro n_ ih1_
 rintro t w ⟨x6,x7,Ho,hf,hs⟩
 obtain ⟨O,rfl⟩:=hf.open
 show G _ _ _ _ [_,_,_,_,_,_,_,_,_,_,_,_,_,_,_,_,_,_,_,_,_,_,_,_,_,_,_,_] _
 obtain ⟨x4_,H,Hx1_⟩:=rounds_succ Ho
 have H:QaW.b0 N a1 a3 x6 x7=some x4_:=H
 unfold QaW.b0 at H
 refine Qad (Qad (Qag [0,1] rfl ?_))
 refine Qaa (v:=int .i64 x7) rfl rfl rfl ?_
 refine Qap (B:=decide (x7≥0)) rfl rfl rfl ?_ ?_
 ·
  intro hb
  rw [if_pos (b_dec_t hb)] at H
  refine Qab (Qah rfl (Qay (Qad ?_)))
  refine Qbh ?_
  obtain ⟨gd1,H⟩:=ite_get H
  obtain ⟨ad2_,ad2_N,ad2_C,had2_⟩:=sl_at (hs.rd hr0) gd1.1 gd1.2
  obtain ⟨gd3,H⟩:=ite_get H
  refine Qbe ?_
  intro T hT
  refine QbM (n:=14) rfl [0,1,2,3,4,5,6,7,8,9,10,11,12,13] [0,1,2,3,4,5,6,7,8,9,10,11,12,13] rfl rfl (Inv:=fun D t w=>∃ O:Nat→Value,t=[v2,O 1,O 2,pointer (some ⟨b4,0,none⟩),O 4,cnd (D 13) (int .i64 (i64w ((i64w (x6*(i64w ((i64w (rdL a1 x7 0))+1))))+(i64w (a3.get x7 0))))) (int .i64 x6),int .i64 x7,O 7,O 8,O 9,int .i64 x7,bool true,O 12,O 13,cnd (D 0) (int .i64 x6) (O 14),cnd (D 1) v2 (O 15),cnd (D 2) (int .i64 x7) (O 16),cnd (D 3) (pointer (some (ad2_.add (x7.toNat*1)))) (O 17),cnd (D 4) (int .i16 (rdL a1 x7 0)) (O 18),cnd (D 5) (int .i64 (i64w (rdL a1 x7 0))) (O 19),cnd (D 6) (int .i64 (i64w ((i64w (rdL a1 x7 0))+1))) (O 20),cnd (D 7) (int .i64 (i64w (x6*(i64w ((i64w (rdL a1 x7 0))+1))))) (O 21),cnd (D 8) (int .i64 x7) (O 22),cnd (D 9) (pointer (some ⟨b4,0+x7.toNat*1,none⟩)) (O 23),cnd (D 10) (int .i16 (a3.get x7 0)) (O 24),cnd (D 11) (int .i64 (i64w (a3.get x7 0))) (O 25),cnd (D 12) (int .i64 (i64w ((i64w (x6*(i64w ((i64w (rdL a1 x7 0))+1))))+(i64w (a3.get x7 0))))) (O 26),O 27]∧St w0 [Cells b4 ((encA (encI .i16)) a3) 28] w) ?_ ⟨⟨⟨⟨⟨⟨⟨⟨⟨⟨⟨⟨⟨⟨trivial,?_⟩,?_⟩,?_⟩,?_⟩,?_⟩,?_⟩,?_⟩,?_⟩,?_⟩,?_⟩,?_⟩,?_⟩,?_⟩,?_⟩ ?_
  ·
   intro w hh hbw
   have hs:=hs.samew hh hbw
   exact ⟨fun i=>T.getD i undef,(by subst hT;rfl),hs⟩
  ·
   rintro D t w hD hp hcl ⟨O,ht,hs⟩ rest hk
   have q7_:=nz hcl 7 0 hD
   have q12_:=nz hcl 12 0 q7_
   have q13_:=nz hcl 13 0 q12_
   simp only [hD,q7_,q12_,q13_,cq,oT] at ht hs
   subst ht
   refine Qaa (v:=int .i64 x6) rfl rfl rfl ?_
   show G _ _ _ _ [_,_,_,_,_,_,_,_,_,_,_,_,_,_,_,_,_,_,_,_,_,_,_,_,_,_,_,_] _
   refine hk _ _ ⟨O,?_,hs.cast ?_⟩<;>simp only [oT,lq,cq,Nat.reduceBEq,q7_,q12_,q13_]
  ·
   rintro D t w hD hp hcl ⟨O,ht,hs⟩ rest hk
   have q3_:=nz hcl 3 0 hD
   have q4_:=nz hcl 4 0 q3_
   have q5_:=nz hcl 5 0 q4_
   have q6_:=nz hcl 6 0 q5_
   have q7_:=nz hcl 7 1 q6_
   have q12_:=nz hcl 12 0 q7_
   have q13_:=nz hcl 13 0 q12_
   simp only [hD,q3_,q4_,q5_,q6_,q7_,q12_,q13_,cq,oT] at ht hs
   subst ht
   refine Qaa (v:=v2) rfl rfl rfl ?_
   show G _ _ _ _ [_,_,_,_,_,_,_,_,_,_,_,_,_,_,_,_,_,_,_,_,_,_,_,_,_,_,_,_] _
   refine hk _ _ ⟨O,?_,hs.cast ?_⟩<;>simp only [oT,lq,cq,Nat.reduceBEq,q3_,q4_,q5_,q6_,q7_,q12_,q13_]
  ·
   rintro D t w hD hp hcl ⟨O,ht,hs⟩ rest hk
   have q3_:=nz hcl 3 1 hD
   have q4_:=nz hcl 4 0 q3_
   have q5_:=nz hcl 5 0 q4_
   have q6_:=nz hcl 6 0 q5_
   have q7_:=nz hcl 7 1 q6_
   have q12_:=nz hcl 12 0 q7_
   have q13_:=nz hcl 13 0 q12_
   simp only [hD,q3_,q4_,q5_,q6_,q7_,q12_,q13_,cq,oT] at ht hs
   subst ht
   refine Qaa (v:=int .i64 x7) rfl rfl rfl ?_
   show G _ _ _ _ [_,_,_,_,_,_,_,_,_,_,_,_,_,_,_,_,_,_,_,_,_,_,_,_,_,_,_,_] _
   refine hk _ _ ⟨O,?_,hs.cast ?_⟩<;>simp only [oT,lq,cq,Nat.reduceBEq,q3_,q4_,q5_,q6_,q7_,q12_,q13_]
  ·
   rintro D t w hD hp hcl ⟨O,ht,hs⟩ rest hk
   obtain ⟨p1_,p2_,_⟩:=hp
   have q4_:=nz hcl 4 0 hD
   have q5_:=nz hcl 5 0 q4_
   have q6_:=nz hcl 6 0 q5_
   have q7_:=nz hcl 7 1 q6_
   have q12_:=nz hcl 12 0 q7_
   have q13_:=nz hcl 13 0 q12_
   simp only [hD,p1_,p2_,q4_,q5_,q6_,q7_,q12_,q13_,cq,oT] at ht hs
   subst ht
   refine Qby (κ:=(K.int .i16)) (m:=1) rfl (hs.rd hr0) rfl (fun _=>rfl) gd1.1 gd1.2 had2_ rfl rfl rfl rfl rfl ?_
   show G _ _ _ _ [_,_,_,_,_,_,_,_,_,_,_,_,_,_,_,_,_,_,_,_,_,_,_,_,_,_,_,_] _
   refine hk _ _ ⟨O,?_,hs.cast ?_⟩<;>simp only [oT,lq,cq,Nat.reduceBEq,p1_,p2_,q4_,q5_,q6_,q7_,q12_,q13_]
  ·
   rintro D t w hD hp hcl ⟨O,ht,hs⟩ rest hk
   obtain ⟨p3_,_⟩:=hp
   obtain ⟨p1_,p2_,_⟩:=(hcl.get 3 (by decide)) p3_
   have q5_:=nz hcl 5 0 hD
   have q6_:=nz hcl 6 0 q5_
   have q7_:=nz hcl 7 1 q6_
   have q12_:=nz hcl 12 0 q7_
   have q13_:=nz hcl 13 0 q12_
   simp only [hD,p1_,p2_,p3_,q5_,q6_,q7_,q12_,q13_,cq,oT] at ht hs
   subst ht
   refine Qat rfl rfl (v:=int .i16 (rdL a1 x7 0)) rfl rfl (fun _=>rfl) (cellsAt_of (fkI .i16) 0 (hs.rd hr0) had2_ gd1.1 gd1.2) ?_
   show G _ _ _ _ [_,_,_,_,_,_,_,_,_,_,_,_,_,_,_,_,_,_,_,_,_,_,_,_,_,_,_,_] _
   refine hk _ _ ⟨O,?_,hs.cast ?_⟩<;>simp only [oT,lq,cq,Nat.reduceBEq,p1_,p2_,p3_,q5_,q6_,q7_,q12_,q13_]
  ·
   rintro D t w hD hp hcl ⟨O,ht,hs⟩ rest hk
   obtain ⟨p4_,_⟩:=hp
   obtain ⟨p3_,_⟩:=(hcl.get 4 (by decide)) p4_
   obtain ⟨p1_,p2_,_⟩:=(hcl.get 3 (by decide)) p3_
   have q6_:=nz hcl 6 0 hD
   have q7_:=nz hcl 7 1 q6_
   have q12_:=nz hcl 12 0 q7_
   have q13_:=nz hcl 13 0 q12_
   simp only [hD,p1_,p2_,p3_,p4_,q6_,q7_,q12_,q13_,cq,oT] at ht hs
   subst ht
   refine Qaa (v:=int .i64 (i64w (rdL a1 x7 0))) rfl rfl rfl ?_
   show G _ _ _ _ [_,_,_,_,_,_,_,_,_,_,_,_,_,_,_,_,_,_,_,_,_,_,_,_,_,_,_,_] _
   refine hk _ _ ⟨O,?_,hs.cast ?_⟩<;>simp only [oT,lq,cq,Nat.reduceBEq,p1_,p2_,p3_,p4_,q6_,q7_,q12_,q13_]
  ·
   rintro D t w hD hp hcl ⟨O,ht,hs⟩ rest hk
   obtain ⟨p5_,_⟩:=hp
   obtain ⟨p4_,_⟩:=(hcl.get 5 (by decide)) p5_
   obtain ⟨p3_,_⟩:=(hcl.get 4 (by decide)) p4_
   obtain ⟨p1_,p2_,_⟩:=(hcl.get 3 (by decide)) p3_
   have q7_:=nz hcl 7 1 hD
   have q12_:=nz hcl 12 0 q7_
   have q13_:=nz hcl 13 0 q12_
   simp only [hD,p1_,p2_,p3_,p4_,p5_,q7_,q12_,q13_,cq,oT] at ht hs
   subst ht
   refine Qaa (v:=int .i64 (i64w ((i64w (rdL a1 x7 0))+1))) rfl rfl rfl ?_
   show G _ _ _ _ [_,_,_,_,_,_,_,_,_,_,_,_,_,_,_,_,_,_,_,_,_,_,_,_,_,_,_,_] _
   refine hk _ _ ⟨O,?_,hs.cast ?_⟩<;>simp only [oT,lq,cq,Nat.reduceBEq,p1_,p2_,p3_,p4_,p5_,q7_,q12_,q13_]
  ·
   rintro D t w hD hp hcl ⟨O,ht,hs⟩ rest hk
   obtain ⟨p0_,p6_,_⟩:=hp
   obtain ⟨p5_,_⟩:=(hcl.get 6 (by decide)) p6_
   obtain ⟨p4_,_⟩:=(hcl.get 5 (by decide)) p5_
   obtain ⟨p3_,_⟩:=(hcl.get 4 (by decide)) p4_
   obtain ⟨p1_,p2_,_⟩:=(hcl.get 3 (by decide)) p3_
   have q12_:=nz hcl 12 0 hD
   have q13_:=nz hcl 13 0 q12_
   simp only [hD,p0_,p1_,p2_,p3_,p4_,p5_,p6_,q12_,q13_,cq,oT] at ht hs
   subst ht
   refine Qaa (v:=int .i64 (i64w (x6*(i64w ((i64w (rdL a1 x7 0))+1))))) rfl rfl rfl ?_
   show G _ _ _ _ [_,_,_,_,_,_,_,_,_,_,_,_,_,_,_,_,_,_,_,_,_,_,_,_,_,_,_,_] _
   refine hk _ _ ⟨O,?_,hs.cast ?_⟩<;>simp only [oT,lq,cq,Nat.reduceBEq,p0_,p1_,p2_,p3_,p4_,p5_,p6_,q12_,q13_]
  ·
   rintro D t w hD hp hcl ⟨O,ht,hs⟩ rest hk
   have q9_:=nz hcl 9 0 hD
   have q10_:=nz hcl 10 0 q9_
   have q11_:=nz hcl 11 0 q10_
   have q12_:=nz hcl 12 1 q11_
   have q13_:=nz hcl 13 0 q12_
   simp only [hD,q9_,q10_,q11_,q12_,q13_,cq,oT] at ht hs
   subst ht
   refine Qaa (v:=int .i64 x7) rfl rfl rfl ?_
   show G _ _ _ _ [_,_,_,_,_,_,_,_,_,_,_,_,_,_,_,_,_,_,_,_,_,_,_,_,_,_,_,_] _
   refine hk _ _ ⟨O,?_,hs.cast ?_⟩<;>simp only [oT,lq,cq,Nat.reduceBEq,q9_,q10_,q11_,q12_,q13_]
  ·
   rintro D t w hD hp hcl ⟨O,ht,hs⟩ rest hk
   obtain ⟨p8_,_⟩:=hp
   have q10_:=nz hcl 10 0 hD
   have q11_:=nz hcl 11 0 q10_
   have q12_:=nz hcl 12 1 q11_
   have q13_:=nz hcl 13 0 q12_
   simp only [hD,p8_,q10_,q11_,q12_,q13_,cq,oT] at ht hs
   subst ht
   refine Qbp (n:=x7) (m:=1) rfl (fun _=>rfl) gd3.1 gd3.2 rfl rfl rfl rfl rfl ?_
   show G _ _ _ _ [_,_,_,_,_,_,_,_,_,_,_,_,_,_,_,_,_,_,_,_,_,_,_,_,_,_,_,_] _
   refine hk _ _ ⟨O,?_,hs.cast ?_⟩<;>simp only [oT,lq,cq,Nat.reduceBEq,p8_,q10_,q11_,q12_,q13_]
  ·
   rintro D t w hD hp hcl ⟨O,ht,hs⟩ rest hk
   obtain ⟨p9_,_⟩:=hp
   obtain ⟨p8_,_⟩:=(hcl.get 9 (by decide)) p9_
   have q11_:=nz hcl 11 0 hD
   have q12_:=nz hcl 12 1 q11_
   have q13_:=nz hcl 13 0 q12_
   simp only [hD,p8_,p9_,q11_,q12_,q13_,cq,oT] at ht hs
   subst ht
   refine Qat rfl rfl (v:=int .i16 (a3.get x7 0)) rfl rfl (fun _=>rfl) (by rw [Nat.zero_add];exact cells_load (hs.cells 0 rfl) _ _ (encA_at (fkI .i16).len _ _ 0 gd3.1 gd3.2)) ?_
   show G _ _ _ _ [_,_,_,_,_,_,_,_,_,_,_,_,_,_,_,_,_,_,_,_,_,_,_,_,_,_,_,_] _
   refine hk _ _ ⟨O,?_,hs.cast ?_⟩<;>simp only [oT,lq,cq,Nat.reduceBEq,p8_,p9_,q11_,q12_,q13_]
  ·
   rintro D t w hD hp hcl ⟨O,ht,hs⟩ rest hk
   obtain ⟨p10_,_⟩:=hp
   obtain ⟨p9_,_⟩:=(hcl.get 10 (by decide)) p10_
   obtain ⟨p8_,_⟩:=(hcl.get 9 (by decide)) p9_
   have q12_:=nz hcl 12 1 hD
   have q13_:=nz hcl 13 0 q12_
   simp only [hD,p8_,p9_,p10_,q12_,q13_,cq,oT] at ht hs
   subst ht
   refine Qaa (v:=int .i64 (i64w (a3.get x7 0))) rfl rfl rfl ?_
   show G _ _ _ _ [_,_,_,_,_,_,_,_,_,_,_,_,_,_,_,_,_,_,_,_,_,_,_,_,_,_,_,_] _
   refine hk _ _ ⟨O,?_,hs.cast ?_⟩<;>simp only [oT,lq,cq,Nat.reduceBEq,p8_,p9_,p10_,q12_,q13_]
  ·
   rintro D t w hD hp hcl ⟨O,ht,hs⟩ rest hk
   obtain ⟨p7_,p11_,_⟩:=hp
   obtain ⟨p10_,_⟩:=(hcl.get 11 (by decide)) p11_
   obtain ⟨p9_,_⟩:=(hcl.get 10 (by decide)) p10_
   obtain ⟨p8_,_⟩:=(hcl.get 9 (by decide)) p9_
   obtain ⟨p0_,p6_,_⟩:=(hcl.get 7 (by decide)) p7_
   obtain ⟨p5_,_⟩:=(hcl.get 6 (by decide)) p6_
   obtain ⟨p4_,_⟩:=(hcl.get 5 (by decide)) p5_
   obtain ⟨p3_,_⟩:=(hcl.get 4 (by decide)) p4_
   obtain ⟨p1_,p2_,_⟩:=(hcl.get 3 (by decide)) p3_
   have q13_:=nz hcl 13 0 hD
   simp only [hD,p0_,p1_,p2_,p3_,p4_,p5_,p6_,p7_,p8_,p9_,p10_,p11_,q13_,cq,oT] at ht hs
   subst ht
   refine Qaa (v:=int .i64 (i64w ((i64w (x6*(i64w ((i64w (rdL a1 x7 0))+1))))+(i64w (a3.get x7 0))))) rfl rfl rfl ?_
   show G _ _ _ _ [_,_,_,_,_,_,_,_,_,_,_,_,_,_,_,_,_,_,_,_,_,_,_,_,_,_,_,_] _
   refine hk _ _ ⟨O,?_,hs.cast ?_⟩<;>simp only [oT,lq,cq,Nat.reduceBEq,p0_,p1_,p2_,p3_,p4_,p5_,p6_,p7_,p8_,p9_,p10_,p11_,q13_]
  ·
   rintro D t w hD hp hcl ⟨O,ht,hs⟩ rest hk
   obtain ⟨p12_,p0_,p1_,p2_,p3_,p4_,p5_,p6_,p7_,p8_,p9_,p10_,p11_,_,_⟩:=hp
   simp only [hD,p0_,p1_,p2_,p3_,p4_,p5_,p6_,p7_,p8_,p9_,p10_,p11_,p12_,cq,oT] at ht hs
   subst ht
   refine Qaa (v:=int .i64 (i64w ((i64w (x6*(i64w ((i64w (rdL a1 x7 0))+1))))+(i64w (a3.get x7 0))))) rfl rfl rfl ?_
   show G _ _ _ _ [_,_,_,_,_,_,_,_,_,_,_,_,_,_,_,_,_,_,_,_,_,_,_,_,_,_,_,_] _
   refine hk _ _ ⟨O,?_,hs.cast ?_⟩<;>simp only [oT,lq,cq,Nat.reduceBEq,p0_,p1_,p2_,p3_,p4_,p5_,p6_,p7_,p8_,p9_,p10_,p11_,p12_]
  intro D t w hall hI
  obtain ⟨O,ht,hs⟩:=hI
  have p0_:=hall 0 (by decide)
  have p1_:=hall 1 (by decide)
  have p2_:=hall 2 (by decide)
  have p3_:=hall 3 (by decide)
  have p4_:=hall 4 (by decide)
  have p5_:=hall 5 (by decide)
  have p6_:=hall 6 (by decide)
  have p7_:=hall 7 (by decide)
  have p8_:=hall 8 (by decide)
  have p9_:=hall 9 (by decide)
  have p10_:=hall 10 (by decide)
  have p11_:=hall 11 (by decide)
  have p12_:=hall 12 (by decide)
  have p13_:=hall 13 (by decide)
  simp only [p0_,p1_,p2_,p3_,p4_,p5_,p6_,p7_,p8_,p9_,p10_,p11_,p12_,p13_,cq,oT] at ht hs
  subst ht
  refine QaE (Qag [0,1,2] rfl ?_)
  refine Qaa (v:=int .i64 x7) rfl rfl rfl ?_
  refine Qaa (v:=int .i64 (i64w (x7 - 1))) rfl rfl rfl ?_
  refine Qaa (v:=int .i64 (i64w (x7 - 1))) rfl rfl rfl ?_
  show G _ _ _ _ [_,_,_,_,_,_,_,_,_,_,_,_,_,_,_,_,_,_,_,_,_,_,_,_,_,_,_,_] _
  refine Qab ?_
  obtain rfl:=QsJ H
  have hs:=hs.pull 0 rfl
  have hs:St _ [_] _:=St.take (Γ':=[]) hs
  exact ih1_ _ _ ⟨i64w ((i64w (x6*(i64w ((i64w (rdL a1 x7 0))+1))))+(i64w (a3.get x7 0))),i64w (x7 - 1),Hx1_,rfl,hs⟩
 intro hb
 rw [if_neg (b_dec_f hb)] at H
 show G _ _ _ _ [_,_,_,_,_,_,_,_,_,_,_,_,_,_,_,_,_,_,_,_,_,_,_,_,_,_,_,_] _
 refine Qab (Qal rfl ?_)
 obtain rfl:=QsJ H
 subst Hx1_
 have hs:St _ [] _:=St.take (Γ':=[_]) hs
 refine Qa7 rfl ?_
 exact ha1_ _ _ ⟨x6,Hr1_,rfl,hs⟩
def Qa5.post (w0:World) (r:(Ar Int 4)) (v:Value) (w:World):Prop:=v=agg ((encA (encI .i16)) r).toArray∧St w0 [] w
theorem Qa5.calls {N:Nat} {a1:(List Int)} {a3:Int} {v2:Value} {w0:World} {r:(Ar Int 4)} (hr0:RdRow (K.int .i16) w0 v2 a1) (H:Qa5.f N a1 a3=some r):
 Calls Tryz.prog 77 #[v2,int .i64 a3] w0 fun e w=>∃ v,e= .returned v∧Qa5.post w0 r v w:=by
 unfold Qa5.f at H
 have hs:St w0 [] w0:=St.refl w0
 refine calls_of_g (n:=29) Tryz.func77 rfl rfl ?_
 show G _ _ _ _ [_,_,_,_,_,_,_,_,_,_,_,_,_,_,_,_,_,_,_,_,_,_,_,_,_,_,_,_,_,_,_] _
 refine Qad (Qag [0] rfl ?_)
 refine Qa8 hs rfl rfl (z:=(agg #[int .i16 0,int .i16 0,int .i16 0,int .i16 0])) (cs:=((encA (encI .i16)) (Ar.rep 4 0))) rfl (fun _=>rfl) rfl ?_
 intro b4 w hs
 refine Qab (Qad (Qag [0,1,2] rfl ?_))
 refine Qaa (v:=agg ((encA (encI .i16)) (Ar.rep 4 0)).toArray) rfl rfl (QbK rfl rfl) ?_
 show G _ _ _ _ [_,_,_,_,_,_,_,_,_,_,_,_,_,_,_,_,_,_,_,_,_,_,_,_,_,_,_,_,_,_,_] _
 refine Qa8 hs rfl rfl (z:=(agg #[int .i16 0,int .i16 0,int .i16 0,int .i16 0])) (cs:=((encA (encI .i16)) (Ar.rep 4 0))) rfl (fun _=>rfl) rfl ?_
 intro b6 w hs
 refine QaH (n:=4) hs ((fkA (n:=4) (he:=(fkI .i16).len) (h1:=(fkI .i16).one)).len _) rfl rfl (vs:=((encA (encI .i16)) (Ar.rep 4 0))) rfl rfl rfl (fun _=>rfl) ((fkA (n:=4) (he:=(fkI .i16).len) (h1:=(fkI .i16).one)).len _) ((fkA (n:=4) (he:=(fkI .i16).len) (h1:=(fkI .i16).one)).one _) ?_
 intro w hs
 refine Qab (Qad (Qad (Qag [0] rfl ?_)))
 refine Qaa (v:=int .i64 0) rfl rfl rfl (Qab ?_)
 obtain ⟨o1_,Ho,Hr1_⟩:=bind_get H
 refine Qax (J:=fun t w=>∃ x15:(Ar Int 4),Qa5.a0 N x15=some r∧Fr t (fun O=>([O 0,O 1,O 2,O 3,pointer (some ⟨b4,0,none⟩),pointer (some ⟨b6,0,none⟩),O 6,O 7,O 8,O 9,O 10,O 11,O 12,O 13,O 14,O 15,O 16,O 17,O 18,O 19,O 20,O 21,O 22,O 23,O 24,O 25,O 26,O 27,O 28,O 29,O 30]:List Value))∧St w0 [Cells b4 ((encA (encI .i16)) (Ar.rep 4 0)) 28,Cells b6 ((encA (encI .i16)) x15) 28] w) ?_ ?_
 ·
  rintro t w ⟨x15,H,hf,hs⟩
  obtain ⟨O,rfl⟩:=hf.open
  show G _ _ _ _ [_,_,_,_,_,_,_,_,_,_,_,_,_,_,_,_,_,_,_,_,_,_,_,_,_,_,_,_,_,_,_] _
  unfold Qa5.a0 at H
  refine Qad (Qag [0,1] rfl ?_)
  refine QaG rfl rfl (es:=((encA (encI .i16)) x15)) rfl rfl (fun _=>rfl) (n:=4) (fun _=>rfl) ((fkA (n:=4) (he:=(fkI .i16).len) (h1:=(fkI .i16).one)).len _) (cells_all (hs.cells 1 rfl)) ?_
  refine QaH (n:=4) hs ((fkA (n:=4) (he:=(fkI .i16).len) (h1:=(fkI .i16).one)).len _) rfl rfl (vs:=((encA (encI .i16)) x15)) rfl rfl rfl (fun _=>rfl) ((fkA (n:=4) (he:=(fkI .i16).len) (h1:=(fkI .i16).one)).len _) ((fkA (n:=4) (he:=(fkI .i16).len) (h1:=(fkI .i16).one)).one _) ?_
  intro w hs
  refine Qab ?_
  obtain rfl:=QsJ H
  refine Qas Tryz.func77 (v:=agg ((encA (encI .i16)) x15).toArray) (resC rfl ⟨⟨_,rfl,(run_loadVar_agg (es:=((encA (encI .i16)) x15)) rfl (congrArg (Result.ok · _) ((fkA (n:=4) (he:=(fkI .i16).len) (h1:=(fkI .i16).one)).len _).symm) (cells_all (hs.cells 0 rfl)))⟩,trivial⟩) ?_
  have hs:St _ [] _:=St.take (Γ':=[_,_]) hs
  exact ⟨_,rfl,rfl,hs⟩
 intro ha1_
 have hs:=hs.pull 0 rfl
 have hs:=hs.pull 1 rfl
 have hs:St _ [_,_] _:=St.take (Γ':=[]) hs
 refine QaL (I:=fun n_ t w=>∃ x11:Int,∃ x12:(Ar Int 4),∃ x13:Int,rounds (fun s=>Qa5.b0 N a1 s.1 s.2.1 s.2.2) n_ (x11,x12,x13)=some o1_∧Fr t (fun O=>([v2,int .i64 x11,O 2,O 3,pointer (some ⟨b4,0,none⟩),pointer (some ⟨b6,0,none⟩),int .i64 x13,O 7,O 8,O 9,O 10,O 11,O 12,O 13,O 14,O 15,O 16,O 17,O 18,O 19,O 20,O 21,O 22,O 23,O 24,O 25,O 26,O 27,O 28,O 29,O 30]:List Value))∧St w0 [Cells b4 ((encA (encI .i16)) (Ar.rep 4 0)) 28,Cells b6 ((encA (encI .i16)) x12) 28] w) N ⟨a3,(Ar.rep 4 0),0,Ho,rfl,hs⟩ ?_ ?_
 ·
  rintro _ _ ⟨x11,x12,x13,h,_⟩
  exact rounds_zero h
 intro n_ ih1_
 rintro t w ⟨x11,x12,x13,Ho,hf,hs⟩
 obtain ⟨O,rfl⟩:=hf.open
 show G _ _ _ _ [_,_,_,_,_,_,_,_,_,_,_,_,_,_,_,_,_,_,_,_,_,_,_,_,_,_,_,_,_,_,_] _
 obtain ⟨x9_,H,Hx1_⟩:=rounds_succ Ho
 have H:Qa5.b0 N a1 x11 x12 x13=some x9_:=H
 unfold Qa5.b0 at H
 refine Qad (Qad (Qag [0,1,2,3] rfl ?_))
 refine Qaa (v:=int .i64 x13) rfl rfl rfl ?_
 refine Qaa (v:=v2) rfl rfl rfl ?_
 refine Qbc (hs.rd hr0) rfl rfl rfl rfl rfl ?_
 show G _ _ _ _ [_,_,_,_,_,_,_,_,_,_,_,_,_,_,_,_,_,_,_,_,_,_,_,_,_,_,_,_,_,_,_] _
 refine Qap (B:=decide (x13< (a1.length:Int))) rfl rfl rfl ?_ ?_
 ·
  intro hb
  rw [if_pos (b_dec_t hb)] at H
  refine Qab (Qah rfl (Qay (Qad ?_)))
  refine Qbh (Qad (Qag [0,1,2,3,4,5,6] rfl ?_))
  refine Qaa (v:=v2) rfl rfl rfl ?_
  refine Qaa (v:=int .i64 x13) rfl rfl rfl ?_
  obtain ⟨g5,H⟩:=ite_get H
  refine Qbb (fkI .i16) 0 (hs.rd hr0) rfl (fun _=>rfl) g5.1 g5.2 rfl rfl rfl rfl rfl ?_
  intro p14 hp14 lp14 op14
  show G _ _ _ _ [_,_,_,_,_,_,_,_,_,_,_,_,_,_,_,_,_,_,_,_,_,_,_,_,_,_,_,_,_,_,_] _
  refine Qat rfl rfl (v:=int .i16 (rdL a1 x13 0)) rfl rfl (fun _=>rfl) hp14 ?_
  refine Qaa (v:=int .i64 (i64w (rdL a1 x13 0))) rfl rfl rfl ?_
  refine Qaa (v:=int .i64 (i64w ((i64w (rdL a1 x13 0))+1))) rfl rfl rfl ?_
  refine Qaa (v:=int .i64 (i64w ((i64w (rdL a1 x13 0))+1))) rfl rfl rfl ?_
  show G _ _ _ _ [_,_,_,_,_,_,_,_,_,_,_,_,_,_,_,_,_,_,_,_,_,_,_,_,_,_,_,_,_,_,_] _
  refine Qab (Qad (Qag [0,1,2,3,4,5,6] rfl ?_))
  refine Qaa (v:=int .i64 x13) rfl rfl rfl ?_
  refine Qaa (v:=int .i64 x11) rfl rfl rfl ?_
  refine Qaa (v:=int .i64 (i64w ((i64w (rdL a1 x13 0))+1))) rfl rfl rfl ?_
  obtain ⟨g6,H⟩:=ite_get H
  refine Qaa (v:=int .i64 (x11.tmod (i64w ((i64w (rdL a1 x13 0))+1)))) rfl rfl (QbP rfl rfl rfl g6) ?_
  refine Qaa (v:=int .i16 (i16w (x11.tmod (i64w ((i64w (rdL a1 x13 0))+1))))) rfl rfl rfl ?_
  obtain ⟨g7,H⟩:=ite_get H
  refine Qbp (n:=x13) (m:=1) rfl (fun _=>rfl) g7.1 g7.2 rfl rfl rfl rfl rfl ?_
  have hs:St _ [_,_] _:=hs.pull 1 rfl
  refine QbN (y:=i16w (x11.tmod (i64w ((i64w (rdL a1 x13 0))+1)))) (fkI .i16).len (fkI .i16).one g7.1 g7.2 hs rfl rfl rfl rfl rfl (fun _=>rfl) ?_
  intro w hs
  refine Qab (Qag [0,1,2,3] rfl ?_)
  refine Qaa (v:=int .i64 x11) rfl rfl rfl ?_
  refine Qaa (v:=int .i64 (i64w ((i64w (rdL a1 x13 0))+1))) rfl rfl rfl ?_
  obtain ⟨g8,H⟩:=ite_get H
  refine Qaa (v:=int .i64 (i64w (x11.tdiv (i64w ((i64w (rdL a1 x13 0))+1))))) rfl rfl (Qcy rfl rfl rfl g8) ?_
  show G _ _ _ _ [_,_,_,_,_,_,_,_,_,_,_,_,_,_,_,_,_,_,_,_,_,_,_,_,_,_,_,_,_,_,_] _
  refine Qaa (v:=int .i64 (i64w (x11.tdiv (i64w ((i64w (rdL a1 x13 0))+1))))) rfl rfl rfl (Qab ?_)
  refine QaE (Qag [0,1,2] rfl ?_)
  refine Qaa (v:=int .i64 x13) rfl rfl rfl ?_
  refine Qaa (v:=int .i64 (i64w (x13+1))) rfl rfl rfl ?_
  refine Qaa (v:=int .i64 (i64w (x13+1))) rfl rfl rfl ?_
  show G _ _ _ _ [_,_,_,_,_,_,_,_,_,_,_,_,_,_,_,_,_,_,_,_,_,_,_,_,_,_,_,_,_,_,_] _
  refine Qab ?_
  obtain rfl:=QsJ H
  have hs:=hs.pull 0 rfl
  have hs:=hs.pull 1 rfl
  have hs:St _ [_,_] _:=St.take (Γ':=[]) hs
  exact ih1_ _ _ ⟨i64w (x11.tdiv (i64w ((i64w (rdL a1 x13 0))+1))),x12.set x13 (i16w (x11.tmod (i64w ((i64w (rdL a1 x13 0))+1)))),i64w (x13+1),Hx1_,rfl,hs⟩
 intro hb
 rw [if_neg (b_dec_f hb)] at H
 refine Qab (Qal rfl ?_)
 obtain rfl:=QsJ H
 subst Hx1_
 have hs:=hs.pull 1 rfl
 have hs:=hs.pull 1 rfl
 have hs:St _ [_,_] _:=St.take (Γ':=[]) hs
 refine Qa7 rfl ?_
 exact ha1_ _ _ ⟨x12,Hr1_,rfl,hs⟩
end Go.Proofs.YtgoninfjneepfaaGreatDoorX
