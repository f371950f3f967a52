import Derived.Test.YtdnipilfcjkfoaaGreatDoorP6
namespace Go.Proofs.YtdnipilfcjkfoaaGreatDoorX
open Go Go.RowKit Go.Proofs
open Go.Value (int pointer bool agg slice string tuple)
set_option maxHeartbeats 8000000
set_option maxRecDepth 100000
set_option linter.unusedVariables false
set_option linter.unusedSimpArgs false
def QaL.post (w0:World) (r:(Ar (List Int) 4)) (v:Value) (w:World):Prop:=∃ u1:Value,∃ u2:Value,∃ u3:Value,∃ u4:Value,v=agg (([u1,u2,u3,u4]:List Value)).toArray∧St w0 [Row 2 (K.int .i64) u1 (r.get 0 []),Row 2 (K.int .i64) u2 (r.get 1 []),Row 2 (K.int .i64) u3 (r.get 2 []),Row 2 (K.int .i64) u4 (r.get 3 [])] w
theorem QaL.calls {N:Nat} {a1:Qag} {v2:Value} {w0:World} {r:(Ar (List Int) 4)} (hr3:RdRow Qao w0 v2 a1.Qah) (H:QaL.f N a1=some r):
 Calls Tryz.prog 72 #[agg (([int .i8 a1.Qac,int .i8 a1.Qae,v2]:List Value)).toArray] w0 fun e w=>∃ v,e= .returned v∧QaL.post w0 r v w:=by
 unfold QaL.f at H
 have hs:St w0 [] w0:=St.refl w0
 refine calls_of_g (n:=31) Tryz.func72 rfl rfl ?_
 show G _ _ _ _ [_,_,_,_,_,_,_,_,_,_,_,_,_,_,_,_,_,_,_,_,_,_,_,_,_,_,_,_,_,_,_,_] _
 refine Qaf (Qak [0,1] rfl ?_)
 refine Qbx hs rfl rfl (cs:=(([int .i8 a1.Qac,int .i8 a1.Qae,v2]:List Value))) rfl rfl ?_
 intro b4 w hs
 refine Qa5 hs rfl rfl (z:=(agg #[slice none 0 0,slice none 0 0,slice none 0 0,slice none 0 0])) (cs:=(([slice none 0 0,slice none 0 0,slice none 0 0,slice none 0 0]:List Value))) rfl (fun _=>rfl) rfl ?_
 intro b6 w hs
 refine Qab (Qaf (Qak [0,1,2] rfl ?_))
 refine Qaa (v:=agg (([slice none 0 0,slice none 0 0,slice none 0 0,slice none 0 0]:List Value)).toArray) rfl rfl (Qb7 rfl rfl) ?_
 show G _ _ _ _ [_,_,_,_,_,_,_,_,_,_,_,_,_,_,_,_,_,_,_,_,_,_,_,_,_,_,_,_,_,_,_,_] _
 refine Qa5 hs rfl rfl (z:=(agg #[slice none 0 0,slice none 0 0,slice none 0 0,slice none 0 0])) (cs:=(([slice none 0 0,slice none 0 0,slice none 0 0,slice none 0 0]:List Value))) rfl (fun _=>rfl) rfl ?_
 intro b8 w hs
 refine QaB (n:=4) hs rfl rfl rfl (vs:=(([slice none 0 0,slice none 0 0,slice none 0 0,slice none 0 0]:List Value))) rfl rfl rfl (fun _=>rfl) rfl (by simp [Value.oneCell']) ?_
 intro w hs
 refine Qab (Qaf (Qaf (Qak [0,1,2,3] rfl ?_)))
 refine Qaa (v:=pointer (some ⟨b4,0,none⟩)) rfl rfl rfl ?_
 refine Qaw rfl rfl (v:=int .i8 a1.Qac) rfl rfl (fun _=>rfl) (cells_load (hs.cells 2 rfl) 0 1 rfl) ?_
 refine Qaa (v:=int .i64 (i64w a1.Qac)) rfl rfl rfl ?_
 refine Qaa (v:=int .i64 0) rfl rfl rfl (Qab ?_)
 obtain ⟨o1_,Ho,Hr1_⟩:=bind_get H
 refine QaF (J:=fun t w=>∃ v90:Value,∃ x91:(List Int),∃ v93:Value,∃ x94:(List Int),∃ v96:Value,∃ x97:(List Int),∃ v99:Value,∃ x100:(List Int),QaL.a0 N x91 x94 x97 x100=some r∧Fr t (fun O=>([O 0,O 1,pointer (some ⟨b6,0,none⟩),pointer (some ⟨b8,0,none⟩),O 4,O 5,O 6,O 7,O 8,O 9,O 10,O 11,O 12,O 13,O 14,O 15,O 16,O 17,O 18,O 19,O 20,O 21,O 22,O 23,O 24,O 25,O 26,O 27,O 28,O 29,O 30,O 31]:List Value))∧St w0 [Cells b6 (([slice none 0 0,slice none 0 0,slice none 0 0,slice none 0 0]:List Value)) 114,Cells b8 (([v90,v93,v96,v99]:List Value)) 114,Row 2 (K.int .i64) v90 x91,Row 2 (K.int .i64) v93 x94,Row 2 (K.int .i64) v96 x97,Row 2 (K.int .i64) v99 x100] w) ?_ ?_
 ·
  rintro t w ⟨v90,x91,v93,x94,v96,x97,v99,x100,H,hf,hs⟩
  obtain ⟨O,rfl⟩:=hf.open
  show G _ _ _ _ [_,_,_,_,_,_,_,_,_,_,_,_,_,_,_,_,_,_,_,_,_,_,_,_,_,_,_,_,_,_,_,_] _
  unfold QaL.a0 at H
  refine Qaf (Qak [0,1] rfl ?_)
  refine QaG rfl rfl (es:=(([v90,v93,v96,v99]:List Value))) rfl rfl (fun _=>rfl) (n:=4) (fun _=>rfl) rfl (cells_all (hs.cells 1 rfl)) ?_
  refine QaB (n:=4) hs rfl rfl rfl (vs:=(([v90,v93,v96,v99]:List Value))) rfl rfl rfl (fun _=>rfl) rfl (by intro v hv;simp only [List.mem_append,List.mem_cons,List.not_mem_nil,or_false] at hv;repeat (first|(subst hv;first|rfl|exact slOne (hs.row 2 rfl)|exact slOne (hs.row 3 rfl)|exact slOne (hs.row 4 rfl)|exact slOne (hs.row 5 rfl))|(rcases hv with hv|hv))) ?_
  intro w hs
  refine Qab ?_
  obtain rfl:=QsJ H
  refine Qax Tryz.func72 (v:=agg (([v90,v93,v96,v99]:List Value)).toArray) (resC rfl ⟨⟨_,rfl,(run_loadVar_agg (es:=(([v90,v93,v96,v99]:List Value))) rfl rfl (cells_all (hs.cells 0 rfl)))⟩,trivial⟩) ?_
  have hs:=hs.pull 5 rfl
  have hs:=hs.pull 5 rfl
  have hs:=hs.pull 5 rfl
  have hs:=hs.pull 5 rfl
  have hs:St _ [_,_,_,_] _:=St.take (Γ':=[_,_]) hs
  exact ⟨_,rfl,v90,v93,v96,v99,rfl,hs⟩
 intro ha1_
 have hs:=hs.nil 2 (K.int .i64)
 have hs:=hs.nil 2 (K.int .i64)
 have hs:=hs.nil 2 (K.int .i64)
 have hs:=hs.nil 2 (K.int .i64)
 have hs:=hs.pull 4 rfl
 have hs:=hs.pull 1 rfl
 have hs:=hs.pull 2 rfl
 have hs:=hs.pull 3 rfl
 have hs:=hs.pull 4 rfl
 have hs:=hs.pull 5 rfl
 have hs:=hs.pull 6 rfl
 have hs:St _ [_,_,_,_,_,_,_] _:=St.take (Γ':=[]) hs
 refine QaZ (I:=fun n_ t w=>∃ v47:Value,∃ x48:(List Int),∃ v50:Value,∃ x51:(List Int),∃ v53:Value,∃ x54:(List Int),∃ v56:Value,∃ x57:(List Int),∃ x58:Int,rounds (fun s=>QaL.b0 N a1 s.1 s.2.1 s.2.2.1 s.2.2.2.1 s.2.2.2.2) n_ (x48,x51,x54,x57,x58)=some o1_∧Fr t (fun O=>([O 0,pointer (some ⟨b4,0,none⟩),pointer (some ⟨b6,0,none⟩),pointer (some ⟨b8,0,none⟩),O 4,O 5,O 6,O 7,O 8,int .i64 (i64w a1.Qac),int .i64 x58,O 11,O 12,O 13,O 14,O 15,O 16,O 17,O 18,O 19,O 20,O 21,O 22,O 23,O 24,O 25,O 26,O 27,O 28,O 29,O 30,O 31]:List Value))∧St w0 [Cells b4 (([int .i8 a1.Qac,int .i8 a1.Qae,v2]:List Value)) 30,Cells b6 (([slice none 0 0,slice none 0 0,slice none 0 0,slice none 0 0]:List Value)) 114,Row 2 (K.int .i64) v47 x48,Row 2 (K.int .i64) v50 x51,Row 2 (K.int .i64) v53 x54,Row 2 (K.int .i64) v56 x57,Cells b8 (([v47,v50,v53,v56]:List Value)) 114] w) N ⟨slice none 0 0,[],slice none 0 0,[],slice none 0 0,[],slice none 0 0,[],0,Ho,rfl,hs⟩ ?_ ?_
 ·
  rintro _ _ ⟨v47,x48,v50,x51,v53,x54,v56,x57,x58,h,_⟩
  exact rounds_zero h
 intro n_ ih1_
 rintro t w ⟨v47,x48,v50,x51,v53,x54,v56,x57,x58,Ho,hf,hs⟩
 obtain ⟨O,rfl⟩:=hf.open
 show G _ _ _ _ [_,_,_,_,_,_,_,_,_,_,_,_,_,_,_,_,_,_,_,_,_,_,_,_,_,_,_,_,_,_,_,_] _
 obtain ⟨x9_,H,Hx1_⟩:=rounds_succ Ho
 have H:QaL.b0 N a1 x48 x51 x54 x57 x58=some x9_:=H
 unfold QaL.b0 at H
 refine Qaf (Qak [0] rfl ?_)
 refine QaA (B:=decide (x58< (i64w a1.Qac))) rfl rfl rfl ?_ ?_
 ·
  intro hb
  rw [if_pos (b_dec_t hb)] at H
  refine Qab (Qaf (Qam rfl (QaE (Qaf ?_))))
  refine QaF (J:=(fun t w=>∃ v78:Value,∃ x79:(List Int),∃ v81:Value,∃ x82:(List Int),∃ v84:Value,∃ x85:(List Int),∃ v87:Value,∃ x88:(List Int),QaL.j2 N x58 x79 x82 x85 x88=some x9_∧Fr t (fun O=>([O 0,pointer (some ⟨b4,0,none⟩),pointer (some ⟨b6,0,none⟩),pointer (some ⟨b8,0,none⟩),O 4,O 5,O 6,O 7,O 8,int .i64 (i64w a1.Qac),int .i64 x58,O 11,O 12,O 13,O 14,O 15,O 16,O 17,O 18,O 19,O 20,O 21,O 22,O 23,O 24,O 25,O 26,O 27,O 28,O 29,O 30,O 31]:List Value))∧St w0 [Cells b4 (([int .i8 a1.Qac,int .i8 a1.Qae,v2]:List Value)) 30,Cells b6 (([slice none 0 0,slice none 0 0,slice none 0 0,slice none 0 0]:List Value)) 114,Cells b8 (([v78,v81,v84,v87]:List Value)) 114,Row 2 (K.int .i64) v78 x79,Row 2 (K.int .i64) v81 x82,Row 2 (K.int .i64) v84 x85,Row 2 (K.int .i64) v87 x88] w)) ?_ ?_
  ·
   rintro t w ⟨v78,x79,v81,x82,v84,x85,v87,x88,H,hf,hs⟩
   obtain ⟨O,rfl⟩:=hf.open
   show G _ _ _ _ [_,_,_,_,_,_,_,_,_,_,_,_,_,_,_,_,_,_,_,_,_,_,_,_,_,_,_,_,_,_,_,_] _
   unfold QaL.j2 at H
   refine Qak [0,1] rfl ?_
   refine Qaa (v:=int .i64 (i64w (x58+1))) rfl rfl rfl ?_
   refine Qaa (v:=int .i64 (i64w (x58+1))) rfl rfl rfl (Qab ?_)
   obtain rfl:=QsJ H
   have hs:=hs.pull 2 rfl
   have hs:=hs.pull 6 rfl
   have hs:=hs.pull 6 rfl
   have hs:=hs.pull 6 rfl
   have hs:=hs.pull 6 rfl
   have hs:=hs.pull 6 rfl
   have hs:=hs.pull 6 rfl
   have hs:St _ [_,_,_,_,_,_,_] _:=St.take (Γ':=[]) hs
   exact ih1_ _ _ ⟨v78,x79,v81,x82,v84,x85,v87,x88,i64w (x58+1),Hx1_,rfl,hs⟩
  intro ha
  refine Qaf (Qak [0,1] rfl ?_)
  refine Qaa (v:=int .i64 x58) rfl rfl rfl ?_
  refine Qaa (v:=int .i64 x58) rfl rfl rfl (Qab (Qaf (Qak [0,1,2,3,4] rfl ?_)))
  refine QaG rfl rfl (es:=(([int .i8 a1.Qac,int .i8 a1.Qae,v2]:List Value))) rfl rfl (fun _=>rfl) (n:=3) (fun _=>rfl) rfl (cells_all (hs.cells 0 rfl)) ?_
  show G _ _ _ _ [_,_,_,_,_,_,_,_,_,_,_,_,_,_,_,_,_,_,_,_,_,_,_,_,_,_,_,_,_,_,_,_] _
  refine Qaa (v:=int .i64 x58) rfl rfl rfl ?_
  obtain ⟨r59,Hr59,H⟩:=bind_get H
  refine Qas (args:=[agg (([int .i8 a1.Qac,int .i8 a1.Qae,v2]:List Value)).toArray,int .i64 x58]) rfl rfl (Qat rfl (callFunc_enter Tryz.func67 rfl rfl) rfl) (QaK.calls (a1:=(⟨a1.Qac,a1.Qae,a1.Qah⟩:Qag)) (a4:=x58) (hs.rd hr3) Hr59) ?_
  intro v60 w hs2
  have hs:St _ [_,_,_,_,_,_,_,_] _:=hs.call hs2
  refine Qbp (hs.row 0 rfl) rfl rfl rfl rfl rfl ?_
  refine Qaa (v:=int .i64 (r59.length:Int)) rfl rfl rfl ?_
  show G _ _ _ _ [_,_,_,_,_,_,_,_,_,_,_,_,_,_,_,_,_,_,_,_,_,_,_,_,_,_,_,_,_,_,_,_] _
  refine Qab (Qaf (Qak [0,1,2,3,4] rfl ?_))
  refine Qaa (v:=int .i64 (r59.length:Int)) rfl rfl rfl ?_
  refine Qaa (v:=pointer (some ⟨b4,1,none⟩)) rfl rfl rfl ?_
  refine Qaw rfl rfl (v:=int .i8 a1.Qae) rfl rfl (fun _=>rfl) (cells_load (hs.cells 1 rfl) 1 1 rfl) ?_
  refine Qaa (v:=int .i64 (i64w a1.Qae)) rfl rfl rfl ?_
  refine QaA (B:=decide ((r59.length:Int)≤(i64w a1.Qae))) rfl rfl rfl ?_ ?_
  ·
   intro hb
   rw [if_pos (b_dec_t hb)] at H
   show G _ _ _ _ [_,_,_,_,_,_,_,_,_,_,_,_,_,_,_,_,_,_,_,_,_,_,_,_,_,_,_,_,_,_,_,_] _
   refine Qab (Qam rfl ?_)
   by_cases hk5_:(r59.length:Int)=0
   ·
    rw [if_pos hk5_] at H
    refine Qak [0,1,2,3,4,5,6,7,8] rfl ?_
    refine Qaa (v:=int .i64 (r59.length:Int)) rfl rfl rfl ?_
    refine Qaa (v:=int .i64 (r59.length:Int)) rfl rfl rfl ?_
    refine Qcv (m:=1) 0 hk5_ (by decide) rfl (fun _=>rfl) rfl rfl rfl rfl rfl ?_
    refine Qaw rfl rfl (v:=v47) rfl rfl (fun _=>rfl) (cells_load (hs.cells 7 rfl) 0 1 rfl) ?_
    refine Qaa (v:=int .i64 x58) rfl rfl rfl ?_
    show G _ _ _ _ [_,_,_,_,_,_,_,_,_,_,_,_,_,_,_,_,_,_,_,_,_,_,_,_,_,_,_,_,_,_,_,_] _
    refine Qcr (fkI .i64) (y:=x58) hs rfl rfl rfl rfl (fun _=>rfl) (zv:=(int .i64 0)) (fun _=>rfl) rfl (by decide) (by decide) rfl ?_
    intro v62 w hs
    have hs:St _ [_,_,_,_,_,_,_,_,_] _:=hs.pull 4 rfl
    obtain ⟨g,H⟩:=ite_get H
    refine Qci (fkI .i64) (zv:=(int .i64 0)) (B:=8) hs (hs.row 1 rfl) rfl rfl rfl rfl rfl rfl rfl rfl rfl (by decide) rfl rfl (by decide) (by omega) ?_
    intro v64 w hs
    refine Qcv (m:=1) 0 hk5_ (by decide) rfl (fun _=>rfl) rfl rfl rfl rfl rfl ?_
    show G _ _ _ _ [_,_,_,_,_,_,_,_,_,_,_,_,_,_,_,_,_,_,_,_,_,_,_,_,_,_,_,_,_,_,_,_] _
    have hs:St _ [_,_,_,_,_,_,_,_,_] _:=hs.pull 8 rfl
    refine Qck hs rfl rfl (vs:=[v64]) (cs':=(([v64,v50,v53,v56]:List Value))) rfl rfl (slCells (hs.row 1 rfl)) (n:=1) (fun _=>rfl) rfl (by first|exact Nat.le_of_ble_eq_true rfl|simp [encAI_len,encAB_len,encA_len]) (by intro v hv;simp only [List.mem_cons,List.not_mem_nil,or_false] at hv;subst hv;exact slOne (hs.row 1 rfl)) rfl ?_
    intro w hs
    refine Qab ?_
    refine QaH ?_
    have hs:=hs.pull 8 rfl
    have hs:=hs.pull 8 rfl
    have hs:=hs.pull 8 rfl
    have hs:=hs.pull 4 rfl
    have hs:=hs.pull 4 rfl
    have hs:=hs.pull 8 rfl
    have hs:=hs.pull 8 rfl
    have hs:St _ [_,_,_,_,_,_,_] _:=St.take (Γ':=[_,_]) hs
    exact ha _ _ ⟨v64,x48++([x58]),v50,x51,v53,x54,v56,x57,H,rfl,hs⟩
   rw [if_neg hk5_] at H
   by_cases hk6_:(r59.length:Int)=1
   ·
    rw [if_pos hk6_] at H
    refine Qak [0,1,2,3,4,5,6,7,8] rfl ?_
    refine Qaa (v:=int .i64 (r59.length:Int)) rfl rfl rfl ?_
    refine Qaa (v:=int .i64 (r59.length:Int)) rfl rfl rfl ?_
    refine Qcv (m:=1) 1 hk6_ (by decide) rfl (fun _=>rfl) rfl rfl rfl rfl rfl ?_
    refine Qaw rfl rfl (v:=v50) rfl rfl (fun _=>rfl) (cells_load (hs.cells 7 rfl) 1 1 rfl) ?_
    refine Qaa (v:=int .i64 x58) rfl rfl rfl ?_
    show G _ _ _ _ [_,_,_,_,_,_,_,_,_,_,_,_,_,_,_,_,_,_,_,_,_,_,_,_,_,_,_,_,_,_,_,_] _
    refine Qcr (fkI .i64) (y:=x58) hs rfl rfl rfl rfl (fun _=>rfl) (zv:=(int .i64 0)) (fun _=>rfl) rfl (by decide) (by decide) rfl ?_
    intro v66 w hs
    have hs:St _ [_,_,_,_,_,_,_,_,_] _:=hs.pull 5 rfl
    obtain ⟨g,H⟩:=ite_get H
    refine Qci (fkI .i64) (zv:=(int .i64 0)) (B:=8) hs (hs.row 1 rfl) rfl rfl rfl rfl rfl rfl rfl rfl rfl (by decide) rfl rfl (by decide) (by omega) ?_
    intro v68 w hs
    refine Qcv (m:=1) 1 hk6_ (by decide) rfl (fun _=>rfl) rfl rfl rfl rfl rfl ?_
    show G _ _ _ _ [_,_,_,_,_,_,_,_,_,_,_,_,_,_,_,_,_,_,_,_,_,_,_,_,_,_,_,_,_,_,_,_] _
    have hs:St _ [_,_,_,_,_,_,_,_,_] _:=hs.pull 8 rfl
    refine Qck hs rfl rfl (vs:=[v68]) (cs':=(([v47,v68,v53,v56]:List Value))) rfl rfl (slCells (hs.row 1 rfl)) (n:=1) (fun _=>rfl) rfl (by first|exact Nat.le_of_ble_eq_true rfl|simp [encAI_len,encAB_len,encA_len]) (by intro v hv;simp only [List.mem_cons,List.not_mem_nil,or_false] at hv;subst hv;exact slOne (hs.row 1 rfl)) rfl ?_
    intro w hs
    refine Qab ?_
    refine QaH ?_
    have hs:=hs.pull 8 rfl
    have hs:=hs.pull 8 rfl
    have hs:=hs.pull 3 rfl
    have hs:=hs.pull 8 rfl
    have hs:=hs.pull 4 rfl
    have hs:=hs.pull 8 rfl
    have hs:=hs.pull 8 rfl
    have hs:St _ [_,_,_,_,_,_,_] _:=St.take (Γ':=[_,_]) hs
    exact ha _ _ ⟨v47,x48,v68,x51++([x58]),v53,x54,v56,x57,H,rfl,hs⟩
   rw [if_neg hk6_] at H
   by_cases hk7_:(r59.length:Int)=2
   ·
    rw [if_pos hk7_] at H
    refine Qak [0,1,2,3,4,5,6,7,8] rfl ?_
    refine Qaa (v:=int .i64 (r59.length:Int)) rfl rfl rfl ?_
    refine Qaa (v:=int .i64 (r59.length:Int)) rfl rfl rfl ?_
    refine Qcv (m:=1) 2 hk7_ (by decide) rfl (fun _=>rfl) rfl rfl rfl rfl rfl ?_
    refine Qaw rfl rfl (v:=v53) rfl rfl (fun _=>rfl) (cells_load (hs.cells 7 rfl) 2 1 rfl) ?_
    refine Qaa (v:=int .i64 x58) rfl rfl rfl ?_
    show G _ _ _ _ [_,_,_,_,_,_,_,_,_,_,_,_,_,_,_,_,_,_,_,_,_,_,_,_,_,_,_,_,_,_,_,_] _
    refine Qcr (fkI .i64) (y:=x58) hs rfl rfl rfl rfl (fun _=>rfl) (zv:=(int .i64 0)) (fun _=>rfl) rfl (by decide) (by decide) rfl ?_
    intro v70 w hs
    have hs:St _ [_,_,_,_,_,_,_,_,_] _:=hs.pull 6 rfl
    obtain ⟨g,H⟩:=ite_get H
    refine Qci (fkI .i64) (zv:=(int .i64 0)) (B:=8) hs (hs.row 1 rfl) rfl rfl rfl rfl rfl rfl rfl rfl rfl (by decide) rfl rfl (by decide) (by omega) ?_
    intro v72 w hs
    refine Qcv (m:=1) 2 hk7_ (by decide) rfl (fun _=>rfl) rfl rfl rfl rfl rfl ?_
    show G _ _ _ _ [_,_,_,_,_,_,_,_,_,_,_,_,_,_,_,_,_,_,_,_,_,_,_,_,_,_,_,_,_,_,_,_] _
    have hs:St _ [_,_,_,_,_,_,_,_,_] _:=hs.pull 8 rfl
    refine Qck hs rfl rfl (vs:=[v72]) (cs':=(([v47,v50,v72,v56]:List Value))) rfl rfl (slCells (hs.row 1 rfl)) (n:=1) (fun _=>rfl) rfl (by first|exact Nat.le_of_ble_eq_true rfl|simp [encAI_len,encAB_len,encA_len]) (by intro v hv;simp only [List.mem_cons,List.not_mem_nil,or_false] at hv;subst hv;exact slOne (hs.row 1 rfl)) rfl ?_
    intro w hs
    refine Qab ?_
    refine QaH ?_
    have hs:=hs.pull 8 rfl
    have hs:=hs.pull 2 rfl
    have hs:=hs.pull 8 rfl
    have hs:=hs.pull 8 rfl
    have hs:=hs.pull 4 rfl
    have hs:=hs.pull 8 rfl
    have hs:=hs.pull 8 rfl
    have hs:St _ [_,_,_,_,_,_,_] _:=St.take (Γ':=[_,_]) hs
    exact ha _ _ ⟨v47,x48,v50,x51,v72,x54++([x58]),v56,x57,H,rfl,hs⟩
   rw [if_neg hk7_] at H
   by_cases hk8_:(r59.length:Int)=3
   ·
    rw [if_pos hk8_] at H
    refine Qak [0,1,2,3,4,5,6,7,8] rfl ?_
    refine Qaa (v:=int .i64 (r59.length:Int)) rfl rfl rfl ?_
    refine Qaa (v:=int .i64 (r59.length:Int)) rfl rfl rfl ?_
    refine Qcv (m:=1) 3 hk8_ (by decide) rfl (fun _=>rfl) rfl rfl rfl rfl rfl ?_
    refine Qaw rfl rfl (v:=v56) rfl rfl (fun _=>rfl) (cells_load (hs.cells 7 rfl) 3 1 rfl) ?_
    refine Qaa (v:=int .i64 x58) rfl rfl rfl ?_
    show G _ _ _ _ [_,_,_,_,_,_,_,_,_,_,_,_,_,_,_,_,_,_,_,_,_,_,_,_,_,_,_,_,_,_,_,_] _
    refine Qcr (fkI .i64) (y:=x58) hs rfl rfl rfl rfl (fun _=>rfl) (zv:=(int .i64 0)) (fun _=>rfl) rfl (by decide) (by decide) rfl ?_
    intro v74 w hs
    have hs:St _ [_,_,_,_,_,_,_,_,_] _:=hs.pull 7 rfl
    obtain ⟨g,H⟩:=ite_get H
    refine Qci (fkI .i64) (zv:=(int .i64 0)) (B:=8) hs (hs.row 1 rfl) rfl rfl rfl rfl rfl rfl rfl rfl rfl (by decide) rfl rfl (by decide) (by omega) ?_
    intro v76 w hs
    refine Qcv (m:=1) 3 hk8_ (by decide) rfl (fun _=>rfl) rfl rfl rfl rfl rfl ?_
    show G _ _ _ _ [_,_,_,_,_,_,_,_,_,_,_,_,_,_,_,_,_,_,_,_,_,_,_,_,_,_,_,_,_,_,_,_] _
    have hs:St _ [_,_,_,_,_,_,_,_,_] _:=hs.pull 8 rfl
    refine Qck hs rfl rfl (vs:=[v76]) (cs':=(([v47,v50,v53,v76]:List Value))) rfl rfl (slCells (hs.row 1 rfl)) (n:=1) (fun _=>rfl) rfl (by first|exact Nat.le_of_ble_eq_true rfl|simp [encAI_len,encAB_len,encA_len]) (by intro v hv;simp only [List.mem_cons,List.not_mem_nil,or_false] at hv;subst hv;exact slOne (hs.row 1 rfl)) rfl ?_
    intro w hs
    refine Qab ?_
    refine QaH ?_
    have hs:=hs.pull 1 rfl
    have hs:=hs.pull 8 rfl
    have hs:=hs.pull 8 rfl
    have hs:=hs.pull 8 rfl
    have hs:=hs.pull 4 rfl
    have hs:=hs.pull 8 rfl
    have hs:=hs.pull 8 rfl
    have hs:St _ [_,_,_,_,_,_,_] _:=St.take (Γ':=[_,_]) hs
    exact ha _ _ ⟨v47,x48,v50,x51,v53,x54,v76,x57++([x58]),H,rfl,hs⟩
   rw [if_neg hk8_] at H
   cases H
  intro hb
  rw [if_neg (b_dec_f hb)] at H
  refine Qab (Qap rfl (QaE ?_))
  refine QaH ?_
  have hs:=hs.pull 6 rfl
  have hs:=hs.pull 6 rfl
  have hs:=hs.pull 6 rfl
  have hs:=hs.pull 6 rfl
  have hs:=hs.pull 7 rfl
  have hs:=hs.pull 7 rfl
  have hs:=hs.pull 7 rfl
  have hs:St _ [_,_,_,_,_,_,_] _:=St.take (Γ':=[_]) hs
  exact ha _ _ ⟨v47,x48,v50,x51,v53,x54,v56,x57,H,rfl,hs⟩
 intro hb
 rw [if_neg (b_dec_f hb)] at H
 show G _ _ _ _ [_,_,_,_,_,_,_,_,_,_,_,_,_,_,_,_,_,_,_,_,_,_,_,_,_,_,_,_,_,_,_,_] _
 refine Qab (Qaf (Qap rfl ?_))
 obtain rfl:=QsJ H
 subst Hx1_
 have hs:=hs.pull 5 rfl
 have hs:=hs.pull 5 rfl
 have hs:=hs.pull 5 rfl
 have hs:=hs.pull 5 rfl
 have hs:=hs.pull 6 rfl
 have hs:=hs.pull 6 rfl
 have hs:St _ [_,_,_,_,_,_] _:=St.take (Γ':=[_]) hs
 refine Qbq rfl ?_
 exact ha1_ _ _ ⟨v47,x48,v50,x51,v53,x54,v56,x57,Hr1_,rfl,hs⟩
def Qbe.post (w0:World) (r:(List Int)) (v:Value) (w:World):Prop:=St w0 [Row 2 (K.int .i64) v r] w
theorem Qbe.calls {N:Nat} {a1:Int} {w0:World} {r:(List Int)} (H:Qbe.f N a1=some r):
 Calls Tryz.prog 96 #[(slice none 0 0),int .i64 a1] w0 fun e w=>∃ v,e= .returned v∧Qbe.post w0 r v w:=by
 unfold Qbe.f at H
 have hs:St w0 [] w0:=St.refl w0
 refine calls_of_g (n:=25) Tryz.func96 rfl rfl ?_
 show G _ _ _ _ [_,_,_,_,_,_,_,_,_,_,_,_,_,_,_,_,_,_,_,_,_,_,_,_,_,_,_] _
 refine Qaf (Qak [0] rfl ?_)
 refine Qaa (v:=slice none 0 0) rfl rfl rfl ?_
 show G _ _ _ _ [_,_,_,_,_,_,_,_,_,_,_,_,_,_,_,_,_,_,_,_,_,_,_,_,_,_,_] _
 refine Qab (Qaf (Qaf (Qak [0,1] rfl ?_)))
 refine Qaa (v:=int .i64 a1) rfl rfl rfl ?_
 refine QaA (B:=decide (a1< 0)) rfl rfl rfl ?_ ?_
 ·
  intro hb
  rw [if_pos (b_dec_t hb)] at H
  refine Qab (Qam rfl ?_)
  cases H
 intro hb
 rw [if_neg (b_dec_f hb)] at H
 refine Qab (Qap rfl (QaE (Qaf (Qaf (Qak [0,1,2,3,4,5,6,7] rfl ?_)))))
 refine Qaa (v:=int .i64 a1) rfl rfl rfl ?_
 refine Qaa (v:=slice none 0 0) rfl rfl rfl ?_
 refine Qaa (v:=int .i64 0) rfl rfl (QcP rfl rfl rfl) ?_
 refine Qaa (v:=slice none 0 0) rfl rfl rfl ?_
 refine Qbp (rdNil (K.int .i64)) rfl rfl rfl rfl rfl ?_
 show G _ _ _ _ [_,_,_,_,_,_,_,_,_,_,_,_,_,_,_,_,_,_,_,_,_,_,_,_,_,_,_] _
 refine Qaa (v:=int .i64 (i64w (0 - (([]:(List Int)).length:Int)))) rfl rfl rfl ?_
 refine Qaa (v:=int .i64 (i64w (a1 - (i64w (0 - (([]:(List Int)).length:Int)))))) rfl rfl rfl ?_
 refine Qaa (v:=int .i64 (i64w (a1 - (i64w (0 - (([]:(List Int)).length:Int)))))) rfl rfl rfl ?_
 show G _ _ _ _ [_,_,_,_,_,_,_,_,_,_,_,_,_,_,_,_,_,_,_,_,_,_,_,_,_,_,_] _
 refine Qab (Qaf (Qak [0,1] rfl ?_))
 refine Qaa (v:=int .i64 (i64w (a1 - (i64w (0 - (([]:(List Int)).length:Int)))))) rfl rfl rfl ?_
 refine QaA (B:=decide ((i64w (a1 - (i64w (0 - (([]:(List Int)).length:Int)))))>0)) rfl rfl rfl ?_ ?_
 ·
  intro hb
  rw [if_pos (b_dec_t hb)] at H
  refine Qab (Qam rfl (Qak [0,1,2,3,4,5,6,7,8,9] rfl ?_))
  refine Qaa (v:=slice none 0 0) rfl rfl rfl ?_
  refine Qaa (v:=slice none 0 0) rfl rfl rfl ?_
  refine Qaa (v:=int .i64 0) rfl rfl (QcP rfl rfl rfl) ?_
  refine Qaa (v:=slice none 0 0) rfl rfl (Qcx (a:=0) (b:=0) (m:=1) (rdNil (K.int .i64)) rfl rfl (fun _=>rfl) rfl (.inl ⟨rfl,rfl⟩) (.inr ⟨_,_,rfl,rfl⟩) (by decide) (by decide) (by decide)) ?_
  show G _ _ _ _ [_,_,_,_,_,_,_,_,_,_,_,_,_,_,_,_,_,_,_,_,_,_,_,_,_,_,_] _
  refine Qaa (v:=int .i64 (i64w (a1 - (i64w (0 - (([]:(List Int)).length:Int)))))) rfl rfl rfl ?_
  obtain ⟨g,H⟩:=ite_get H
  refine QcV (fkI .i64) (int .i64) (fun _=>rfl) rfl (0:Int) hs rfl rfl rfl rfl rfl rfl rfl rfl rfl rfl rfl (B:=8) rfl (by decide) g.1 (by have:=g.2;omega) ?_
  intro v2 w hs
  refine Qaa (v:=slice none 0 0) rfl rfl rfl ?_
  refine Qbp (rdNil (K.int .i64)) rfl rfl rfl rfl rfl ?_
  obtain ⟨g1,H⟩:=ite_get H
  refine Qaa (v:=subV v2 1 ((0:Int)).toNat ((([]:(List Int)).length:Int)).toNat) rfl rfl (Qcx (hs.row 0 rfl) rfl rfl (fun _=>rfl) rfl (.inl ⟨rfl,rfl⟩) (.inr ⟨_,_,rfl,rfl⟩) g1.1 g1.2.1 g1.2.2) ?_
  show G _ _ _ _ [_,_,_,_,_,_,_,_,_,_,_,_,_,_,_,_,_,_,_,_,_,_,_,_,_,_,_] _
  refine Qaa (v:=subV v2 1 ((0:Int)).toNat ((([]:(List Int)).length:Int)).toNat) rfl rfl rfl (Qab (Qaf (Qak [0,1] rfl ?_)))
  refine Qaa (v:=subV v2 1 ((0:Int)).toNat ((([]:(List Int)).length:Int)).toNat) rfl rfl rfl ?_
  refine Qaa (v:=subV v2 1 ((0:Int)).toNat ((([]:(List Int)).length:Int)).toNat) rfl rfl rfl (Qab ?_)
  obtain rfl:=QsJ H
  have hs:=hs.prefix (fkI .i64) 1 g1.2.2
  refine Qax Tryz.func96 (v:=subV v2 1 ((0:Int)).toNat ((([]:(List Int)).length:Int)).toNat) (res1 rfl rfl) ?_
  have hs:=hs.pull 0 rfl
  have hs:St _ [_] _:=St.take (Γ':=[]) hs
  exact ⟨_,rfl,hs⟩
 intro hb
 rw [if_neg (b_dec_f hb)] at H
 refine Qab (Qap rfl (QaE (Qaf (Qak [0,1] rfl ?_))))
 refine Qaa (v:=slice none 0 0) rfl rfl rfl ?_
 refine Qaa (v:=slice none 0 0) rfl rfl rfl (Qab ?_)
 obtain rfl:=QsJ H
 refine Qax Tryz.func96 (v:=slice none 0 0) (res1 rfl rfl) ?_
 have hs:=hs.nil 2 (K.int .i64)
 have hs:=hs.pull 0 rfl
 have hs:St _ [_] _:=St.take (Γ':=[]) hs
 exact ⟨_,rfl,hs⟩
def Qay.post (w0:World) (r:(List Int)) (v:Value) (w:World):Prop:=St w0 [Row 2 (K.int .i64) v r] w
theorem Qay.calls {N:Nat} {a1:(List (List Int))} {v2:Value} {w0:World} {r:(List Int)} (hr0:RdRow (K.sl 2 (K.int .i64)) w0 v2 a1) (H:Qay.f N a1=some r):
 Calls Tryz.prog 73 #[v2] w0 fun e w=>∃ v,e= .returned v∧Qay.post w0 r v w:=by
 unfold Qay.f at H
 have hs:St w0 [] w0:=St.refl w0
 refine calls_of_g (n:=35) Tryz.func73 rfl rfl ?_
 show G _ _ _ _ [_,_,_,_,_,_,_,_,_,_,_,_,_,_,_,_,_,_,_,_,_,_,_,_,_,_,_,_,_,_,_,_,_,_,_,_] _
 refine Qaf (Qak [0] rfl ?_)
 refine Qaa (v:=slice none 0 0) rfl rfl rfl (Qab (Qaf (Qak [0] rfl ?_)))
 refine Qaa (v:=int .i64 0) rfl rfl rfl (Qab (Qaf (Qaf (Qak [0,1,2] rfl ?_))))
 refine Qaa (v:=v2) rfl rfl rfl ?_
 refine Qbp (hs.rd hr0) rfl rfl rfl rfl rfl ?_
 show G _ _ _ _ [_,_,_,_,_,_,_,_,_,_,_,_,_,_,_,_,_,_,_,_,_,_,_,_,_,_,_,_,_,_,_,_,_,_,_,_] _
 refine Qaa (v:=int .i64 0) rfl rfl rfl (Qab ?_)
 obtain ⟨o1_,Ho,Hr1_⟩:=bind_get H
 refine QaF (J:=fun t w=>∃ x7:Int,Qay.a0 N a1 x7=some r∧Fr t (fun O=>([v2,O 1,O 2,int .i64 x7,O 4,O 5,O 6,O 7,O 8,O 9,O 10,O 11,O 12,O 13,O 14,O 15,O 16,O 17,O 18,O 19,O 20,O 21,O 22,O 23,O 24,O 25,O 26,O 27,O 28,O 29,O 30,O 31,O 32,O 33,O 34,O 35]:List Value))∧St w0 [] w) ?_ ?_
 ·
  rintro t w ⟨x7,H,hf,hs⟩
  obtain ⟨O,rfl⟩:=hf.open
  show G _ _ _ _ [_,_,_,_,_,_,_,_,_,_,_,_,_,_,_,_,_,_,_,_,_,_,_,_,_,_,_,_,_,_,_,_,_,_,_,_] _
  unfold Qay.a0 at H
  refine Qaf (Qak [0,1,2] rfl ?_)
  refine Qaa (v:=int .i64 x7) rfl rfl rfl ?_
  obtain ⟨r8,Hr8,H⟩:=bind_get H
  refine Qas (args:=[slice none 0 0,int .i64 x7]) rfl rfl (Qat rfl (callFunc_enter Tryz.func96 rfl rfl) rfl) (Qbe.calls (a1:=x7) Hr8) ?_
  intro v9 w hs2
  have hs:St _ [_] _:=hs.call hs2
  show G _ _ _ _ [_,_,_,_,_,_,_,_,_,_,_,_,_,_,_,_,_,_,_,_,_,_,_,_,_,_,_,_,_,_,_,_,_,_,_,_] _
  refine Qaa (v:=v9) rfl rfl rfl (Qab (Qaf (Qaf (Qak [0,1,2] rfl ?_))))
  refine Qaa (v:=v2) rfl rfl rfl ?_
  refine Qbp (hs.rd hr0) rfl rfl rfl rfl rfl ?_
  refine Qaa (v:=int .i64 0) rfl rfl rfl (Qab ?_)
  obtain ⟨o1_,Ho,Hr1_⟩:=bind_get H
  refine QaF (J:=fun t w=>∃ v19:Value,∃ x20:(List Int),Qay.a2 N x20=some r∧Fr t (fun O=>([O 0,O 1,O 2,O 3,O 4,O 5,v19,O 7,O 8,O 9,O 10,O 11,O 12,O 13,O 14,O 15,O 16,O 17,O 18,O 19,O 20,O 21,O 22,O 23,O 24,O 25,O 26,O 27,O 28,O 29,O 30,O 31,O 32,O 33,O 34,O 35]:List Value))∧St w0 [Row 2 (K.int .i64) v19 x20] w) ?_ ?_
  ·
   rintro t w ⟨v19,x20,H,hf,hs⟩
   obtain ⟨O,rfl⟩:=hf.open
   show G _ _ _ _ [_,_,_,_,_,_,_,_,_,_,_,_,_,_,_,_,_,_,_,_,_,_,_,_,_,_,_,_,_,_,_,_,_,_,_,_] _
   unfold Qay.a2 at H
   refine Qaf (Qak [0,1] rfl ?_)
   refine Qaa (v:=v19) rfl rfl rfl ?_
   refine Qaa (v:=v19) rfl rfl rfl (Qab ?_)
   obtain rfl:=QsJ H
   refine Qax Tryz.func73 (v:=v19) (res1 rfl rfl) ?_
   have hs:=hs.pull 0 rfl
   have hs:St _ [_] _:=St.take (Γ':=[]) hs
   exact ⟨_,rfl,hs⟩
  intro ha1_
  have hs:=hs.pull 0 rfl
  have hs:St _ [_] _:=St.take (Γ':=[]) hs
  refine QaZ (I:=fun n_ t w=>∃ v12:Value,∃ x13:(List Int),∃ x14:Int,rounds (fun s=>Qay.b2 N a1 s.1 s.2) n_ (x13,x14)=some o1_∧Fr t (fun O=>([O 0,O 1,O 2,O 3,O 4,O 5,v12,O 7,O 8,O 9,O 10,O 11,O 12,O 13,O 14,O 15,O 16,O 17,O 18,O 19,O 20,O 21,O 22,O 23,O 24,v2,int .i64 (a1.length:Int),int .i64 x14,O 28,O 29,O 30,O 31,O 32,O 33,O 34,O 35]:List Value))∧St w0 [Row 2 (K.int .i64) v12 x13] w) N ⟨v9,r8,0,Ho,rfl,hs⟩ ?_ ?_
  ·
   rintro _ _ ⟨v12,x13,x14,h,_⟩
   exact rounds_zero h
  intro n_ ih1_
  rintro t w ⟨v12,x13,x14,Ho,hf,hs⟩
  obtain ⟨O,rfl⟩:=hf.open
  show G _ _ _ _ [_,_,_,_,_,_,_,_,_,_,_,_,_,_,_,_,_,_,_,_,_,_,_,_,_,_,_,_,_,_,_,_,_,_,_,_] _
  obtain ⟨x3_,H,Hx1_⟩:=rounds_succ Ho
  have H:Qay.b2 N a1 x13 x14=some x3_:=H
  unfold Qay.b2 at H
  refine Qaf (Qak [0] rfl ?_)
  refine QaA (B:=decide (x14< (a1.length:Int))) rfl rfl rfl ?_ ?_
  ·
   intro hb
   rw [if_pos (b_dec_t hb)] at H
   refine Qab (Qaf (Qam rfl (QaE (Qaf ?_))))
   refine Qbz (Qaf (Qak [0,1,2] rfl ?_))
   obtain ⟨g2,H⟩:=ite_get H
   refine QcX hr0 hs rfl (fun _=>rfl) g2.1 g2.2 rfl rfl rfl rfl rfl ?_
   intro p15 v16 hp15 hv16
   refine Qaw rfl rfl (v:=v16) rfl rfl (fun _=>rfl) (hp15.lift hs) ?_
   show G _ _ _ _ [_,_,_,_,_,_,_,_,_,_,_,_,_,_,_,_,_,_,_,_,_,_,_,_,_,_,_,_,_,_,_,_,_,_,_,_] _
   refine Qaa (v:=v16) rfl rfl rfl (Qab (Qak [0,1,2,3] rfl ?_))
   refine Qaa (v:=v12) rfl rfl rfl ?_
   refine Qaa (v:=v16) rfl rfl rfl ?_
   obtain ⟨g,H⟩:=ite_get H
   refine Qci (fkI .i64) (zv:=(int .i64 0)) (B:=8) hs (hs.rd hv16) rfl rfl rfl rfl rfl rfl rfl rfl rfl (by decide) rfl rfl (by decide) (by omega) ?_
   intro v17 w hs
   refine Qaa (v:=v17) rfl rfl rfl ?_
   show G _ _ _ _ [_,_,_,_,_,_,_,_,_,_,_,_,_,_,_,_,_,_,_,_,_,_,_,_,_,_,_,_,_,_,_,_,_,_,_,_] _
   refine Qab ?_
   refine QaH (Qak [0,1] rfl ?_)
   refine Qaa (v:=int .i64 (i64w (x14+1))) rfl rfl rfl ?_
   refine Qaa (v:=int .i64 (i64w (x14+1))) rfl rfl rfl (Qab ?_)
   obtain rfl:=QsJ H
   have hs:=hs.pull 0 rfl
   have hs:St _ [_] _:=St.take (Γ':=[]) hs
   exact ih1_ _ _ ⟨v17,x13++(rdL a1 x14 ([]:(List Int))),i64w (x14+1),Hx1_,rfl,hs⟩
  intro hb
  rw [if_neg (b_dec_f hb)] at H
  show G _ _ _ _ [_,_,_,_,_,_,_,_,_,_,_,_,_,_,_,_,_,_,_,_,_,_,_,_,_,_,_,_,_,_,_,_,_,_,_,_] _
  refine Qab (Qaf (Qap rfl ?_))
  obtain rfl:=QsJ H
  subst Hx1_
  have hs:=hs.pull 0 rfl
  have hs:St _ [_] _:=St.take (Γ':=[]) hs
  refine Qbq rfl ?_
  exact ha1_ _ _ ⟨v12,x13,Hr1_,rfl,hs⟩
 intro ha1_
 have hs:St _ [] _:=St.take (Γ':=[]) hs
 refine QaZ (I:=fun n_ t w=>∃ x3:Int,∃ x4:Int,rounds (fun s=>Qay.b0 N a1 s.1 s.2) n_ (x3,x4)=some o1_∧Fr t (fun O=>([v2,O 1,O 2,int .i64 x3,O 4,O 5,O 6,O 7,O 8,v2,int .i64 (a1.length:Int),int .i64 x4,O 12,O 13,O 14,O 15,O 16,O 17,O 18,O 19,O 20,O 21,O 22,O 23,O 24,O 25,O 26,O 27,O 28,O 29,O 30,O 31,O 32,O 33,O 34,O 35]:List Value))∧St w0 [] w) N ⟨0,0,Ho,rfl,hs⟩ ?_ ?_
 ·
  rintro _ _ ⟨x3,x4,h,_⟩
  exact rounds_zero h
 intro n_ ih1_
 rintro t w ⟨x3,x4,Ho,hf,hs⟩
 obtain ⟨O,rfl⟩:=hf.open
 show G _ _ _ _ [_,_,_,_,_,_,_,_,_,_,_,_,_,_,_,_,_,_,_,_,_,_,_,_,_,_,_,_,_,_,_,_,_,_,_,_] _
 obtain ⟨x4_,H,Hx1_⟩:=rounds_succ Ho
 have H:Qay.b0 N a1 x3 x4=some x4_:=H
 unfold Qay.b0 at H
 refine Qaf (Qak [0] rfl ?_)
 refine QaA (B:=decide (x4< (a1.length:Int))) rfl rfl rfl ?_ ?_
 ·
  intro hb
  rw [if_pos (b_dec_t hb)] at H
  refine Qab (Qaf (Qam rfl (QaE (Qaf ?_))))
  refine Qbz (Qaf (Qak [0,1,2] rfl ?_))
  obtain ⟨g1,H⟩:=ite_get H
  refine QcX hr0 hs rfl (fun _=>rfl) g1.1 g1.2 rfl rfl rfl rfl rfl ?_
  intro p5 v6 hp5 hv6
  show G _ _ _ _ [_,_,_,_,_,_,_,_,_,_,_,_,_,_,_,_,_,_,_,_,_,_,_,_,_,_,_,_,_,_,_,_,_,_,_,_] _
  refine Qaw rfl rfl (v:=v6) rfl rfl (fun _=>rfl) (hp5.lift hs) ?_
  refine Qaa (v:=v6) rfl rfl rfl (Qab (Qaf (Qak [0,1,2,3,4] rfl ?_)))
  refine Qaa (v:=int .i64 x3) rfl rfl rfl ?_
  refine Qaa (v:=v6) rfl rfl rfl ?_
  refine Qbp (hs.rd hv6) rfl rfl rfl rfl rfl ?_
  show G _ _ _ _ [_,_,_,_,_,_,_,_,_,_,_,_,_,_,_,_,_,_,_,_,_,_,_,_,_,_,_,_,_,_,_,_,_,_,_,_] _
  refine Qaa (v:=int .i64 (i64w (x3+((rdL a1 x4 ([]:(List Int))).length:Int)))) rfl rfl rfl ?_
  refine Qaa (v:=int .i64 (i64w (x3+((rdL a1 x4 ([]:(List Int))).length:Int)))) rfl rfl rfl (Qab (Qaf (Qak [0,1] rfl ?_)))
  refine Qaa (v:=int .i64 (i64w (x3+((rdL a1 x4 ([]:(List Int))).length:Int)))) rfl rfl rfl ?_
  refine QaA (B:=decide ((i64w (x3+((rdL a1 x4 ([]:(List Int))).length:Int)))< 0)) rfl rfl rfl ?_ ?_
  ·
   intro hb
   rw [if_pos (b_dec_t hb)] at H
   refine Qab (Qam rfl ?_)
   cases H
  intro hb
  rw [if_neg (b_dec_f hb)] at H
  show G _ _ _ _ [_,_,_,_,_,_,_,_,_,_,_,_,_,_,_,_,_,_,_,_,_,_,_,_,_,_,_,_,_,_,_,_,_,_,_,_] _
  refine Qab (Qap rfl (QaE ?_))
  refine QaH (Qak [0,1] rfl ?_)
  refine Qaa (v:=int .i64 (i64w (x4+1))) rfl rfl rfl ?_
  refine Qaa (v:=int .i64 (i64w (x4+1))) rfl rfl rfl (Qab ?_)
  obtain rfl:=QsJ H
  have hs:St _ [] _:=St.take (Γ':=[]) hs
  exact ih1_ _ _ ⟨i64w (x3+((rdL a1 x4 ([]:(List Int))).length:Int)),i64w (x4+1),Hx1_,rfl,hs⟩
 intro hb
 rw [if_neg (b_dec_f hb)] at H
 refine Qab (Qaf (Qap rfl ?_))
 obtain rfl:=QsJ H
 subst Hx1_
 have hs:St _ [] _:=St.take (Γ':=[]) hs
 refine Qbq rfl ?_
 exact ha1_ _ _ ⟨x3,Hr1_,rfl,hs⟩
def QbD.post (wb:World) (Z:As) (v1:Value) (r:(List Int)) (v:Value) (w:World):Prop:=v=tuple #[]∧St wb [Row 2 (K.int .i64) v1 r,Z] w
theorem QbD.calls {N:Nat} {a1:(List Int)} {v1:Value} {wb:World} {Z:As} {w0:World} {r:(List Int)} (hs:St wb [Row 2 (K.int .i64) v1 a1,Z] w0) (H:QbD.f N a1=some r):
 Calls Tryz.prog 74 #[v1] w0 fun e w=>∃ u,e= .returned u∧QbD.post wb Z v1 r u w:=by
 obtain ⟨hg,H⟩:=ite_get H
 obtain rfl:=QsJ H
 exact (sort_row Tryz.slices_Sort_int Tryz.slices_Sort_int_none hs hg).mono fun e w ⟨he,hw⟩=>⟨_,he,rfl,hw⟩
def Qbf.post (w0:World) (r:(List Int)) (v:Value) (w:World):Prop:=St w0 [Row 2 (K.int .i64) v r] w
theorem Qbf.calls {N:Nat} {a1:Qag} {v2:Value} {w0:World} {r:(List Int)} (hr3:RdRow Qao w0 v2 a1.Qah) (H:Qbf.f N a1=some r):
 Calls Tryz.prog 36 #[agg (([int .i8 a1.Qac,int .i8 a1.Qae,v2]:List Value)).toArray] w0 fun e w=>∃ v,e= .returned v∧Qbf.post w0 r v w:=by
 unfold Qbf.f at H
 have hs:St w0 [] w0:=St.refl w0
 refine calls_of_g (n:=11) Tryz.func36 rfl rfl ?_
 show G _ _ _ _ [_,_,_,_,_,_,_,_,_,_,_,_] _
 refine Qaf (Qak [0,1] rfl ?_)
 refine Qbx hs rfl rfl (cs:=(([int .i8 a1.Qac,int .i8 a1.Qae,v2]:List Value))) rfl rfl ?_
 intro b4 w hs
 show G _ _ _ _ [_,_,_,_,_,_,_,_,_,_,_,_] _
 refine Qaa (v:=slice none 0 0) rfl rfl rfl (Qab (Qaf (Qak [0,1,2,3] rfl ?_)))
 refine QaG rfl rfl (es:=(([int .i8 a1.Qac,int .i8 a1.Qae,v2]:List Value))) rfl rfl (fun _=>rfl) (n:=3) (fun _=>rfl) rfl (cells_all (hs.cells 0 rfl)) ?_
 obtain ⟨r6,Hr6,H⟩:=bind_get H
 refine Qas (args:=[agg (([int .i8 a1.Qac,int .i8 a1.Qae,v2]:List Value)).toArray]) rfl rfl (Qat rfl (callFunc_enter Tryz.func72 rfl rfl) rfl) (QaL.calls (a1:=(⟨a1.Qac,a1.Qae,a1.Qah⟩:Qag)) (hs.rd hr3) Hr6) ?_
 rintro _ w ⟨v7,v8,v9,v10,rfl,hs2⟩
 have hs:St _ [_,_,_,_,_] _:=hs.call hs2
 show G _ _ _ _ [_,_,_,_,_,_,_,_,_,_,_,_] _
 refine Qa5 hs rfl rfl (z:=(agg #[slice none 0 0,slice none 0 0,slice none 0 0,slice none 0 0])) (cs:=(([slice none 0 0,slice none 0 0,slice none 0 0,slice none 0 0]:List Value))) rfl (fun _=>rfl) rfl ?_
 intro b15 w hs
 refine QaB (n:=4) hs rfl rfl rfl (vs:=(([v7,v8,v9,v10]:List Value))) rfl rfl rfl (fun _=>rfl) rfl (by intro v hv;simp only [List.mem_append,List.mem_cons,List.not_mem_nil,or_false] at hv;repeat (first|(subst hv;first|rfl|exact slOne (hs.row 1 rfl)|exact slOne (hs.row 2 rfl)|exact slOne (hs.row 3 rfl)|exact slOne (hs.row 4 rfl))|(rcases hv with hv|hv))) ?_
 intro w hs
 refine Qab (Qaf (Qak [0,1,2] rfl ?_))
 refine Qaa (v:=slice (some ⟨b15,0,none⟩) 4 4) rfl rfl (Qc4 rfl rfl (fun _=>⟨_,rfl⟩) rfl) ?_
 obtain ⟨r17,Hr17,H⟩:=bind_get H
 refine Qas (args:=[slice (some ⟨b15,0,none⟩) 4 4]) rfl rfl (Qat rfl (callFunc_enter Tryz.func73 rfl rfl) rfl) (Qay.calls (a1:=[(r6.get 0 []),(r6.get 1 []),(r6.get 2 []),(r6.get 3 [])]) (rdBoxR (E0:=2) (hs.cells 0 rfl) rfl (.cons (hs.row 1 rfl) (.cons (hs.row 2 rfl) (.cons (hs.row 3 rfl) (.cons (hs.row 4 rfl) .nil))))) Hr17) ?_
 intro v18 w hs2
 have hs:St _ [_,_,_,_,_,_,_] _:=hs.call hs2
 show G _ _ _ _ [_,_,_,_,_,_,_,_,_,_,_,_] _
 refine Qaa (v:=v18) rfl rfl rfl (Qab (Qaf (Qak [0,1] rfl ?_)))
 refine Qaa (v:=v18) rfl rfl rfl ?_
 obtain ⟨r20,Hr20,H⟩:=bind_get H
 have hs:St _ [_,_,_,_,_,_,_] _:=hs.pull 0 rfl
 have hs:=hs.pack 1
 refine Qas (args:=[v18]) rfl rfl (Qat rfl (callFunc_enter Tryz.func74 rfl rfl) rfl) (QbD.calls (a1:=r17) hs Hr20) ?_
 rintro _ w ⟨rfl,hs⟩
 have hs:=St.unpack (Γ:=[_]) hs
 have hs:St _ [_,_,_,_,_,_,_] _:=hs
 show G _ _ _ _ [_,_,_,_,_,_,_,_,_,_,_,_] _
 refine Qab (Qaf (Qak [0,1] rfl ?_))
 refine Qaa (v:=v18) rfl rfl rfl ?_
 refine Qaa (v:=v18) rfl rfl rfl (Qab ?_)
 obtain rfl:=QsJ H
 refine Qax Tryz.func36 (v:=v18) (res1 rfl rfl) ?_
 have hs:=hs.pull 0 rfl
 have hs:St _ [_] _:=St.take (Γ':=[_,_,_,_,_,_]) hs
 exact ⟨_,rfl,hs⟩
def QbU.post (w0:World) (r:Int) (v:Value) (w:World):Prop:=v=int .u64 r∧St w0 [] w
theorem QbU.calls {N:Nat} {a1:Qag} {v2:Value} {w0:World} {r:Int} (hr3:RdRow Qao w0 v2 a1.Qah) (H:QbU.f N a1=some r):
 Calls Tryz.prog 53 #[agg (([int .i8 a1.Qac,int .i8 a1.Qae,v2]:List Value)).toArray] w0 fun e w=>∃ v,e= .returned v∧QbU.post w0 r v w:=by
 unfold QbU.f at H
 have hs:St w0 [] w0:=St.refl w0
 refine calls_of_g (n:=6) Tryz.func53 rfl rfl ?_
 show G _ _ _ _ [_,_,_,_,_,_,_] _
 refine Qaf (Qak [0,1] rfl ?_)
 refine Qbx hs rfl rfl (cs:=(([int .i8 a1.Qac,int .i8 a1.Qae,v2]:List Value))) rfl rfl ?_
 intro b4 w hs
 refine Qaa (v:=int .u64 0) rfl rfl rfl (Qab (Qaf (Qak [0,1,2,3,4] rfl ?_)))
 refine Qaa (v:=pointer (some ⟨b4,0,none⟩)) rfl rfl rfl ?_
 show G _ _ _ _ [_,_,_,_,_,_,_] _
 refine Qaw rfl rfl (v:=int .i8 a1.Qac) rfl rfl (fun _=>rfl) (cells_load (hs.cells 0 rfl) 0 1 rfl) ?_
 obtain ⟨g1,H⟩:=ite_get H
 refine Qaa (v:=int .u64 (shlI .u64 1 a1.Qac)) rfl rfl (QcG rfl rfl rfl g1) ?_
 refine Qaa (v:=int .u64 (u64w ((shlI .u64 1 a1.Qac) - 1))) rfl rfl rfl ?_
 show G _ _ _ _ [_,_,_,_,_,_,_] _
 refine Qaa (v:=int .u64 (u64w ((shlI .u64 1 a1.Qac) - 1))) rfl rfl rfl (Qab ?_)
 obtain rfl:=QsJ H
 refine Qax Tryz.func53 (v:=int .u64 (u64w ((shlI .u64 1 a1.Qac) - 1))) (res1 rfl rfl) ?_
 have hs:St _ [] _:=St.take (Γ':=[_]) hs
 exact ⟨_,rfl,rfl,hs⟩
def Qb0.post (w0:World) (r:Bool) (v:Value) (w:World):Prop:=v=bool r∧St w0 [] w
theorem Qb0.calls {N:Nat} {a1:Qav} {a2:Qag} {b3:Nat} {v4:Value} {w0:World} {r:Bool} (hr5:RdRow Qao w0 v4 a2.Qah) (hp1000:w0.heap[b3]?=some (.cells ((([int .i8 a2.Qac,int .i8 a2.Qae,v4]:List Value)):List Value).toArray 30 (0,0))) (H:Qb0.f N a1 a2=some r):
 Calls Tryz.prog 52 #[agg (QaC a1).toArray,pointer (some ⟨b3,0,none⟩)] w0 fun e w=>∃ v,e= .returned v∧Qb0.post w0 r v w:=by
 unfold Qb0.f at H
 have hs:St w0 [] w0:=St.refl w0
 refine calls_of_g (n:=8) Tryz.func52 rfl rfl ?_
 show G _ _ _ _ [_,_,_,_,_,_,_,_,_,_] _
 refine Qaf (Qak [0,1] rfl ?_)
 refine Qbx hs rfl rfl (cs:=(QaC a1)) rfl rfl ?_
 intro b7 w hs
 refine Qaa (v:=bool false) rfl rfl rfl ?_
 show G _ _ _ _ [_,_,_,_,_,_,_,_,_,_] _
 refine Qab (Qaf ?_)
 obtain ⟨r9,Hr9,H⟩:=bind_get H
 refine Qbu ?_
 intro T hT
 refine Qcl (n:=7) rfl [0,1,2,3,4,5,6] [0,1,2,3,4,5,6] rfl rfl (Inv:=fun D t w=>∃ O:Nat→Value,t=[agg (QaC a1).toArray,pointer (some ⟨b3,0,none⟩),pointer (some ⟨b7,0,none⟩),cnd (D 6) (bool ((bAndNot .u64 a1.Qbh r9) !=0)) (bool false),cnd (D 0) (pointer (some ⟨b7,0,none⟩)) (O 4),cnd (D 1) (int .u64 a1.Qbh) (O 5),cnd (D 2) (agg (([int .i8 a2.Qac,int .i8 a2.Qae,v4]:List Value)).toArray) (O 6),cnd (D 3) (int .u64 r9) (O 7),cnd (D 4) (int .u64 (bAndNot .u64 a1.Qbh r9)) (O 8),cnd (D 5) (bool ((bAndNot .u64 a1.Qbh r9) !=0)) (O 9)]∧St w0 [Cells b7 (QaC a1) 61] w) ?_ ⟨⟨⟨⟨⟨⟨⟨trivial,?_⟩,?_⟩,?_⟩,?_⟩,?_⟩,?_⟩,?_⟩ ?_
 ·
  intro w hh hbw
  have hs:=hs.samew hh hbw
  exact ⟨fun i=>T.getD i undef,(by subst hT;rfl),hs⟩
 ·
  rintro D t w hD hp hcl ⟨O,ht,hs⟩ rest hk
  have q1_:=nz hcl 1 0 hD
  have q4_:=nz hcl 4 0 q1_
  have q5_:=nz hcl 5 0 q4_
  have q6_:=nz hcl 6 0 q5_
  simp only [hD,q1_,q4_,q5_,q6_,cq,oT] at ht hs
  subst ht
  refine Qaa (v:=pointer (some ⟨b7,0,none⟩)) rfl rfl rfl ?_
  show G _ _ _ _ [_,_,_,_,_,_,_,_,_,_] _
  refine hk _ _ ⟨O,?_,hs.cast ?_⟩<;>simp only [oT,lq,cq,Nat.reduceBEq,q1_,q4_,q5_,q6_]
 ·
  rintro D t w hD hp hcl ⟨O,ht,hs⟩ rest hk
  obtain ⟨p0_,_⟩:=hp
  have q4_:=nz hcl 4 0 hD
  have q5_:=nz hcl 5 0 q4_
  have q6_:=nz hcl 6 0 q5_
  simp only [hD,p0_,q4_,q5_,q6_,cq,oT] at ht hs
  subst ht
  refine Qaw rfl rfl (v:=int .u64 a1.Qbh) rfl rfl (fun _=>rfl) (cells_load (hs.cells 0 rfl) 0 1 rfl) ?_
  show G _ _ _ _ [_,_,_,_,_,_,_,_,_,_] _
  refine hk _ _ ⟨O,?_,hs.cast ?_⟩<;>simp only [oT,lq,cq,Nat.reduceBEq,p0_,q4_,q5_,q6_]
 ·
  rintro D t w hD hp hcl ⟨O,ht,hs⟩ rest hk
  have q3_:=nz hcl 3 0 hD
  have q4_:=nz hcl 4 1 q3_
  have q5_:=nz hcl 5 0 q4_
  have q6_:=nz hcl 6 0 q5_
  simp only [hD,q3_,q4_,q5_,q6_,cq,oT] at ht hs
  subst ht
  refine QaG rfl rfl (es:=(([int .i8 a2.Qac,int .i8 a2.Qae,v4]:List Value))) rfl rfl (fun _=>rfl) (n:=3) (fun _=>rfl) rfl (cells_all (hs.box hp1000)) ?_
  show G _ _ _ _ [_,_,_,_,_,_,_,_,_,_] _
  refine hk _ _ ⟨O,?_,hs.cast ?_⟩<;>simp only [oT,lq,cq,Nat.reduceBEq,q3_,q4_,q5_,q6_]
 ·
  rintro D t w hD hp hcl ⟨O,ht,hs⟩ rest hk
  obtain ⟨p2_,_⟩:=hp
  have q4_:=nz hcl 4 1 hD
  have q5_:=nz hcl 5 0 q4_
  have q6_:=nz hcl 6 0 q5_
  simp only [hD,p2_,q4_,q5_,q6_,cq,oT] at ht hs
  subst ht
  refine Qas (args:=[agg (([int .i8 a2.Qac,int .i8 a2.Qae,v4]:List Value)).toArray]) rfl rfl (Qat rfl (callFunc_enter Tryz.func53 rfl rfl) rfl) (QbU.calls (a1:=(⟨a2.Qac,a2.Qae,a2.Qah⟩:Qag)) (hs.rd hr5) Hr9) ?_
  rintro _ w ⟨rfl,hs2⟩
  have hs:St _ [_] _:=hs.call hs2
  show G _ _ _ _ [_,_,_,_,_,_,_,_,_,_] _
  refine hk _ _ ⟨O,?_,hs.cast ?_⟩<;>simp only [oT,lq,cq,Nat.reduceBEq,p2_,q4_,q5_,q6_]
 ·
  rintro D t w hD hp hcl ⟨O,ht,hs⟩ rest hk
  obtain ⟨p1_,p3_,_⟩:=hp
  obtain ⟨p2_,_⟩:=(hcl.get 3 (by decide)) p3_
  obtain ⟨p0_,_⟩:=(hcl.get 1 (by decide)) p1_
  have q5_:=nz hcl 5 0 hD
  have q6_:=nz hcl 6 0 q5_
  simp only [hD,p0_,p1_,p2_,p3_,q5_,q6_,cq,oT] at ht hs
  subst ht
  refine Qaa (v:=int .u64 (bAndNot .u64 a1.Qbh r9)) rfl rfl rfl ?_
  show G _ _ _ _ [_,_,_,_,_,_,_,_,_,_] _
  refine hk _ _ ⟨O,?_,hs.cast ?_⟩<;>simp only [oT,lq,cq,Nat.reduceBEq,p0_,p1_,p2_,p3_,q5_,q6_]
 ·
  rintro D t w hD hp hcl ⟨O,ht,hs⟩ rest hk
  obtain ⟨p4_,_⟩:=hp
  obtain ⟨p1_,p3_,_⟩:=(hcl.get 4 (by decide)) p4_
  obtain ⟨p2_,_⟩:=(hcl.get 3 (by decide)) p3_
  obtain ⟨p0_,_⟩:=(hcl.get 1 (by decide)) p1_
  have q6_:=nz hcl 6 0 hD
  simp only [hD,p0_,p1_,p2_,p3_,p4_,q6_,cq,oT] at ht hs
  subst ht
  refine Qaa (v:=bool ((bAndNot .u64 a1.Qbh r9) !=0)) rfl rfl rfl ?_
  show G _ _ _ _ [_,_,_,_,_,_,_,_,_,_] _
  refine hk _ _ ⟨O,?_,hs.cast ?_⟩<;>simp only [oT,lq,cq,Nat.reduceBEq,p0_,p1_,p2_,p3_,p4_,q6_]
 ·
  rintro D t w hD hp hcl ⟨O,ht,hs⟩ rest hk
  obtain ⟨p5_,p3_,p0_,p1_,p2_,_,p4_,_,_⟩:=hp
  simp only [hD,p0_,p1_,p2_,p3_,p4_,p5_,cq,oT] at ht hs
  subst ht
  refine Qaa (v:=bool ((bAndNot .u64 a1.Qbh r9) !=0)) rfl rfl rfl ?_
  show G _ _ _ _ [_,_,_,_,_,_,_,_,_,_] _
  refine hk _ _ ⟨O,?_,hs.cast ?_⟩<;>simp only [oT,lq,cq,Nat.reduceBEq,p0_,p1_,p2_,p3_,p4_,p5_]
 intro D t w hall hI
 obtain ⟨O,ht,hs⟩:=hI
 have p0_:=hall 0 (by decide)
 have p1_:=hall 1 (by decide)
 have p2_:=hall 2 (by decide)
 have p3_:=hall 3 (by decide)
 have p4_:=hall 4 (by decide)
 have p5_:=hall 5 (by decide)
 have p6_:=hall 6 (by decide)
 simp only [p0_,p1_,p2_,p3_,p4_,p5_,p6_,cq,oT] at ht hs
 subst ht
 obtain rfl:=QsJ H
 refine Qax Tryz.func52 (v:=bool ((bAndNot .u64 a1.Qbh r9) !=0)) (res1 rfl rfl) ?_
 have hs:St _ [] _:=St.take (Γ':=[_]) hs
 exact ⟨_,rfl,rfl,hs⟩
def Qar.post (w0:World) (r:Int) (v:Value) (w:World):Prop:=v=int .i64 r∧St w0 [] w
theorem Qar.calls {N:Nat} {a1:(List Qav)} {a3:Qag} {v2:Value} {b4:Nat} {v5:Value} {w0:World} {r:Int} (hr0:RdRow Qao w0 v2 a1) (hr6:RdRow Qao w0 v5 a3.Qah) (hp200:w0.heap[b4]?=some (.cells ((([int .i8 a3.Qac,int .i8 a3.Qae,v5]:List Value)):List Value).toArray 30 (0,0))) (H:Qar.f N a1 a3=some r):
 Calls Tryz.prog 91 #[v2,Value.func (Fn.func 52) #[] #[pointer (some ⟨b4,0,none⟩)]] w0 fun e w=>∃ v,e= .returned v∧Qar.post w0 r v w:=by
 unfold Qar.f at H
 have hs:St w0 [] w0:=St.refl w0
 refine calls_of_g (n:=17) Tryz.func91 rfl rfl ?_
 show G _ _ _ _ [_,_,_,_,_,_,_,_,_,_,_,_,_,_,_,_,_,_,_] _
 refine Qaf (Qak [0] rfl ?_)
 refine Qaa (v:=int .i64 0) rfl rfl rfl (Qab (Qaf (Qaf (Qak [0,1,2] rfl ?_))))
 refine Qaa (v:=v2) rfl rfl rfl ?_
 show G _ _ _ _ [_,_,_,_,_,_,_,_,_,_,_,_,_,_,_,_,_,_,_] _
 refine Qbp (hs.rd hr0) rfl rfl rfl rfl rfl ?_
 refine Qaa (v:=int .i64 0) rfl rfl rfl (Qab ?_)
 obtain ⟨o1_,Ho,Hr1_⟩:=bind_get H
 refine QaF (J:=fun t w=>Qar.a0 N=some r∧Fr t (fun O=>([O 0,O 1,O 2,O 3,O 4,O 5,O 6,O 7,O 8,O 9,O 10,O 11,O 12,O 13,O 14,O 15,O 16,O 17,O 18]:List Value))∧St w0 [] w) ?_ ?_
 ·
  rintro t w ⟨H,hf,hs⟩
  obtain ⟨O,rfl⟩:=hf.open
  show G _ _ _ _ [_,_,_,_,_,_,_,_,_,_,_,_,_,_,_,_,_,_,_] _
  unfold Qar.a0 at H
  refine Qaf (Qak [0] rfl ?_)
  refine Qaa (v:=int .i64 (-1)) rfl rfl rfl ?_
  show G _ _ _ _ [_,_,_,_,_,_,_,_,_,_,_,_,_,_,_,_,_,_,_] _
  refine Qab ?_
  obtain rfl:=QsJ H
  refine Qax Tryz.func91 (v:=int .i64 (-1)) (res1 rfl rfl) ?_
  have hs:St _ [] _:=St.take (Γ':=[]) hs
  exact ⟨_,rfl,rfl,hs⟩
 intro ha1_
 have hs:St _ [] _:=St.take (Γ':=[]) hs
 refine QaZ (I:=fun n_ t w=>∃ x8:Int,rounds (fun s=>Qar.b0 N a1 a3 s) n_ x8=some o1_∧Fr t (fun O=>([v2,Value.func (Fn.func 52) #[] #[pointer (some ⟨b4,0,none⟩)],O 2,O 3,O 4,O 5,O 6,int .i64 (a1.length:Int),int .i64 x8,O 9,O 10,O 11,O 12,O 13,O 14,O 15,O 16,O 17,O 18]:List Value))∧St w0 [] w) N ⟨0,Ho,rfl,hs⟩ ?_ ?_
 ·
  rintro _ _ ⟨x8,h,_⟩
  exact rounds_zero h
 intro n_ ih1_
 rintro t w ⟨x8,Ho,hf,hs⟩
 obtain ⟨O,rfl⟩:=hf.open
 show G _ _ _ _ [_,_,_,_,_,_,_,_,_,_,_,_,_,_,_,_,_,_,_] _
 obtain ⟨x2_,H,Hx1_⟩:=rounds_succ Ho
 have H:Qar.b0 N a1 a3 x8=some x2_:=H
 unfold Qar.b0 at H
 refine Qaf (Qak [0] rfl ?_)
 refine QaA (B:=decide (x8< (a1.length:Int))) rfl rfl rfl ?_ ?_
 ·
  intro hb
  rw [if_pos (b_dec_t hb)] at H
  refine Qab (Qaf (Qam rfl (QaE (Qaf ?_))))
  refine Qbz (Qaf (Qak [0,1] rfl ?_))
  refine Qaa (v:=int .i64 x8) rfl rfl rfl ?_
  refine Qaa (v:=int .i64 x8) rfl rfl rfl ?_
  show G _ _ _ _ [_,_,_,_,_,_,_,_,_,_,_,_,_,_,_,_,_,_,_] _
  refine Qab (Qaf (Qak [0,1,2,3,4,5] rfl ?_))
  refine Qaa (v:=Value.func (Fn.func 52) #[] #[pointer (some ⟨b4,0,none⟩)]) rfl rfl rfl ?_
  refine Qaa (v:=v2) rfl rfl rfl ?_
  refine Qaa (v:=int .i64 x8) rfl rfl rfl ?_
  show G _ _ _ _ [_,_,_,_,_,_,_,_,_,_,_,_,_,_,_,_,_,_,_] _
  obtain ⟨g1,H⟩:=ite_get H
  refine Qcm QaX Qau (hs.rd hr0) rfl (fun _=>rfl) g1.1 g1.2 rfl rfl rfl rfl rfl ?_
  intro p9 hp9 lp9 op9
  refine QaG rfl rfl (es:=(QaC (rdL a1 x8 Qau))) rfl rfl (fun _=>rfl) (n:=2) (fun _=>rfl) (QaX.len _) hp9 ?_
  obtain ⟨r10,Hr10,H⟩:=bind_get H
  refine Qas (args:=[agg (QaC (rdL a1 x8 Qau)).toArray,pointer (some ⟨b4,0,none⟩)]) rfl rfl (Qc8 rfl (callFunc_enter Tryz.func52 rfl rfl) rfl rfl) (Qb0.calls (a1:=rdL a1 x8 Qau) (a2:=(⟨a3.Qac,a3.Qae,a3.Qah⟩:Qag)) (hs.rd hr6) (hs.box hp200) Hr10) ?_
  rintro _ w ⟨rfl,hs2⟩
  have hs:St _ [] _:=hs.call hs2
  cases r10 with
  |true=>
   rw [if_pos rfl] at H
   show G _ _ _ _ [_,_,_,_,_,_,_,_,_,_,_,_,_,_,_,_,_,_,_] _
   refine Qab (Qam rfl (Qaf (Qak [0,1] rfl ?_)))
   refine Qaa (v:=int .i64 x8) rfl rfl rfl ?_
   refine Qaa (v:=int .i64 x8) rfl rfl rfl (Qab ?_)
   obtain rfl:=QsJ H
   subst Hx1_
   have H:=QsJ Hr1_
   subst H
   refine Qax Tryz.func91 (v:=int .i64 x8) (res1 rfl rfl) ?_
   have hs:St _ [] _:=St.take (Γ':=[]) hs
   exact ⟨_,rfl,rfl,hs⟩
  |false=>
   rw [if_neg Bool.false_ne_true] at H
   show G _ _ _ _ [_,_,_,_,_,_,_,_,_,_,_,_,_,_,_,_,_,_,_] _
   refine Qab (Qap rfl (QaE ?_))
   refine QaH (Qak [0,1] rfl ?_)
   refine Qaa (v:=int .i64 (i64w (x8+1))) rfl rfl rfl ?_
   refine Qaa (v:=int .i64 (i64w (x8+1))) rfl rfl rfl (Qab ?_)
   obtain rfl:=QsJ H
   have hs:St _ [] _:=St.take (Γ':=[]) hs
   exact ih1_ _ _ ⟨i64w (x8+1),Hx1_,rfl,hs⟩
 intro hb
 rw [if_neg (b_dec_f hb)] at H
 show G _ _ _ _ [_,_,_,_,_,_,_,_,_,_,_,_,_,_,_,_,_,_,_] _
 refine Qab (Qaf (Qap rfl ?_))
 obtain rfl:=QsJ H
 subst Hx1_
 have hs:St _ [] _:=St.take (Γ':=[]) hs
 refine Qbq rfl ?_
 exact ha1_ _ _ ⟨Hr1_,rfl,hs⟩
def QaO.post (w0:World) (r:Bool) (v:Value) (w:World):Prop:=v=bool r∧St w0 [] w
theorem QaO.calls {N:Nat} {a1:(List Qav)} {a3:Qag} {v2:Value} {b4:Nat} {v5:Value} {w0:World} {r:Bool} (hr0:RdRow Qao w0 v2 a1) (hr6:RdRow Qao w0 v5 a3.Qah) (hp200:w0.heap[b4]?=some (.cells ((([int .i8 a3.Qac,int .i8 a3.Qae,v5]:List Value)):List Value).toArray 30 (0,0))) (H:QaO.f N a1 a3=some r):
 Calls Tryz.prog 51 #[v2,Value.func (Fn.func 52) #[] #[pointer (some ⟨b4,0,none⟩)]] w0 fun e w=>∃ v,e= .returned v∧QaO.post w0 r v w:=by
 unfold QaO.f at H
 have hs:St w0 [] w0:=St.refl w0
 refine calls_of_g (n:=7) Tryz.func51 rfl rfl ?_
 show G _ _ _ _ [_,_,_,_,_,_,_,_,_] _
 refine Qaf (Qak [0] rfl ?_)
 refine Qaa (v:=bool false) rfl rfl rfl ?_
 show G _ _ _ _ [_,_,_,_,_,_,_,_,_] _
 refine Qab (Qaf (Qak [0,1,2,3,4] rfl ?_))
 refine Qaa (v:=v2) rfl rfl rfl ?_
 refine Qaa (v:=Value.func (Fn.func 52) #[] #[pointer (some ⟨b4,0,none⟩)]) rfl rfl rfl ?_
 obtain ⟨r8,Hr8,H⟩:=bind_get H
 refine Qas (args:=[v2,Value.func (Fn.func 52) #[] #[pointer (some ⟨b4,0,none⟩)]]) rfl rfl (Qat rfl (callFunc_enter Tryz.func91 rfl rfl) rfl) (Qar.calls (a1:=a1) (a3:=(⟨a3.Qac,a3.Qae,a3.Qah⟩:Qag)) (hs.rd hr0) (hs.rd hr6) (hs.box hp200) Hr8) ?_
 rintro _ w ⟨rfl,hs2⟩
 have hs:St _ [] _:=hs.call hs2
 show G _ _ _ _ [_,_,_,_,_,_,_,_,_] _
 refine Qaa (v:=bool (decide (r8≥0))) rfl rfl rfl ?_
 refine Qaa (v:=bool (decide (r8≥0))) rfl rfl rfl (Qab ?_)
 obtain rfl:=QsJ H
 refine Qax Tryz.func51 (v:=bool (decide (r8≥0))) (res1 rfl rfl) ?_
 have hs:St _ [] _:=St.take (Γ':=[]) hs
 exact ⟨_,rfl,rfl,hs⟩
def Qa1.post (w0:World) (r:Bool) (v:Value) (w:World):Prop:=v=bool r∧St w0 [] w
theorem Qa1.calls {N:Nat} {a1:Qag} {v2:Value} {w0:World} {r:Bool} (hr3:RdRow Qao w0 v2 a1.Qah) (H:Qa1.f N a1=some r):
 Calls Tryz.prog 14 #[agg (([int .i8 a1.Qac,int .i8 a1.Qae,v2]:List Value)).toArray] w0 fun e w=>∃ v,e= .returned v∧Qa1.post w0 r v w:=by
 unfold Qa1.f at H
 have hs:St w0 [] w0:=St.refl w0
 refine calls_of_g (n:=22) Tryz.func14 rfl rfl ?_
 show G _ _ _ _ [_,_,_,_,_,_,_,_,_,_,_,_,_,_,_,_,_,_,_,_,_,_,_] _
 refine Qaf (Qak [0,1] rfl ?_)
 refine Qbx hs rfl rfl (cs:=(([int .i8 a1.Qac,int .i8 a1.Qae,v2]:List Value))) rfl rfl ?_
 intro b4 w hs
 refine Qaa (v:=bool false) rfl rfl rfl ?_
 show G _ _ _ _ [_,_,_,_,_,_,_,_,_,_,_,_,_,_,_,_,_,_,_,_,_,_,_] _
 refine Qab (Qaf (Qak [0,1,2,3,4,5,6,7,8,9,10,11,12,13,14,15,16,17,18,19,20] rfl ?_))
 refine Qaa (v:=pointer (some ⟨b4,0,none⟩)) rfl rfl rfl ?_
 refine Qaw rfl rfl (v:=int .i8 a1.Qac) rfl rfl (fun _=>rfl) (cells_load (hs.cells 0 rfl) 0 1 rfl) ?_
 refine Qaa (v:=int .i64 (i64w a1.Qac)) rfl rfl rfl ?_
 show G _ _ _ _ [_,_,_,_,_,_,_,_,_,_,_,_,_,_,_,_,_,_,_,_,_,_,_] _
 refine Qaa (v:=pointer (some ⟨b4,1,none⟩)) rfl rfl rfl ?_
 refine Qaw rfl rfl (v:=int .i8 a1.Qae) rfl rfl (fun _=>rfl) (cells_load (hs.cells 0 rfl) 1 1 rfl) ?_
 refine Qaa (v:=int .i64 (i64w a1.Qae)) rfl rfl rfl ?_
 show G _ _ _ _ [_,_,_,_,_,_,_,_,_,_,_,_,_,_,_,_,_,_,_,_,_,_,_] _
 obtain ⟨r6,Hr6,H⟩:=bind_get H
 refine Qas (args:=[int .i64 (i64w a1.Qac),int .i64 (i64w a1.Qae)]) rfl rfl (Qat rfl (callFunc_enter Tryz.func34 rfl rfl) rfl) (QbQ.calls (a1:=i64w a1.Qac) (a2:=i64w a1.Qae) Hr6) ?_
 rintro _ w ⟨rfl,hs2⟩
 have hs:St _ [_] _:=hs.call hs2
 cases r6 with
 |true=>
  rw [if_pos rfl] at H
  refine Qaa (v:=bool true) rfl rfl rfl ?_
  refine Qaa (v:=pointer (some ⟨b4,2,none⟩)) rfl rfl rfl ?_
  show G _ _ _ _ [_,_,_,_,_,_,_,_,_,_,_,_,_,_,_,_,_,_,_,_,_,_,_] _
  refine Qaw rfl rfl (v:=v2) rfl rfl (fun _=>rfl) (cells_load (hs.cells 0 rfl) 2 1 rfl) ?_
  refine Qbp (hs.rd hr3) rfl rfl rfl rfl rfl ?_
  refine Qaa (v:=bool (decide ((a1.Qah.length:Int)≤60))) rfl rfl rfl ?_
  show G _ _ _ _ [_,_,_,_,_,_,_,_,_,_,_,_,_,_,_,_,_,_,_,_,_,_,_] _
  refine QaA (B:=decide ((a1.Qah.length:Int)≤60)) rfl rfl rfl ?_ ?_
  ·
   intro hb
   rw [if_pos (b_dec_t hb)] at H
   refine Qaa (v:=bool true) rfl rfl rfl ?_
   refine Qaa (v:=pointer (some ⟨b4,2,none⟩)) rfl rfl rfl ?_
   show G _ _ _ _ [_,_,_,_,_,_,_,_,_,_,_,_,_,_,_,_,_,_,_,_,_,_,_] _
   refine Qaw rfl rfl (v:=v2) rfl rfl (fun _=>rfl) (cells_load (hs.cells 0 rfl) 2 1 rfl) ?_
   refine Qaa (v:=Value.func (Fn.func 52) #[] #[pointer (some ⟨b4,0,none⟩)]) rfl rfl (Qc3 rfl rfl) ?_
   obtain ⟨r7,Hr7,H⟩:=bind_get H
   refine Qas (args:=[v2,Value.func (Fn.func 52) #[] #[pointer (some ⟨b4,0,none⟩)]]) rfl rfl (Qat rfl (callFunc_enter Tryz.func51 rfl rfl) rfl) (QaO.calls (a1:=a1.Qah) (a3:=(⟨a1.Qac,a1.Qae,a1.Qah⟩:Qag)) (hs.rd hr3) (hs.rd hr3) (hs.cells 0 rfl) Hr7) ?_
   rintro _ w ⟨rfl,hs2⟩
   have hs:St _ [_] _:=hs.call hs2
   show G _ _ _ _ [_,_,_,_,_,_,_,_,_,_,_,_,_,_,_,_,_,_,_,_,_,_,_] _
   refine Qaa (v:=bool (!r7)) rfl rfl rfl ?_
   refine Qaa (v:=bool (!r7)) rfl rfl rfl ?_
   refine Qaa (v:=bool (!r7)) rfl rfl rfl ?_
   show G _ _ _ _ [_,_,_,_,_,_,_,_,_,_,_,_,_,_,_,_,_,_,_,_,_,_,_] _
   refine Qab ?_
   obtain rfl:=QsJ H
   refine Qax Tryz.func14 (v:=bool (!r7)) (res1 rfl rfl) ?_
   have hs:St _ [] _:=St.take (Γ':=[_]) hs
   exact ⟨_,rfl,rfl,hs⟩
  intro hb
  rw [if_neg (b_dec_f hb)] at H
  refine Qaa (v:=bool false) rfl rfl rfl (Qad rfl rfl ?_)
  show G _ _ _ _ [_,_,_,_,_,_,_,_,_,_,_,_,_,_,_,_,_,_,_,_,_,_,_] _
  refine Qad rfl rfl (Qad rfl rfl (Qad rfl rfl ?_))
  show G _ _ _ _ [_,_,_,_,_,_,_,_,_,_,_,_,_,_,_,_,_,_,_,_,_,_,_] _
  refine Qad rfl rfl ?_
  refine Qaa (v:=bool false) rfl rfl rfl ?_
  refine Qaa (v:=bool false) rfl rfl rfl ?_
  show G _ _ _ _ [_,_,_,_,_,_,_,_,_,_,_,_,_,_,_,_,_,_,_,_,_,_,_] _
  refine Qab ?_
  obtain rfl:=QsJ H
  refine Qax Tryz.func14 (v:=bool false) (res1 rfl rfl) ?_
  have hs:St _ [] _:=St.take (Γ':=[_]) hs
  exact ⟨_,rfl,rfl,hs⟩
 |false=>
  rw [if_neg Bool.false_ne_true] at H
  refine Qaa (v:=bool false) rfl rfl rfl (Qad rfl rfl ?_)
  show G _ _ _ _ [_,_,_,_,_,_,_,_,_,_,_,_,_,_,_,_,_,_,_,_,_,_,_] _
  refine Qad rfl rfl (Qad rfl rfl (Qad rfl rfl ?_))
  show G _ _ _ _ [_,_,_,_,_,_,_,_,_,_,_,_,_,_,_,_,_,_,_,_,_,_,_] _
  refine Qaa (v:=bool false) rfl rfl rfl ?_
  refine Qaa (v:=bool false) rfl rfl rfl (Qad rfl rfl ?_)
  show G _ _ _ _ [_,_,_,_,_,_,_,_,_,_,_,_,_,_,_,_,_,_,_,_,_,_,_] _
  refine Qad rfl rfl (Qad rfl rfl (Qad rfl rfl ?_))
  show G _ _ _ _ [_,_,_,_,_,_,_,_,_,_,_,_,_,_,_,_,_,_,_,_,_,_,_] _
  refine Qad rfl rfl ?_
  refine Qaa (v:=bool false) rfl rfl rfl ?_
  refine Qaa (v:=bool false) rfl rfl rfl ?_
  show G _ _ _ _ [_,_,_,_,_,_,_,_,_,_,_,_,_,_,_,_,_,_,_,_,_,_,_] _
  refine Qab ?_
  obtain rfl:=QsJ H
  refine Qax Tryz.func14 (v:=bool false) (res1 rfl rfl) ?_
  have hs:St _ [] _:=St.take (Γ':=[_]) hs
  exact ⟨_,rfl,rfl,hs⟩
def Qbd.post (w0:World) (r:Int) (v:Value) (w:World):Prop:=v=int .i64 r∧St w0 [] w
theorem Qbd.calls {N:Nat} {a1:(List Int)} {v2:Value} {w0:World} {r:Int} (hr0:RdRow (K.int .i64) w0 v2 a1) (H:Qbd.f N a1=some r):
 Calls Tryz.prog 66 #[v2] w0 fun e w=>∃ v,e= .returned v∧Qbd.post w0 r v w:=by
 unfold Qbd.f at H
 have hs:St w0 [] w0:=St.refl w0
 refine calls_of_g (n:=4) Tryz.func66 rfl rfl ?_
 show G _ _ _ _ [_,_,_,_,_] _
 refine Qaf (Qak [0] rfl ?_)
 refine Qaa (v:=int .i64 0) rfl rfl rfl (Qab (Qaf (Qak [0,1,2] rfl ?_)))
 refine Qaa (v:=v2) rfl rfl rfl ?_
 refine Qbp (hs.rd hr0) rfl rfl rfl rfl rfl ?_
 show G _ _ _ _ [_,_,_,_,_] _
 refine Qaa (v:=int .i64 (a1.length:Int)) rfl rfl rfl (Qab ?_)
 obtain rfl:=QsJ H
 refine Qax Tryz.func66 (v:=int .i64 (a1.length:Int)) (res1 rfl rfl) ?_
 have hs:St _ [] _:=St.take (Γ':=[]) hs
 exact ⟨_,rfl,rfl,hs⟩
def QaD.post (w0:World) (r:(Ar Int 4)) (v:Value) (w:World):Prop:=v=agg ((encA (encI .i64)) r).toArray∧St w0 [] w
theorem QaD.calls {N:Nat} {a1:Qag} {v2:Value} {w0:World} {r:(Ar Int 4)} (hr3:RdRow Qao w0 v2 a1.Qah) (H:QaD.f N a1=some r):
 Calls Tryz.prog 58 #[agg (([int .i8 a1.Qac,int .i8 a1.Qae,v2]:List Value)).toArray] w0 fun e w=>∃ v,e= .returned v∧QaD.post w0 r v w:=by
 unfold QaD.f at H
 have hs:St w0 [] w0:=St.refl w0
 refine calls_of_g (n:=18) Tryz.func58 rfl rfl ?_
 show G _ _ _ _ [_,_,_,_,_,_,_,_,_,_,_,_,_,_,_,_,_,_,_] _
 refine Qaf (Qak [0,1] rfl ?_)
 refine Qbx hs rfl rfl (cs:=(([int .i8 a1.Qac,int .i8 a1.Qae,v2]:List Value))) rfl rfl ?_
 intro b4 w hs
 refine Qa5 hs rfl rfl (z:=(agg #[int .i64 0,int .i64 0,int .i64 0,int .i64 0])) (cs:=((encA (encI .i64)) (Ar.rep 4 0))) rfl (fun _=>rfl) rfl ?_
 intro b6 w hs
 show G _ _ _ _ [_,_,_,_,_,_,_,_,_,_,_,_,_,_,_,_,_,_,_] _
 refine Qab (Qaf (Qak [0,1,2] rfl ?_))
 refine Qaa (v:=agg ((encA (encI .i64)) (Ar.rep 4 0)).toArray) rfl rfl (Qb7 rfl rfl) ?_
 refine Qa5 hs rfl rfl (z:=(agg #[int .i64 0,int .i64 0,int .i64 0,int .i64 0])) (cs:=((encA (encI .i64)) (Ar.rep 4 0))) rfl (fun _=>rfl) rfl ?_
 intro b8 w hs
 refine QaB (n:=4) hs ((fkA (n:=4) (he:=(fkI .i64).len) (h1:=(fkI .i64).one)).len _) rfl rfl (vs:=((encA (encI .i64)) (Ar.rep 4 0))) rfl rfl rfl (fun _=>rfl) ((fkA (n:=4) (he:=(fkI .i64).len) (h1:=(fkI .i64).one)).len _) ((fkA (n:=4) (he:=(fkI .i64).len) (h1:=(fkI .i64).one)).one _) ?_
 intro w hs
 refine Qab (Qaf (Qaf (Qak [0,1,2] rfl ?_)))
 refine QaG rfl rfl (es:=(([int .i8 a1.Qac,int .i8 a1.Qae,v2]:List Value))) rfl rfl (fun _=>rfl) (n:=3) (fun _=>rfl) rfl (cells_all (hs.cells 2 rfl)) ?_
 show G _ _ _ _ [_,_,_,_,_,_,_,_,_,_,_,_,_,_,_,_,_,_,_] _
 obtain ⟨r10,Hr10,H⟩:=bind_get H
 refine Qas (args:=[agg (([int .i8 a1.Qac,int .i8 a1.Qae,v2]:List Value)).toArray]) rfl rfl (Qat rfl (callFunc_enter Tryz.func72 rfl rfl) rfl) (QaL.calls (a1:=(⟨a1.Qac,a1.Qae,a1.Qah⟩:Qag)) (hs.rd hr3) Hr10) ?_
 rintro _ w ⟨v11,v12,v13,v14,rfl,hs2⟩
 have hs:St _ [_,_,_,_,_,_,_] _:=hs.call hs2
 refine Qaa (v:=int .i64 0) rfl rfl rfl (Qab ?_)
 obtain ⟨o1_,Ho,Hr1_⟩:=bind_get H
 refine QaF (J:=fun t w=>∃ x40:(Ar Int 4),QaD.a0 N x40=some r∧Fr t (fun O=>([O 0,O 1,pointer (some ⟨b6,0,none⟩),pointer (some ⟨b8,0,none⟩),O 4,O 5,O 6,O 7,O 8,O 9,O 10,O 11,O 12,O 13,O 14,O 15,O 16,O 17,O 18]:List Value))∧St w0 [Cells b6 ((encA (encI .i64)) (Ar.rep 4 0)) 47,Cells b8 ((encA (encI .i64)) x40) 47] w) ?_ ?_
 ·
  rintro t w ⟨x40,H,hf,hs⟩
  obtain ⟨O,rfl⟩:=hf.open
  show G _ _ _ _ [_,_,_,_,_,_,_,_,_,_,_,_,_,_,_,_,_,_,_] _
  unfold QaD.a0 at H
  refine Qaf (Qak [0,1] rfl ?_)
  refine QaG rfl rfl (es:=((encA (encI .i64)) x40)) rfl rfl (fun _=>rfl) (n:=4) (fun _=>rfl) ((fkA (n:=4) (he:=(fkI .i64).len) (h1:=(fkI .i64).one)).len _) (cells_all (hs.cells 1 rfl)) ?_
  refine QaB (n:=4) hs ((fkA (n:=4) (he:=(fkI .i64).len) (h1:=(fkI .i64).one)).len _) rfl rfl (vs:=((encA (encI .i64)) x40)) rfl rfl rfl (fun _=>rfl) ((fkA (n:=4) (he:=(fkI .i64).len) (h1:=(fkI .i64).one)).len _) ((fkA (n:=4) (he:=(fkI .i64).len) (h1:=(fkI .i64).one)).one _) ?_
  intro w hs
  refine Qab ?_
  obtain rfl:=QsJ H
  refine Qax Tryz.func58 (v:=agg ((encA (encI .i64)) x40).toArray) (resC rfl ⟨⟨_,rfl,(run_loadVar_agg (es:=((encA (encI .i64)) x40)) rfl (congrArg (Result.ok · _) ((fkA (n:=4) (he:=(fkI .i64).len) (h1:=(fkI .i64).one)).len _).symm) (cells_all (hs.cells 0 rfl)))⟩,trivial⟩) ?_
  have hs:St _ [] _:=St.take (Γ':=[_,_]) hs
  exact ⟨_,rfl,rfl,hs⟩
 intro ha1_
 have hs:=hs.pull 3 rfl
 have hs:=hs.pull 3 rfl
 have hs:=hs.pull 3 rfl
 have hs:=hs.pull 3 rfl
 have hs:=hs.pull 4 rfl
 have hs:=hs.pull 5 rfl
 have hs:St _ [_,_,_,_,_,_] _:=St.take (Γ':=[_]) hs
 refine QaZ (I:=fun n_ t w=>∃ x29:(Ar Int 4),∃ x30:Int,rounds (fun s=>QaD.b0 N r10 s.1 s.2) n_ (x29,x30)=some o1_∧Fr t (fun O=>([O 0,O 1,pointer (some ⟨b6,0,none⟩),pointer (some ⟨b8,0,none⟩),O 4,O 5,O 6,O 7,agg (([v11,v12,v13,v14]:List Value)).toArray,int .i64 x30,O 10,O 11,O 12,O 13,O 14,O 15,O 16,O 17,O 18]:List Value))∧St w0 [Cells b6 ((encA (encI .i64)) (Ar.rep 4 0)) 47,Cells b8 ((encA (encI .i64)) x29) 47,Row 2 (K.int .i64) v11 (r10.get 0 []),Row 2 (K.int .i64) v12 (r10.get 1 []),Row 2 (K.int .i64) v13 (r10.get 2 []),Row 2 (K.int .i64) v14 (r10.get 3 [])] w) N ⟨(Ar.rep 4 0),0,Ho,rfl,hs⟩ ?_ ?_
 ·
  rintro _ _ ⟨x29,x30,h,_⟩
  exact rounds_zero h
 intro n_ ih1_
 rintro t w ⟨x29,x30,Ho,hf,hs⟩
 obtain ⟨O,rfl⟩:=hf.open
 show G _ _ _ _ [_,_,_,_,_,_,_,_,_,_,_,_,_,_,_,_,_,_,_] _
 obtain ⟨x17_,H,Hx1_⟩:=rounds_succ Ho
 have H:QaD.b0 N r10 x29 x30=some x17_:=H
 unfold QaD.b0 at H
 refine Qaf (Qak [0] rfl ?_)
 refine QaA (B:=decide (x30< 4)) rfl rfl rfl ?_ ?_
 ·
  intro hb
  rw [if_pos (b_dec_t hb)] at H
  refine Qab (Qaf (Qam rfl (QaE (Qaf ?_))))
  refine QaF (J:=(fun t w=>∃ x35:(Ar Int 4),QaD.j2 N x30 x35=some x17_∧Fr t (fun O=>([O 0,O 1,pointer (some ⟨b6,0,none⟩),pointer (some ⟨b8,0,none⟩),O 4,O 5,O 6,O 7,agg (([v11,v12,v13,v14]:List Value)).toArray,int .i64 x30,O 10,O 11,O 12,O 13,O 14,O 15,O 16,O 17,O 18]:List Value))∧St w0 [Cells b6 ((encA (encI .i64)) (Ar.rep 4 0)) 47,Cells b8 ((encA (encI .i64)) x35) 47,Row 2 (K.int .i64) v11 (r10.get 0 []),Row 2 (K.int .i64) v12 (r10.get 1 []),Row 2 (K.int .i64) v13 (r10.get 2 []),Row 2 (K.int .i64) v14 (r10.get 3 [])] w)) ?_ ?_
  ·
   rintro t w ⟨x35,H,hf,hs⟩
   obtain ⟨O,rfl⟩:=hf.open
   show G _ _ _ _ [_,_,_,_,_,_,_,_,_,_,_,_,_,_,_,_,_,_,_] _
   unfold QaD.j2 at H
   refine Qak [0,1] rfl ?_
   refine Qaa (v:=int .i64 (i64w (x30+1))) rfl rfl rfl ?_
   refine Qaa (v:=int .i64 (i64w (x30+1))) rfl rfl rfl ?_
   show G _ _ _ _ [_,_,_,_,_,_,_,_,_,_,_,_,_,_,_,_,_,_,_] _
   refine Qab ?_
   obtain rfl:=QsJ H
   have hs:=hs.pull 5 rfl
   have hs:=hs.pull 5 rfl
   have hs:=hs.pull 5 rfl
   have hs:=hs.pull 5 rfl
   have hs:=hs.pull 5 rfl
   have hs:=hs.pull 5 rfl
   have hs:St _ [_,_,_,_,_,_] _:=St.take (Γ':=[]) hs
   exact ih1_ _ _ ⟨x35,i64w (x30+1),Hx1_,rfl,hs⟩
  intro ha
  refine Qaf ?_
  by_cases hk9_:x30=0
  ·
   rw [if_pos hk9_] at H
   refine Qak [0,1,2,3] rfl ?_
   refine Qaa (v:=int .i64 x30) rfl rfl rfl ?_
   refine Qco 0 hk9_ (by decide) (cs:=([v11,v12,v13,v14]:List Value)) (v:=v11) rfl rfl (fun _=>rfl) (fun _=>rfl) rfl rfl rfl rfl rfl ?_
   show G _ _ _ _ [_,_,_,_,_,_,_,_,_,_,_,_,_,_,_,_,_,_,_] _
   refine Qaa (v:=int .i64 x30) rfl rfl rfl ?_
   refine Qaa (v:=v11) rfl rfl rfl (Qab (Qak [0,1,2,3,4] rfl ?_))
   refine Qaa (v:=int .i64 x30) rfl rfl rfl ?_
   show G _ _ _ _ [_,_,_,_,_,_,_,_,_,_,_,_,_,_,_,_,_,_,_] _
   refine Qaa (v:=v11) rfl rfl rfl ?_
   obtain ⟨r31,Hr31,H⟩:=bind_get H
   refine Qas (args:=[v11]) rfl rfl (Qat rfl (callFunc_enter Tryz.func66 rfl rfl) rfl) (Qbd.calls (a1:=(r10.get 0 [])) (hs.row 2 rfl) Hr31) ?_
   rintro _ w ⟨rfl,hs2⟩
   have hs:St _ [_,_,_,_,_,_] _:=hs.call hs2
   obtain ⟨g10,H⟩:=ite_get H
   refine Qba (n:=x30) (m:=1) rfl (fun _=>rfl) g10.1 g10.2 rfl rfl rfl rfl rfl ?_
   show G _ _ _ _ [_,_,_,_,_,_,_,_,_,_,_,_,_,_,_,_,_,_,_] _
   have hs:St _ [_,_,_,_,_,_] _:=hs.pull 1 rfl
   refine QbN (y:=r31) (fkI .i64).len (fkI .i64).one g10.1 g10.2 hs rfl rfl rfl rfl rfl (fun _=>rfl) ?_
   intro w hs
   refine Qab ?_
   refine QaH ?_
   have hs:=hs.pull 5 rfl
   have hs:=hs.pull 5 rfl
   have hs:=hs.pull 5 rfl
   have hs:=hs.pull 5 rfl
   have hs:=hs.pull 4 rfl
   have hs:=hs.pull 5 rfl
   have hs:St _ [_,_,_,_,_,_] _:=St.take (Γ':=[]) hs
   exact ha _ _ ⟨x29.set x30 r31,H,rfl,hs⟩
  rw [if_neg hk9_] at H
  by_cases hk11_:x30=1
  ·
   rw [if_pos hk11_] at H
   refine Qak [0,1,2,3] rfl ?_
   refine Qaa (v:=int .i64 x30) rfl rfl rfl ?_
   show G _ _ _ _ [_,_,_,_,_,_,_,_,_,_,_,_,_,_,_,_,_,_,_] _
   refine Qco 1 hk11_ (by decide) (cs:=([v11,v12,v13,v14]:List Value)) (v:=v12) rfl rfl (fun _=>rfl) (fun _=>rfl) rfl rfl rfl rfl rfl ?_
   refine Qaa (v:=int .i64 x30) rfl rfl rfl ?_
   refine Qaa (v:=v12) rfl rfl rfl ?_
   show G _ _ _ _ [_,_,_,_,_,_,_,_,_,_,_,_,_,_,_,_,_,_,_] _
   refine Qab (Qak [0,1,2,3,4] rfl ?_)
   refine Qaa (v:=int .i64 x30) rfl rfl rfl ?_
   refine Qaa (v:=v12) rfl rfl rfl ?_
   obtain ⟨r32,Hr32,H⟩:=bind_get H
   refine Qas (args:=[v12]) rfl rfl (Qat rfl (callFunc_enter Tryz.func66 rfl rfl) rfl) (Qbd.calls (a1:=(r10.get 1 [])) (hs.row 3 rfl) Hr32) ?_
   rintro _ w ⟨rfl,hs2⟩
   have hs:St _ [_,_,_,_,_,_] _:=hs.call hs2
   show G _ _ _ _ [_,_,_,_,_,_,_,_,_,_,_,_,_,_,_,_,_,_,_] _
   obtain ⟨g12,H⟩:=ite_get H
   refine Qba (n:=x30) (m:=1) rfl (fun _=>rfl) g12.1 g12.2 rfl rfl rfl rfl rfl ?_
   have hs:St _ [_,_,_,_,_,_] _:=hs.pull 1 rfl
   refine QbN (y:=r32) (fkI .i64).len (fkI .i64).one g12.1 g12.2 hs rfl rfl rfl rfl rfl (fun _=>rfl) ?_
   intro w hs
   refine Qab ?_
   refine QaH ?_
   have hs:=hs.pull 5 rfl
   have hs:=hs.pull 5 rfl
   have hs:=hs.pull 5 rfl
   have hs:=hs.pull 5 rfl
   have hs:=hs.pull 4 rfl
   have hs:=hs.pull 5 rfl
   have hs:St _ [_,_,_,_,_,_] _:=St.take (Γ':=[]) hs
   exact ha _ _ ⟨x29.set x30 r32,H,rfl,hs⟩
  rw [if_neg hk11_] at H
  by_cases hk13_:x30=2
  ·
   rw [if_pos hk13_] at H
   refine Qak [0,1,2,3] rfl ?_
   refine Qaa (v:=int .i64 x30) rfl rfl rfl ?_
   refine Qco 2 hk13_ (by decide) (cs:=([v11,v12,v13,v14]:List Value)) (v:=v13) rfl rfl (fun _=>rfl) (fun _=>rfl) rfl rfl rfl rfl rfl ?_
   refine Qaa (v:=int .i64 x30) rfl rfl rfl ?_
   show G _ _ _ _ [_,_,_,_,_,_,_,_,_,_,_,_,_,_,_,_,_,_,_] _
   refine Qaa (v:=v13) rfl rfl rfl (Qab (Qak [0,1,2,3,4] rfl ?_))
   refine Qaa (v:=int .i64 x30) rfl rfl rfl ?_
   refine Qaa (v:=v13) rfl rfl rfl ?_
   show G _ _ _ _ [_,_,_,_,_,_,_,_,_,_,_,_,_,_,_,_,_,_,_] _
   obtain ⟨r33,Hr33,H⟩:=bind_get H
   refine Qas (args:=[v13]) rfl rfl (Qat rfl (callFunc_enter Tryz.func66 rfl rfl) rfl) (Qbd.calls (a1:=(r10.get 2 [])) (hs.row 4 rfl) Hr33) ?_
   rintro _ w ⟨rfl,hs2⟩
   have hs:St _ [_,_,_,_,_,_] _:=hs.call hs2
   obtain ⟨g14,H⟩:=ite_get H
   refine Qba (n:=x30) (m:=1) rfl (fun _=>rfl) g14.1 g14.2 rfl rfl rfl rfl rfl ?_
   have hs:St _ [_,_,_,_,_,_] _:=hs.pull 1 rfl
   refine QbN (y:=r33) (fkI .i64).len (fkI .i64).one g14.1 g14.2 hs rfl rfl rfl rfl rfl (fun _=>rfl) ?_
   intro w hs
   refine Qab ?_
   refine QaH ?_
   have hs:=hs.pull 5 rfl
   have hs:=hs.pull 5 rfl
   have hs:=hs.pull 5 rfl
   have hs:=hs.pull 5 rfl
   have hs:=hs.pull 4 rfl
   have hs:=hs.pull 5 rfl
   have hs:St _ [_,_,_,_,_,_] _:=St.take (Γ':=[]) hs
   exact ha _ _ ⟨x29.set x30 r33,H,rfl,hs⟩
  rw [if_neg hk13_] at H
  by_cases hk15_:x30=3
  ·
   rw [if_pos hk15_] at H
   refine Qak [0,1,2,3] rfl ?_
   refine Qaa (v:=int .i64 x30) rfl rfl rfl ?_
   refine Qco 3 hk15_ (by decide) (cs:=([v11,v12,v13,v14]:List Value)) (v:=v14) rfl rfl (fun _=>rfl) (fun _=>rfl) rfl rfl rfl rfl rfl ?_
   show G _ _ _ _ [_,_,_,_,_,_,_,_,_,_,_,_,_,_,_,_,_,_,_] _
   refine Qaa (v:=int .i64 x30) rfl rfl rfl ?_
   refine Qaa (v:=v14) rfl rfl rfl (Qab (Qak [0,1,2,3,4] rfl ?_))
   refine Qaa (v:=int .i64 x30) rfl rfl rfl ?_
   show G _ _ _ _ [_,_,_,_,_,_,_,_,_,_,_,_,_,_,_,_,_,_,_] _
   refine Qaa (v:=v14) rfl rfl rfl ?_
   obtain ⟨r34,Hr34,H⟩:=bind_get H
   refine Qas (args:=[v14]) rfl rfl (Qat rfl (callFunc_enter Tryz.func66 rfl rfl) rfl) (Qbd.calls (a1:=(r10.get 3 [])) (hs.row 5 rfl) Hr34) ?_
   rintro _ w ⟨rfl,hs2⟩
   have hs:St _ [_,_,_,_,_,_] _:=hs.call hs2
   obtain ⟨g16,H⟩:=ite_get H
   refine Qba (n:=x30) (m:=1) rfl (fun _=>rfl) g16.1 g16.2 rfl rfl rfl rfl rfl ?_
   show G _ _ _ _ [_,_,_,_,_,_,_,_,_,_,_,_,_,_,_,_,_,_,_] _
   have hs:St _ [_,_,_,_,_,_] _:=hs.pull 1 rfl
   refine QbN (y:=r34) (fkI .i64).len (fkI .i64).one g16.1 g16.2 hs rfl rfl rfl rfl rfl (fun _=>rfl) ?_
   intro w hs
   refine Qab ?_
   refine QaH ?_
   have hs:=hs.pull 5 rfl
   have hs:=hs.pull 5 rfl
   have hs:=hs.pull 5 rfl
   have hs:=hs.pull 5 rfl
   have hs:=hs.pull 4 rfl
   have hs:=hs.pull 5 rfl
   have hs:St _ [_,_,_,_,_,_] _:=St.take (Γ':=[]) hs
   exact ha _ _ ⟨x29.set x30 r34,H,rfl,hs⟩
  rw [if_neg hk15_] at H
  cases H
 intro hb
 rw [if_neg (b_dec_f hb)] at H
 show G _ _ _ _ [_,_,_,_,_,_,_,_,_,_,_,_,_,_,_,_,_,_,_] _
 refine Qab (Qaf (Qap rfl ?_))
 obtain rfl:=QsJ H
 subst Hx1_
 have hs:=hs.pull 1 rfl
 have hs:=hs.pull 1 rfl
 have hs:St _ [_,_] _:=St.take (Γ':=[_,_,_,_]) hs
 refine Qbq rfl ?_
 exact ha1_ _ _ ⟨x29,Hr1_,rfl,hs⟩
end Go.Proofs.YtdnipilfcjkfoaaGreatDoorX
