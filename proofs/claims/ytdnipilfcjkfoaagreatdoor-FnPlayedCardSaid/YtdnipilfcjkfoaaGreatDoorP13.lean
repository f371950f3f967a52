import Derived.Test.YtdnipilfcjkfoaaGreatDoorP12
namespace Go.Proofs.YtdnipilfcjkfoaaGreatDoorX
open Go Go.RowKit Go.Proofs
open Go.Value (int pointer bool agg slice string tuple)
set_option maxHeartbeats 8000000
set_option maxRecDepth 100000
set_option linter.unusedVariables false
set_option linter.unusedSimpArgs false
def Qa7.post (w0:World) (r:(Qag×Int)) (v:Value) (w:World):Prop:=∃ u1:Value,v=tuple #[agg (([int .i8 r.1.Qac,int .i8 r.1.Qae,u1]:List Value)).toArray,int .i64 r.2]∧St w0 [Row 61 Qao u1 r.1.Qah] w
theorem Qa7.calls {N : Nat} {a1 : ByteArray} {w0 : World} {r : (Qag × Int)} (htab : Lib.TabIs Tryz.prog w0 "internal/strconv.uint64pow10" .u64 Lib.pow10Tab) (hmax : CellI w0 0) (hsyn : CellE w0 2) (hrng : CellE w0 3) (hdbr : CellU w0 7 15 4) (H : Qa7.f N a1 = some r) :
 Calls Tryz.prog 11 #[string a1] w0 fun e w=>∃ v,e= .returned v∧Qa7.post w0 r v w:=by
 unfold Qa7.f at H
 have hs:St w0 [] w0:=St.refl w0
 refine calls_of_g (n:=83) Tryz.func11 rfl rfl ?_
 show G _ _ _ _ (_::_::_::_::_::_::_::_::_::_::_::_::_::_::_::_::_::_::_::_::_::_::_::_::_::_::_::_::_::_::_::_::_::_::_::_::_::_::_::_::_::_::_::_::_::_::_::_::_::_::_::_::_::_::_::_::_::_::_::_::_::_::_::_::_::_::_::_::_::_::_::_::_::_::_::_::_::_::_::_::_::_::_::_::[]) _
 refine Qaf (Qak [0,1] rfl ?_)
 refine Qa5 hs rfl rfl (z:=(agg #[int .i8 0,int .i8 0,slice none 0 0])) (cs:=(([int .i8 0,int .i8 0,slice none 0 0]:List Value))) rfl (fun _=>rfl) rfl ?_
 intro b2 w hs
 refine g_d rfl ?_
 try dsimp only [Qai,Qaj]
 refine Qaa (v:=int .i64 0) rfl rfl rfl (g_d rfl (Qab (Qaf (Qak [0,1,2] rfl ?_))))
 refine Qaa (v:=string a1) rfl rfl rfl (g_d rfl ?_)
 obtain ⟨r4,Hr4,H⟩:=bind_get H
 refine Qas (args:=[string a1,string (⟨#[10]⟩:ByteArray)]) rfl rfl (Qat rfl (callFunc_enter Tryz.func41 rfl rfl) rfl) (strings_Split.calls (a1:=a1) (a2:=(⟨#[10]⟩:ByteArray)) (hs.cellI hmax) Hr4) ?_
 intro v5 w hs2
 have hs:St _ [_,_] _:=hs.call hs2
 refine g_d rfl ?_
 try dsimp only [Qai,Qaj]
 refine Qaa (v:=v5) rfl rfl rfl (g_d rfl (Qab (Qaf (Qak [0,1,2,3,4,5,6,7,8,9,10] rfl ?_))))
 refine Qaa (v:=v5) rfl rfl rfl (g_d rfl ?_)
 obtain ⟨g1,H⟩:=ite_get H
 refine Qcm fkS (⟨#[]⟩:ByteArray) (hs.row 0 rfl) rfl (fun _=>rfl) g1.1 g1.2 rfl rfl rfl rfl rfl ?_
 intro p7 hp7 lp7 op7
 refine g_d rfl ?_
 try dsimp only [Qai,Qaj]
 refine Qaw rfl rfl (v:=string (rdL r4 0 (⟨#[]⟩:ByteArray))) rfl rfl (fun _=>rfl) hp7 (g_d rfl ?_)
 obtain ⟨r8,Hr8,H⟩:=bind_get H
 refine Qas (args:=[string (rdL r4 0 (⟨#[]⟩:ByteArray)),string (⟨#[32]⟩:ByteArray)]) rfl rfl (Qat rfl (callFunc_enter Tryz.func42 rfl rfl) rfl) (strings_Cut.calls (a1:=rdL r4 0 (⟨#[]⟩:ByteArray)) (a2:=(⟨#[32]⟩:ByteArray)) (hs.cellI hmax) Hr8) ?_
 rintro _ w ⟨rfl,hs2⟩
 have hs:St _ [_,_] _:=hs.call hs2
 refine g_d rfl ?_
 try dsimp only [Qai,Qaj]
 refine Qaa (v:=tuple #[string r8.1,string r8.2.1,bool r8.2.2]) rfl rfl rfl (g_d rfl ?_)
 refine Qaa (v:=string r8.1) rfl rfl rfl (g_d rfl ?_)
 refine Qaa (v:=string r8.2.1) rfl rfl rfl (g_d rfl ?_)
 refine Qaa (v:=bool r8.2.2) rfl rfl rfl (g_d rfl ?_)
 refine Qaa (v:=string r8.1) rfl rfl rfl (g_d rfl ?_)
 refine Qaa (v:=string r8.2.1) rfl rfl rfl (g_d rfl ?_)
 try dsimp only [Qai,Qaj]
 refine Qaa (v:=bool r8.2.2) rfl rfl rfl (g_d rfl (Qab (Qaf (Qak [0,1,2] rfl ?_))))
 refine Qaa (v:=agg (([int .i8 0,int .i8 0,slice none 0 0]:List Value)).toArray) rfl rfl (QbB (cs:=(([int .i8 0,int .i8 0,slice none 0 0]:List Value))) (segs:=[[int .i8 0],[int .i8 0],[slice none 0 0]]) rfl rfl (fun _=>rfl) ⟨rfl,(fun _=>rfl),rfl,(fun _=>rfl),rfl,(fun _=>rfl),trivial⟩ (by simp) (by first|rfl|(simp [ev,encA];done)|(simp [ev,encA];rfl))) ?_
 refine g_d rfl ?_
 try dsimp only [Qai,Qaj]
 refine Qa5 hs rfl rfl (z:=(agg #[int .i8 0,int .i8 0,slice none 0 0])) (cs:=(([int .i8 0,int .i8 0,slice none 0 0]:List Value))) rfl (fun _=>rfl) rfl ?_
 intro b9 w hs
 refine g_d rfl ?_
 refine QaB (n:=3) hs rfl rfl rfl (vs:=(([int .i8 0,int .i8 0,slice none 0 0]:List Value))) rfl rfl rfl (fun _=>rfl) rfl (by simp [Value.oneCell']) ?_
 intro w hs
 refine g_n rfl (Qab (Qaf (Qak [0,1,2,3,4,5,6] rfl ?_)))
 refine Qaa (v:=string r8.1) rfl rfl rfl (g_d rfl ?_)
 obtain ⟨r11,Hr11,H⟩:=bind_get H
 refine Qas (args:=[string r8.1,int .i64 60]) rfl rfl (Qat rfl (callFunc_enter Tryz.func43 rfl rfl) rfl) (Qb4.calls (a1:=r8.1) (a2:=60) (hs.tab htab) (hs.cellE hsyn) (hs.cellE hrng) Hr11) ?_
 rintro _ w ⟨rfl,hs2⟩
 have hs:St _ [_,_,_] _:=hs.call hs2
 refine g_d rfl ?_
 try dsimp only [Qai,Qaj]
 refine Qaa (v:=tuple #[int .i64 r11.1,bool r11.2]) rfl rfl rfl (g_d rfl ?_)
 refine Qaa (v:=int .i64 r11.1) rfl rfl rfl (g_d rfl ?_)
 refine Qaa (v:=bool r11.2) rfl rfl rfl (g_d rfl ?_)
 refine Qaa (v:=int .i64 r11.1) rfl rfl rfl (g_d rfl ?_)
 refine Qaa (v:=bool r11.2) rfl rfl rfl (g_d rfl ?_)
 try dsimp only [Qai,Qaj]
 refine Qab (Qaf (Qak [0,1,2,3,4,5,6] rfl ?_))
 refine Qaa (v:=string r8.2.1) rfl rfl rfl (g_d rfl ?_)
 obtain ⟨r12,Hr12,H⟩:=bind_get H
 refine Qas (args:=[string r8.2.1,int .i64 3]) rfl rfl (Qat rfl (callFunc_enter Tryz.func43 rfl rfl) rfl) (Qb4.calls (a1:=r8.2.1) (a2:=3) (hs.tab htab) (hs.cellE hsyn) (hs.cellE hrng) Hr12) ?_
 rintro _ w ⟨rfl,hs2⟩
 have hs:St _ [_,_,_] _:=hs.call hs2
 refine g_d rfl ?_
 refine Qaa (v:=tuple #[int .i64 r12.1,bool r12.2]) rfl rfl rfl (g_d rfl ?_)
 refine Qaa (v:=int .i64 r12.1) rfl rfl rfl (g_d rfl ?_)
 refine Qaa (v:=bool r12.2) rfl rfl rfl (g_d rfl ?_)
 refine Qaa (v:=int .i64 r12.1) rfl rfl rfl (g_d rfl ?_)
 try dsimp only [Qai,Qaj]
 refine Qaa (v:=bool r12.2) rfl rfl rfl (g_d rfl (Qab (Qaf (Qak [0,1,2,3,4,5,6,7] rfl ?_))))
 refine Qaa (v:=int .i64 r11.1) rfl rfl rfl (g_d rfl ?_)
 refine Qaa (v:=int .i8 (i8w r11.1)) rfl rfl rfl (g_d rfl ?_)
 refine Qaa (v:=int .i64 r12.1) rfl rfl rfl (g_d rfl ?_)
 refine Qaa (v:=int .i8 (i8w r12.1)) rfl rfl rfl (g_d rfl ?_)
 refine Qaa (v:=pointer (some ⟨b9,0,none⟩)) rfl rfl rfl (g_d rfl ?_)
 refine Qck hs rfl rfl (vs:=((encI .i8) (i8w r11.1))) (cs':=(([int .i8 (i8w r11.1),int .i8 0,slice none 0 0]:List Value))) rfl rfl rfl (n:=1) (fun _=>rfl) ((fkI .i8).len _) (by first|exact Nat.le_of_ble_eq_true rfl|simp [encAI_len,encAB_len,encA_len]) ((fkI .i8).one _) rfl ?_
 intro w hs
 refine g_n rfl ?_
 refine Qaa (v:=pointer (some ⟨b9,1,none⟩)) rfl rfl rfl (g_d rfl ?_)
 refine Qck hs rfl rfl (vs:=((encI .i8) (i8w r12.1))) (cs':=(([int .i8 (i8w r11.1),int .i8 (i8w r12.1),slice none 0 0]:List Value))) rfl rfl rfl (n:=1) (fun _=>rfl) ((fkI .i8).len _) (by first|exact Nat.le_of_ble_eq_true rfl|simp [encAI_len,encAB_len,encA_len]) ((fkI .i8).one _) rfl ?_
 intro w hs
 refine g_n rfl (Qab (Qaf (Qaf (Qak [0] rfl ?_))))
 refine Qaa (v:=int .i64 1) rfl rfl rfl (g_d rfl ?_)
 try dsimp only [Qai,Qaj]
 refine Qab ?_
 obtain ⟨o1_,Ho,Hr1_⟩:=bind_get H
 refine QaF (J:=fun t w=>∃ x40:Int,∃ x41:Int,∃ v42:Value,∃ x43:(List Qav),Qa7.a0 N a1 x40 x41 x43=some r∧Fr t (fun O=>(string a1::O 1::pointer (some ⟨b2,0,none⟩)::O 3::O 4::O 5::O 6::O 7::pointer (some ⟨b9,0,none⟩)::O 9::oT O 1 (oT O 2 (oT O 3 (oT O 4 (oT O 5 (oT O 6 (oT O 7 (O 80::O 81::O 82::O 83::[]))))))):List Value))∧St w0 [Cells b2 (([int .i8 0,int .i8 0,slice none 0 0]:List Value)) 30,Cells b9 (([int .i8 x40,int .i8 x41,v42]:List Value)) 30,Row 61 Qao v42 x43] w) ?_ ?_
 ·
  rintro t w ⟨x40,x41,v42,x43,H,hf,hs⟩
  obtain ⟨O,rfl⟩:=hf.open
  try dsimp only [oT]
  unfold Qa7.a0 at H
  refine Qaf (Qaf (Qak [0,1,2,3,4,5,6,7] rfl ?_))
  refine Qaa (v:=string a1) rfl rfl rfl (g_d rfl ?_)
  refine QaA (B:=a1.toList==(⟨#[]⟩:ByteArray).toList) rfl rfl rfl ?_ ?_
  ·
   intro hb
   rw [if_pos (b_beq_t hb)] at H
   refine g_d rfl ?_
   try dsimp only [Qai,Qaj]
   refine Qaa (v:=bool true) rfl rfl rfl (g_d rfl (Qad rfl rfl (g_d rfl (Qad rfl rfl (g_d rfl ?_)))))
   try dsimp only [Qai,Qaj]
   refine Qad rfl rfl (g_d rfl (Qad rfl rfl (g_d rfl ?_)))
   refine Qaa (v:=bool true) rfl rfl rfl (g_d rfl ?_)
   try dsimp only [Qai,Qaj]
   refine Qab (Qam rfl (Qaf (Qak [0,1,2] rfl ?_)))
   refine Qaa (v:=agg (([int .i8 0,int .i8 0,slice none 0 0]:List Value)).toArray) rfl rfl (QbB (cs:=(([int .i8 0,int .i8 0,slice none 0 0]:List Value))) (segs:=[[int .i8 0],[int .i8 0],[slice none 0 0]]) rfl rfl (fun _=>rfl) ⟨rfl,(fun _=>rfl),rfl,(fun _=>rfl),rfl,(fun _=>rfl),trivial⟩ (by simp) (by first|rfl|(simp [ev,encA];done)|(simp [ev,encA];rfl))) ?_
   refine g_d rfl ?_
   refine QaB (n:=3) hs rfl rfl rfl (vs:=(([int .i8 0,int .i8 0,slice none 0 0]:List Value))) rfl rfl rfl (fun _=>rfl) rfl (by simp [Value.oneCell']) ?_
   intro w hs
   refine g_n rfl ?_
   refine Qaa (v:=int .i64 5) rfl rfl rfl (g_d rfl ?_)
   try dsimp only [Qai,Qaj]
   refine Qab ?_
   obtain rfl:=QsJ H
   refine Qax Tryz.func11 (v:=tuple #[agg (([int .i8 0,int .i8 0,slice none 0 0]:List Value)).toArray,int .i64 5]) (resN (l:=Tryz.f11.results.toList) (vs:=[agg (([int .i8 0,int .i8 0,slice none 0 0]:List Value)).toArray,int .i64 5]) rfl ⟨⟨_,rfl,(run_loadVar_agg (es:=(([int .i8 0,int .i8 0,slice none 0 0]:List Value))) rfl rfl (cells_all (hs.cells 0 rfl)))⟩,rfl,trivial⟩ (by simp)) ?_
   have hs:=hs.nil 61 Qao
   have hs:=hs.pull 0 rfl
   have hs:St _ [_] _:=St.take (Γ':=[_,_,_]) hs
   exact ⟨_,rfl,(slice none 0 0),rfl,hs⟩
  intro hb
  rw [if_neg (b_beq_f hb)] at H
  refine g_d rfl ?_
  refine Qaa (v:=bool false) rfl rfl rfl (g_d rfl ?_)
  refine QaG rfl rfl (es:=(([int .i8 x40,int .i8 x41,v42]:List Value))) rfl rfl (fun _=>rfl) (n:=3) (fun _=>rfl) rfl (cells_all (hs.cells 1 rfl)) (g_d rfl ?_)
  try dsimp only [Qai,Qaj]
  obtain ⟨r45,Hr45,H⟩:=bind_get H
  refine Qas (args:=[agg (([int .i8 x40,int .i8 x41,v42]:List Value)).toArray]) rfl rfl (Qat rfl (callFunc_enter Tryz.func12 rfl rfl) rfl) (QaY.calls (a1:=(⟨x40,x41,x43⟩:Qag)) (hs.tab htab) (hs.cellU hdbr) (hs.row 2 rfl) Hr45) ?_
  rintro _ w ⟨rfl,hs2⟩
  have hs:St _ [_,_,_] _:=hs.call hs2
  refine g_d rfl ?_
  refine Qaa (v:=string a1) rfl rfl rfl (g_d rfl ?_)
  refine QaA (B:=!(r45.toList==a1.toList)) rfl rfl rfl ?_ ?_
  ·
   intro hb
   rw [if_neg (b_nbeq_t hb)] at H
   refine g_d rfl ?_
   try dsimp only [Qai,Qaj]
   refine Qaa (v:=bool true) rfl rfl rfl (g_d rfl (Qab (Qam rfl (Qaf (Qak [0,1,2] rfl ?_)))))
   refine Qaa (v:=agg (([int .i8 0,int .i8 0,slice none 0 0]:List Value)).toArray) rfl rfl (QbB (cs:=(([int .i8 0,int .i8 0,slice none 0 0]:List Value))) (segs:=[[int .i8 0],[int .i8 0],[slice none 0 0]]) rfl rfl (fun _=>rfl) ⟨rfl,(fun _=>rfl),rfl,(fun _=>rfl),rfl,(fun _=>rfl),trivial⟩ (by simp) (by first|rfl|(simp [ev,encA];done)|(simp [ev,encA];rfl))) ?_
   refine g_d rfl ?_
   try dsimp only [Qai,Qaj]
   refine QaB (n:=3) hs rfl rfl rfl (vs:=(([int .i8 0,int .i8 0,slice none 0 0]:List Value))) rfl rfl rfl (fun _=>rfl) rfl (by simp [Value.oneCell']) ?_
   intro w hs
   refine g_n rfl ?_
   refine Qaa (v:=int .i64 5) rfl rfl rfl (g_d rfl (Qab ?_))
   obtain rfl:=QsJ H
   refine Qax Tryz.func11 (v:=tuple #[agg (([int .i8 0,int .i8 0,slice none 0 0]:List Value)).toArray,int .i64 5]) (resN (l:=Tryz.f11.results.toList) (vs:=[agg (([int .i8 0,int .i8 0,slice none 0 0]:List Value)).toArray,int .i64 5]) rfl ⟨⟨_,rfl,(run_loadVar_agg (es:=(([int .i8 0,int .i8 0,slice none 0 0]:List Value))) rfl rfl (cells_all (hs.cells 0 rfl)))⟩,rfl,trivial⟩ (by simp)) ?_
   have hs:=hs.nil 61 Qao
   have hs:=hs.pull 0 rfl
   have hs:St _ [_] _:=St.take (Γ':=[_,_,_]) hs
   exact ⟨_,rfl,(slice none 0 0),rfl,hs⟩
  intro hb
  rw [if_pos (b_nbeq_f hb)] at H
  refine g_d rfl ?_
  try dsimp only [Qai,Qaj]
  refine Qaa (v:=bool false) rfl rfl rfl (g_d rfl (Qab (Qap rfl (QaE (Qaf (Qak [0,1,2] rfl ?_))))))
  refine QaG rfl rfl (es:=(([int .i8 x40,int .i8 x41,v42]:List Value))) rfl rfl (fun _=>rfl) (n:=3) (fun _=>rfl) rfl (cells_all (hs.cells 1 rfl)) (g_d rfl ?_)
  try dsimp only [Qai,Qaj]
  refine QaB (n:=3) hs rfl rfl rfl (vs:=(([int .i8 x40,int .i8 x41,v42]:List Value))) rfl rfl rfl (fun _=>rfl) rfl (by intro v hv;simp only [List.mem_append,List.mem_cons,List.not_mem_nil,or_false] at hv;repeat (first|(subst hv;first|rfl|exact slOne (hs.row 2 rfl))|(rcases hv with hv|hv))) ?_
  intro w hs
  refine g_n rfl ?_
  refine Qaa (v:=int .i64 0) rfl rfl rfl (g_d rfl (Qab ?_))
  obtain rfl:=QsJ H
  refine Qax Tryz.func11 (v:=tuple #[agg (([int .i8 x40,int .i8 x41,v42]:List Value)).toArray,int .i64 0]) (resN (l:=Tryz.f11.results.toList) (vs:=[agg (([int .i8 x40,int .i8 x41,v42]:List Value)).toArray,int .i64 0]) rfl ⟨⟨_,rfl,(run_loadVar_agg (es:=(([int .i8 x40,int .i8 x41,v42]:List Value))) rfl rfl (cells_all (hs.cells 0 rfl)))⟩,rfl,trivial⟩ (by simp)) ?_
  have hs:=hs.pull 2 rfl
  have hs:St _ [_] _:=St.take (Γ':=[_,_]) hs
  exact ⟨_,rfl,v42,rfl,hs⟩
 intro ha1_
 have hs:=hs.nil 61 Qao
 have hs:=hs.pull 1 rfl
 have hs:=hs.pull 1 rfl
 have hs:=hs.pull 2 rfl
 have hs:=hs.pull 3 rfl
 have hs:St _ [_,_,_,_] _:=St.take (Γ':=[]) hs
 refine QaZ (I:=fun n_ t w=>∃ x25:Int,∃ x26:Int,∃ v28:Value,∃ x29:(List Qav),∃ x30:Int,rounds (fun s=>Qa7.b0 N r4 s.1 s.2.1 s.2.2.1 s.2.2.2) n_ (x25,x26,x29,x30)=some o1_∧Fr t (fun O=>(string a1::O 1::pointer (some ⟨b2,0,none⟩)::O 3::v5::O 5::O 6::O 7::pointer (some ⟨b9,0,none⟩)::O 9::O 10::O 11::O 12::int .i64 x30::O 14::O 15::O 16::O 17::O 18::O 19::oT O 2 (oT O 3 (oT O 4 (oT O 5 (oT O 6 (oT O 7 (O 80::O 81::O 82::O 83::[])))))):List Value))∧St w0 [Cells b2 (([int .i8 0,int .i8 0,slice none 0 0]:List Value)) 30,Row 9 K.str v5 r4,Row 61 Qao v28 x29,Cells b9 (([int .i8 x25,int .i8 x26,v28]:List Value)) 30] w) N ⟨i8w r11.1,i8w r12.1,slice none 0 0,[],1,Ho,rfl,hs⟩ ?_ ?_
 ·
  rintro _ _ ⟨x25,x26,v28,x29,x30,h,_⟩
  exact rounds_zero h
 intro n_ ih1_
 rintro t w ⟨x25,x26,v28,x29,x30,Ho,hf,hs⟩
 obtain ⟨O,rfl⟩:=hf.open
 try dsimp only [oT]
 obtain ⟨x4_,H,Hx1_⟩:=rounds_succ Ho
 have H:Qa7.b0 N r4 x25 x26 x29 x30=some x4_:=H
 unfold Qa7.b0 at H
 refine Qaf (Qaf (Qak [0,1,2,3,4,5,6,7,8] rfl ?_))
 refine Qaa (v:=int .i64 x30) rfl rfl rfl (g_d rfl ?_)
 refine Qaa (v:=v5) rfl rfl rfl (g_d rfl ?_)
 refine Qbp (hs.row 1 rfl) rfl rfl rfl rfl rfl (g_d rfl ?_)
 refine Qaa (v:=int .i64 (i64w ((r4.length:Int) - 1))) rfl rfl rfl (g_d rfl ?_)
 try dsimp only [Qai,Qaj]
 refine QaA (B:=decide (x30< (i64w ((r4.length:Int) - 1)))) rfl rfl rfl ?_ ?_
 ·
  intro hb
  rw [if_pos (b_dec_t hb)] at H
  refine g_d rfl ?_
  try dsimp only [Qai,Qaj]
  refine Qaa (v:=bool true) rfl rfl rfl (g_d rfl ?_)
  refine Qaa (v:=int .i64 x30) rfl rfl rfl (g_d rfl ?_)
  refine QaA (B:=decide (x30≤61)) rfl rfl rfl ?_ ?_
  ·
   intro hb
   rw [if_pos (b_dec_t hb)] at H
   refine g_d rfl ?_
   refine Qaa (v:=bool true) rfl rfl rfl (g_d rfl ?_)
   try dsimp only [Qai,Qaj]
   refine Qab (Qam rfl (QaE (Qaf ?_)))
   refine Qbz (Qaf (Qak [0,1,2,3,4,5,6,7,8,9,10,11] rfl ?_))
   refine Qaa (v:=v5) rfl rfl rfl (g_d rfl ?_)
   refine Qaa (v:=int .i64 x30) rfl rfl rfl (g_d rfl ?_)
   obtain ⟨g3,H⟩:=ite_get H
   refine Qcm fkS (⟨#[]⟩:ByteArray) (hs.row 1 rfl) rfl (fun _=>rfl) g3.1 g3.2 rfl rfl rfl rfl rfl ?_
   intro p31 hp31 lp31 op31
   refine g_d rfl ?_
   refine Qaw rfl rfl (v:=string (rdL r4 x30 (⟨#[]⟩:ByteArray))) rfl rfl (fun _=>rfl) hp31 (g_d rfl ?_)
   try dsimp only [Qai,Qaj]
   obtain ⟨r32,Hr32,H⟩:=bind_get H
   refine Qas (args:=[string (rdL r4 x30 (⟨#[]⟩:ByteArray)),string (⟨#[32]⟩:ByteArray)]) rfl rfl (Qat rfl (callFunc_enter Tryz.func42 rfl rfl) rfl) (strings_Cut.calls (a1:=rdL r4 x30 (⟨#[]⟩:ByteArray)) (a2:=(⟨#[32]⟩:ByteArray)) (hs.cellI hmax) Hr32) ?_
   rintro _ w ⟨rfl,hs2⟩
   have hs:St _ [_,_,_,_] _:=hs.call hs2
   refine g_d rfl ?_
   refine Qaa (v:=tuple #[string r32.1,string r32.2.1,bool r32.2.2]) rfl rfl rfl (g_d rfl ?_)
   refine Qaa (v:=string r32.1) rfl rfl rfl (g_d rfl ?_)
   refine Qaa (v:=string r32.2.1) rfl rfl rfl (g_d rfl ?_)
   refine Qaa (v:=bool r32.2.2) rfl rfl rfl (g_d rfl ?_)
   refine Qaa (v:=string r32.1) rfl rfl rfl (g_d rfl ?_)
   try dsimp only [Qai,Qaj]
   refine Qaa (v:=string r32.2.1) rfl rfl rfl (g_d rfl ?_)
   refine Qaa (v:=bool r32.2.2) rfl rfl rfl (g_d rfl ?_)
   try dsimp only [Qai,Qaj]
   refine Qab ?_
   obtain ⟨r33,Hr33,H⟩:=bind_get H
   obtain ⟨gq8_,H⟩:=ite_get H
   refine Qbu ?_
   intro T hT
   refine Qcl (n:=11) rfl [0,1,2,3,4,5,6,7,8,9,10] [0,1,2,3,4,5,6,7,8,9,10] rfl rfl (Inv:=fun D t w=>∃ v34:Value,∃ v36:Value,∃ O:Nat→Value,t=(string a1::O 1::pointer (some ⟨b2,0,none⟩)::O 3::v5::O 5::O 6::O 7::pointer (some ⟨b9,0,none⟩)::O 9::O 10::O 11::O 12::int .i64 x30::string r32.1::string r32.2.1::bool r32.2.2::O 17::O 18::O 19::oT O 2 (oT O 3 (O 40::O 41::O 42::O 43::int .i64 x30::v5::int .i64 (r4.length:Int)::int .i64 (i64w ((r4.length:Int) - 1))::bool true::bool true::int .i64 x30::bool true::bool true::O 53::O 54::tuple #[string r32.1,string r32.2.1,bool r32.2.2]::v5::int .i64 x30::pointer (some p31)::string (rdL r4 x30 (⟨#[]⟩:ByteArray))::tuple #[string r32.1,string r32.2.1,bool r32.2.2]::string r32.1::string r32.2.1::bool r32.2.2::cnd (D 0) (pointer (some ⟨b9,2,none⟩)) (O 64)::cnd (D 1) v28 (O 65)::cnd (D 2) (string r32.1) (O 66)::cnd (D 3) (int .u64 r33) (O 67)::cnd (D 4) (string r32.2.1) (O 68)::cnd (D 5) (bool (r32.2.1.toList==(⟨#[121,101,115]⟩:ByteArray).toList)) (O 69)::cnd (D 6) (agg (QaC (⟨r33,r32.2.1.toList==(⟨#[121,101,115]⟩:ByteArray).toList⟩:Qav)).toArray) (O 70)::cnd (D 7) v34 (O 71)::cnd (D 8) v36 (O 72)::cnd (D 9) (pointer (some ⟨b9,2,none⟩)) (O 73)::O 74::O 75::O 76::O 77::O 78::O 79::O 80::O 81::O 82::O 83::[])))∧St w0 [Asc (D 7) (Row 61 Qao v34 ([(⟨r33,r32.2.1.toList==(⟨#[121,101,115]⟩:ByteArray).toList⟩:Qav)])),Cells b2 (([int .i8 0,int .i8 0,slice none 0 0]:List Value)) 30,Row 9 K.str v5 r4,Row 61 Qao (cnd (D 8) v36 v28) (cnd (D 8) (x29++([(⟨r33,r32.2.1.toList==(⟨#[121,101,115]⟩:ByteArray).toList⟩:Qav)])) x29),Cells b9 (cnd (D 10) (([int .i8 x25,int .i8 x26,v36]:List Value)) (([int .i8 x25,int .i8 x26,v28]:List Value))) 30] w) ?_ ⟨⟨⟨⟨⟨⟨⟨⟨⟨⟨⟨trivial,?_⟩,?_⟩,?_⟩,?_⟩,?_⟩,?_⟩,?_⟩,?_⟩,?_⟩,?_⟩,?_⟩ ?_
   ·
    intro w hh hbw
    have hs:=hs.samew hh hbw
    have hs:=hs.emp
    exact ⟨undef,undef,fun i=>T.getD i undef,(by subst hT;rfl),hs⟩
   ·
    rintro D t w hD hp hcl ⟨v34,v36,O,ht,hs⟩ rest hk
    have q1_:=nz hcl 1 0 hD
    have q8_:=nz hcl 8 0 q1_
    have q9_:=nz hcl 9 0 hD
    have q10_:=nz hcl 10 0 q9_
    simp only [hD,q1_,q8_,q9_,q10_,cq,oT] at ht hs
    subst ht
    refine Qaa (v:=pointer (some ⟨b9,2,none⟩)) rfl rfl rfl (g_d rfl ?_)
    try dsimp only [Qai,Qaj]
    refine hk _ _ ⟨v34,v36,O,?_,hs.cast ?_⟩<;>simp only [oT,lq,cq,Nat.reduceBEq,q1_,q8_,q9_,q10_]
   ·
    rintro D t w hD hp hcl ⟨v34,v36,O,ht,hs⟩ rest hk
    obtain ⟨p0_,_⟩:=hp
    have q8_:=nz hcl 8 0 hD
    have q9_:=nz hcl 9 1 hD
    have q10_:=nz hcl 10 0 q9_
    simp only [hD,p0_,q8_,q9_,q10_,cq,oT] at ht hs
    subst ht
    refine Qaw rfl rfl (v:=v28) rfl rfl (fun _=>rfl) (cells_load (hs.cells 4 rfl) 2 1 rfl) (g_d rfl ?_)
    try dsimp only [Qai,Qaj]
    refine hk _ _ ⟨v34,v36,O,?_,hs.cast ?_⟩<;>simp only [oT,lq,cq,Nat.reduceBEq,p0_,q8_,q9_,q10_]
   ·
    rintro D t w hD hp hcl ⟨v34,v36,O,ht,hs⟩ rest hk
    have q3_:=nz hcl 3 0 hD
    have q6_:=nz hcl 6 0 q3_
    have q7_:=nz hcl 7 0 q6_
    have q8_:=nz hcl 8 1 q7_
    have q9_:=nz hcl 9 2 hD
    have q10_:=nz hcl 10 0 q9_
    simp only [hD,q3_,q6_,q7_,q8_,q9_,q10_,cq,oT] at ht hs
    subst ht
    refine Qaa (v:=string r32.1) rfl rfl rfl (g_d rfl ?_)
    try dsimp only [Qai,Qaj]
    refine hk _ _ ⟨v34,v36,O,?_,hs.cast ?_⟩<;>simp only [oT,lq,cq,Nat.reduceBEq,q3_,q6_,q7_,q8_,q9_,q10_]
   ·
    rintro D t w hD hp hcl ⟨v34,v36,O,ht,hs⟩ rest hk
    obtain ⟨p2_,_⟩:=hp
    have q6_:=nz hcl 6 0 hD
    have q7_:=nz hcl 7 0 q6_
    have q8_:=nz hcl 8 1 q7_
    have q9_:=nz hcl 9 3 hD
    have q10_:=nz hcl 10 0 q9_
    simp only [hD,p2_,q6_,q7_,q8_,q9_,q10_,cq,oT] at ht hs
    subst ht
    refine Qas (args:=[string r32.1]) rfl rfl (Qat rfl (callFunc_enter Tryz.func44 rfl rfl) rfl) (Qbm.calls (a1:=r32.1) Hr33) ?_
    rintro _ w ⟨rfl,hs2⟩
    have hs:St _ [_,_,_,_,_] _:=hs.call hs2
    refine g_d rfl ?_
    try dsimp only [Qai,Qaj]
    refine hk _ _ ⟨v34,v36,O,?_,hs.cast ?_⟩<;>simp only [oT,lq,cq,Nat.reduceBEq,p2_,q6_,q7_,q8_,q9_,q10_]
   ·
    rintro D t w hD hp hcl ⟨v34,v36,O,ht,hs⟩ rest hk
    have q5_:=nz hcl 5 0 hD
    have q6_:=nz hcl 6 1 q5_
    have q7_:=nz hcl 7 0 q6_
    have q8_:=nz hcl 8 1 q7_
    have q9_:=nz hcl 9 4 hD
    have q10_:=nz hcl 10 0 q9_
    simp only [hD,q5_,q6_,q7_,q8_,q9_,q10_,cq,oT] at ht hs
    subst ht
    refine Qaa (v:=string r32.2.1) rfl rfl rfl (g_d rfl ?_)
    try dsimp only [Qai,Qaj]
    refine hk _ _ ⟨v34,v36,O,?_,hs.cast ?_⟩<;>simp only [oT,lq,cq,Nat.reduceBEq,q5_,q6_,q7_,q8_,q9_,q10_]
   ·
    rintro D t w hD hp hcl ⟨v34,v36,O,ht,hs⟩ rest hk
    obtain ⟨p4_,_⟩:=hp
    have q6_:=nz hcl 6 1 hD
    have q7_:=nz hcl 7 0 q6_
    have q8_:=nz hcl 8 1 q7_
    have q9_:=nz hcl 9 5 hD
    have q10_:=nz hcl 10 0 q9_
    simp only [hD,p4_,q6_,q7_,q8_,q9_,q10_,cq,oT] at ht hs
    subst ht
    refine Qaa (v:=bool (r32.2.1.toList==(⟨#[121,101,115]⟩:ByteArray).toList)) rfl rfl rfl (g_d rfl ?_)
    try dsimp only [Qai,Qaj]
    refine hk _ _ ⟨v34,v36,O,?_,hs.cast ?_⟩<;>simp only [oT,lq,cq,Nat.reduceBEq,p4_,q6_,q7_,q8_,q9_,q10_]
   ·
    rintro D t w hD hp hcl ⟨v34,v36,O,ht,hs⟩ rest hk
    obtain ⟨p3_,p5_,_⟩:=hp
    obtain ⟨p4_,_⟩:=(hcl.get 5 (by decide)) p5_
    obtain ⟨p2_,_⟩:=(hcl.get 3 (by decide)) p3_
    have q7_:=nz hcl 7 0 hD
    have q8_:=nz hcl 8 1 q7_
    have q9_:=nz hcl 9 6 hD
    have q10_:=nz hcl 10 0 q9_
    simp only [hD,p2_,p3_,p4_,p5_,q7_,q8_,q9_,q10_,cq,oT] at ht hs
    subst ht
    refine Qaa (v:=agg (QaC (⟨r33,r32.2.1.toList==(⟨#[121,101,115]⟩:ByteArray).toList⟩:Qav)).toArray) rfl rfl (QbB (cs:=(QaC (⟨r33,r32.2.1.toList==(⟨#[121,101,115]⟩:ByteArray).toList⟩:Qav))) (segs:=[[int .u64 0],[bool false]]) rfl rfl (fun _=>rfl) ⟨rfl,(fun _=>rfl),rfl,(fun _=>rfl),trivial⟩ (by simp only [List.map_cons,List.map_nil,List.forall_mem_cons,List.not_mem_nil,false_implies,implies_true,and_true];exact ⟨⟨_,rfl,rfl⟩,⟨_,rfl,rfl⟩⟩) (by first|rfl|(simp [ev,QaC];done)|(simp [ev,QaC];rfl))) ?_
    refine g_d rfl ?_
    try dsimp only [Qai,Qaj]
    refine hk _ _ ⟨v34,v36,O,?_,hs.cast ?_⟩<;>simp only [oT,lq,cq,Nat.reduceBEq,p2_,p3_,p4_,p5_,q7_,q8_,q9_,q10_]
   ·
    rintro D t w hD hp hcl ⟨v34,v36,O,ht,hs⟩ rest hk
    obtain ⟨p6_,_⟩:=hp
    obtain ⟨p3_,p5_,_⟩:=(hcl.get 6 (by decide)) p6_
    obtain ⟨p4_,_⟩:=(hcl.get 5 (by decide)) p5_
    obtain ⟨p2_,_⟩:=(hcl.get 3 (by decide)) p3_
    have q8_:=nz hcl 8 1 hD
    have q9_:=nz hcl 9 7 hD
    have q10_:=nz hcl 10 0 q9_
    simp only [hD,p2_,p3_,p4_,p5_,p6_,q8_,q9_,q10_,cq,oT] at ht hs
    subst ht
    refine Qcr QaX (y:=(⟨r33,r32.2.1.toList==(⟨#[121,101,115]⟩:ByteArray).toList⟩:Qav)) hs rfl rfl rfl rfl (fun _=>rfl) (zv:=(agg #[int .u64 0,bool false])) (fun _=>rfl) rfl (by decide) (by decide) rfl ?_
    intro v34 w hs
    refine g_d rfl ?_
    try dsimp only [Qai,Qaj]
    have hs:=hs.fill 0 rfl
    refine hk _ _ ⟨v34,v36,O,?_,hs.cast ?_⟩<;>simp only [oT,lq,cq,Nat.reduceBEq,p2_,p3_,p4_,p5_,p6_,q8_,q9_,q10_]
   ·
    rintro D t w hD hp hcl ⟨v34,v36,O,ht,hs⟩ rest hk
    obtain ⟨p1_,p7_,p3_,_⟩:=hp
    obtain ⟨p6_,_⟩:=(hcl.get 7 (by decide)) p7_
    obtain ⟨_,p5_,_⟩:=(hcl.get 6 (by decide)) p6_
    obtain ⟨p4_,_⟩:=(hcl.get 5 (by decide)) p5_
    obtain ⟨p2_,_⟩:=(hcl.get 3 (by decide)) p3_
    obtain ⟨p0_,_⟩:=(hcl.get 1 (by decide)) p1_
    have q9_:=nz hcl 9 8 hD
    have q10_:=nz hcl 10 0 q9_
    simp only [hD,p0_,p1_,p2_,p3_,p4_,p5_,p6_,p7_,q9_,q10_,cq,oT] at ht hs
    subst ht
    have hs:St _ [_,_,_,_,_] _:=hs.pull 3 rfl
    refine Qci QaX (zv:=(agg #[int .u64 0,bool false])) (B:=16) hs (hs.row 1 rfl) rfl rfl rfl rfl rfl rfl rfl rfl rfl (by decide) rfl rfl (by decide) (by have:=gq8_;omega) ?_
    intro v36 w hs
    refine g_d rfl ?_
    try dsimp only [Qai,Qaj]
    have hs:=hs.push 3 (by simp)
    refine hk _ _ ⟨v34,v36,O,?_,hs.cast ?_⟩<;>simp only [oT,lq,cq,Nat.reduceBEq,p0_,p1_,p2_,p3_,p4_,p5_,p6_,p7_,q9_,q10_]
   ·
    rintro D t w hD hp hcl ⟨v34,v36,O,ht,hs⟩ rest hk
    obtain ⟨p0_,p1_,p2_,p3_,p4_,p5_,p6_,p7_,p8_,_⟩:=hp
    have q10_:=nz hcl 10 0 hD
    simp only [hD,p0_,p1_,p2_,p3_,p4_,p5_,p6_,p7_,p8_,q10_,cq,oT] at ht hs
    subst ht
    refine Qaa (v:=pointer (some ⟨b9,2,none⟩)) rfl rfl rfl (g_d rfl ?_)
    try dsimp only [Qai,Qaj]
    refine hk _ _ ⟨v34,v36,O,?_,hs.cast ?_⟩<;>simp only [oT,lq,cq,Nat.reduceBEq,p0_,p1_,p2_,p3_,p4_,p5_,p6_,p7_,p8_,q10_]
   ·
    rintro D t w hD hp hcl ⟨v34,v36,O,ht,hs⟩ rest hk
    obtain ⟨p9_,p8_,_,p0_,p1_,p2_,p3_,p4_,p5_,p6_,p7_,_,_⟩:=hp
    simp only [hD,p0_,p1_,p2_,p3_,p4_,p5_,p6_,p7_,p8_,p9_,cq,oT] at ht hs
    subst ht
    have hs:St _ [_,_,_,_,_] _:=hs.pull 4 rfl
    refine Qck hs rfl rfl (vs:=[v36]) (cs':=(([int .i8 x25,int .i8 x26,v36]:List Value))) rfl rfl (slCells (hs.row 4 rfl)) (n:=1) (fun _=>rfl) rfl (by first|exact Nat.le_of_ble_eq_true rfl|simp [encAI_len,encAB_len,encA_len]) (by intro v hv;simp only [List.mem_cons,List.not_mem_nil,or_false] at hv;subst hv;exact slOne (hs.row 4 rfl)) rfl ?_
    intro w hs
    refine g_n rfl ?_
    try dsimp only [Qai,Qaj]
    have hs:=hs.push 4 (by simp)
    refine hk _ _ ⟨v34,v36,O,?_,hs.cast ?_⟩<;>simp only [oT,lq,cq,Nat.reduceBEq,p0_,p1_,p2_,p3_,p4_,p5_,p6_,p7_,p8_,p9_]
   intro D t w hall hI
   obtain ⟨v34,v36,O,ht,hs⟩:=hI
   have p0_:=hall 0 (by decide)
   have p1_:=hall 1 (by decide)
   have p2_:=hall 2 (by decide)
   have p3_:=hall 3 (by decide)
   have p4_:=hall 4 (by decide)
   have p5_:=hall 5 (by decide)
   have p6_:=hall 6 (by decide)
   have p7_:=hall 7 (by decide)
   have p8_:=hall 8 (by decide)
   have p9_:=hall 9 (by decide)
   have p10_:=hall 10 (by decide)
   simp only [p0_,p1_,p2_,p3_,p4_,p5_,p6_,p7_,p8_,p9_,p10_,cq,oT] at ht hs
   subst ht
   refine QaH (Qak [0,1,2] rfl ?_)
   refine Qaa (v:=int .i64 x30) rfl rfl rfl (g_d rfl ?_)
   refine Qaa (v:=int .i64 (i64w (x30+1))) rfl rfl rfl (g_d rfl ?_)
   refine Qaa (v:=int .i64 (i64w (x30+1))) rfl rfl rfl (g_d rfl ?_)
   try dsimp only [Qai,Qaj]
   refine Qab ?_
   obtain rfl:=QsJ H
   have hs:=hs.pull 4 rfl
   have hs:=hs.pull 4 rfl
   have hs:=hs.pull 4 rfl
   have hs:=hs.pull 4 rfl
   have hs:St _ [_,_,_,_] _:=St.take (Γ':=[_]) hs
   exact ih1_ _ _ ⟨x25,x26,v36,x29++([(⟨r33,r32.2.1.toList==(⟨#[121,101,115]⟩:ByteArray).toList⟩:Qav)]),i64w (x30+1),Hx1_,rfl,hs⟩
  intro hb
  rw [if_neg (b_dec_f hb)] at H
  refine g_d rfl ?_
  refine Qaa (v:=bool false) rfl rfl rfl (g_d rfl ?_)
  try dsimp only [Qai,Qaj]
  refine Qab (Qap rfl ?_)
  obtain rfl:=QsJ H
  subst Hx1_
  have hs:=hs.pull 2 rfl
  have hs:=hs.pull 3 rfl
  have hs:=hs.pull 2 rfl
  have hs:St _ [_,_,_] _:=St.take (Γ':=[_]) hs
  refine Qbq rfl ?_
  exact ha1_ _ _ ⟨x25,x26,v28,x29,Hr1_,rfl,hs⟩
 intro hb
 rw [if_neg (b_dec_f hb)] at H
 refine g_d rfl ?_
 refine Qaa (v:=bool false) rfl rfl rfl (g_d rfl (Qad rfl rfl (g_d rfl (Qad rfl rfl (g_d rfl ?_)))))
 try dsimp only [Qai,Qaj]
 refine Qaa (v:=bool false) rfl rfl rfl (g_d rfl (Qab (Qap rfl ?_)))
 obtain rfl:=QsJ H
 subst Hx1_
 have hs:=hs.pull 2 rfl
 have hs:=hs.pull 3 rfl
 have hs:=hs.pull 2 rfl
 have hs:St _ [_,_,_] _:=St.take (Γ':=[_]) hs
 refine Qbq rfl ?_
 exact ha1_ _ _ ⟨x25,x26,v28,x29,Hr1_,rfl,hs⟩
def QaI.post (w0:World) (r:Bool) (v:Value) (w:World):Prop:=v=bool r∧St w0 [] w
theorem QaI.calls {N:Nat} {a1:(List Qav)} {a3:(List Qav)} {v2:Value} {v4:Value} {w0:World} {r:Bool} (hr0:RdRow Qao w0 v2 a1) (hr1:RdRow Qao w0 v4 a3) (H:QaI.f N a1 a3=some r):
 Calls Tryz.prog 50 #[v2,v4] w0 fun e w=>∃ v,e= .returned v∧QaI.post w0 r v w:=by
 unfold QaI.f at H
 have hs:St w0 [] w0:=St.refl w0
 refine calls_of_g (n:=24) Tryz.func50 rfl rfl ?_
 show G _ _ _ _ [_,_,_,_,_,_,_,_,_,_,_,_,_,_,_,_,_,_,_,_,_,_,_,_,_,_] _
 refine Qaf (Qak [0] rfl ?_)
 refine Qaa (v:=bool false) rfl rfl rfl ?_
 show G _ _ _ _ [_,_,_,_,_,_,_,_,_,_,_,_,_,_,_,_,_,_,_,_,_,_,_,_,_,_] _
 refine Qab (Qaf (Qaf (Qak [0,1,2,3,4] rfl ?_)))
 refine Qaa (v:=v2) rfl rfl rfl ?_
 refine Qbp (hs.rd hr0) rfl rfl rfl rfl rfl ?_
 refine Qaa (v:=v4) rfl rfl rfl ?_
 refine Qbp (hs.rd hr1) rfl rfl rfl rfl rfl ?_
 refine QaA (B:=(a1.length:Int) !=(a3.length:Int)) rfl rfl rfl ?_ ?_
 ·
  intro hb
  rw [if_neg (b_bne_t hb)] at H
  show G _ _ _ _ [_,_,_,_,_,_,_,_,_,_,_,_,_,_,_,_,_,_,_,_,_,_,_,_,_,_] _
  refine Qab (Qam rfl (Qaf (Qak [0] rfl ?_)))
  refine Qaa (v:=bool false) rfl rfl rfl (Qab ?_)
  obtain rfl:=QsJ H
  refine Qax Tryz.func50 (v:=bool false) (res1 rfl rfl) ?_
  have hs:St _ [] _:=St.take (Γ':=[]) hs
  exact ⟨_,rfl,rfl,hs⟩
 intro hb
 rw [if_pos (b_bne_f hb)] at H
 show G _ _ _ _ [_,_,_,_,_,_,_,_,_,_,_,_,_,_,_,_,_,_,_,_,_,_,_,_,_,_] _
 refine Qab (Qap rfl (QaE (Qaf (Qaf (Qak [0,1,2] rfl ?_)))))
 refine Qaa (v:=v2) rfl rfl rfl ?_
 refine Qbp (hs.rd hr0) rfl rfl rfl rfl rfl ?_
 refine Qaa (v:=int .i64 0) rfl rfl rfl (Qab ?_)
 obtain ⟨o1_,Ho,Hr1_⟩:=bind_get H
 refine QaF (J:=fun t w=>QaI.a0 N=some r∧Fr t (fun O=>([O 0,O 1,O 2,O 3,O 4,O 5,O 6,O 7,O 8,O 9,O 10,O 11,O 12,O 13,O 14,O 15,O 16,O 17,O 18,O 19,O 20,O 21,O 22,O 23,O 24,O 25]:List Value))∧St w0 [] w) ?_ ?_
 ·
  rintro t w ⟨H,hf,hs⟩
  obtain ⟨O,rfl⟩:=hf.open
  show G _ _ _ _ [_,_,_,_,_,_,_,_,_,_,_,_,_,_,_,_,_,_,_,_,_,_,_,_,_,_] _
  unfold QaI.a0 at H
  refine Qaf (Qak [0] rfl ?_)
  refine Qaa (v:=bool true) rfl rfl rfl ?_
  show G _ _ _ _ [_,_,_,_,_,_,_,_,_,_,_,_,_,_,_,_,_,_,_,_,_,_,_,_,_,_] _
  refine Qab ?_
  obtain rfl:=QsJ H
  refine Qax Tryz.func50 (v:=bool true) (res1 rfl rfl) ?_
  have hs:St _ [] _:=St.take (Γ':=[]) hs
  exact ⟨_,rfl,rfl,hs⟩
 intro ha1_
 have hs:St _ [] _:=St.take (Γ':=[]) hs
 refine QaZ (I:=fun n_ t w=>∃ x5:Int,rounds (fun s=>QaI.b0 N a1 a3 s) n_ x5=some o1_∧Fr t (fun O=>([v2,v4,O 2,O 3,O 4,O 5,O 6,O 7,O 8,O 9,O 10,O 11,int .i64 (a1.length:Int),int .i64 x5,O 14,O 15,O 16,O 17,O 18,O 19,O 20,O 21,O 22,O 23,O 24,O 25]:List Value))∧St w0 [] w) N ⟨0,Ho,rfl,hs⟩ ?_ ?_
 ·
  rintro _ _ ⟨x5,h,_⟩
  exact rounds_zero h
 intro n_ ih1_
 rintro t w ⟨x5,Ho,hf,hs⟩
 obtain ⟨O,rfl⟩:=hf.open
 show G _ _ _ _ [_,_,_,_,_,_,_,_,_,_,_,_,_,_,_,_,_,_,_,_,_,_,_,_,_,_] _
 obtain ⟨x7_,H,Hx1_⟩:=rounds_succ Ho
 have H:QaI.b0 N a1 a3 x5=some x7_:=H
 unfold QaI.b0 at H
 refine Qaf (Qak [0] rfl ?_)
 refine QaA (B:=decide (x5< (a1.length:Int))) rfl rfl rfl ?_ ?_
 ·
  intro hb
  rw [if_pos (b_dec_t hb)] at H
  show G _ _ _ _ [_,_,_,_,_,_,_,_,_,_,_,_,_,_,_,_,_,_,_,_,_,_,_,_,_,_] _
  refine Qab (Qaf (Qam rfl (QaE (Qaf ?_))))
  refine Qbz (Qaf (Qak [0,1] rfl ?_))
  refine Qaa (v:=int .i64 x5) rfl rfl rfl ?_
  refine Qaa (v:=int .i64 x5) rfl rfl rfl (Qab (Qaf ?_))
  refine Qcj (n:=9) rfl [0,1,2,3,4,5,6,7,8] [0,1,2,3,4,5,6,7,8] rfl rfl ?_
  intro rest w hh hbw hO
  have hs:=hs.samew hh hbw
  show G _ _ _ _ [_,_,_,_,_,_,_,_,_,_,_,_,_,_,_,_,_,_,_,_,_,_,_,_,_,_] _
  obtain ⟨gd2,H⟩:=ite_get H
  obtain ⟨ad3_,ad3_N,ad3_C,had3_⟩:=sl_at (hs.rd hr0) gd2.1 gd2.2
  obtain ⟨gd4,H⟩:=ite_get H
  obtain ⟨ad5_,ad5_N,ad5_C,had5_⟩:=sl_at (hs.rd hr1) gd4.1 gd4.2
  refine Qbu ?_
  intro T hT
  refine QbV (m0:=0) hO rfl 255 [0,1,2,3,4,5,6,7] [0,0,3,7,0,0,48,112,255] (by decide+kernel) (fun D t w=>∃ O:Nat→Value,t=[v2,v4,O 2,O 3,O 4,int .i64 x5,O 6,O 7,O 8,O 9,O 10,O 11,int .i64 (a1.length:Int),int .i64 x5,bool true,int .i64 x5,cnd (D 0) v2 (O 16),cnd (D 1) (int .i64 x5) (O 17),cnd (D 2) (pointer (some (ad3_.add (x5.toNat*2)))) (O 18),cnd (D 3) (agg (QaC (rdL a1 x5 Qau)).toArray) (O 19),cnd (D 4) v4 (O 20),cnd (D 5) (int .i64 x5) (O 21),cnd (D 6) (pointer (some (ad5_.add (x5.toNat*2)))) (O 22),cnd (D 7) (agg (QaC (rdL a3 x5 Qau)).toArray) (O 23),O 24,O 25]∧St w0 [] w) ?_ ⟨?_,⟨?_,⟨?_,⟨?_,⟨?_,⟨?_,⟨?_,⟨?_,trivial⟩⟩⟩⟩⟩⟩⟩⟩ ?_
  ·exact ⟨fun i=>T.getD i undef,(by subst hT;rfl),hs⟩
  ·
   rintro D t w hD hp hcl ⟨O,ht,hs⟩ rest hk
   have hp:AllDone D []:=hp
   have q2_:=ny hcl 2 0 hD
   have q3_:=ny hcl 3 0 q2_
   simp only [hD,q2_,q3_,cq,oT] at ht hs
   subst ht
   refine Qaa (v:=v2) rfl rfl rfl ?_
   show G _ _ _ _ [_,_,_,_,_,_,_,_,_,_,_,_,_,_,_,_,_,_,_,_,_,_,_,_,_,_] _
   refine hk _ _ ⟨O,?_,hs.cast ?_⟩<;>simp only [oT,lq,cq,Nat.reduceBEq,q2_,q3_]
  ·
   rintro D t w hD hp hcl ⟨O,ht,hs⟩ rest hk
   have hp:AllDone D []:=hp
   have q2_:=ny hcl 2 1 hD
   have q3_:=ny hcl 3 0 q2_
   simp only [hD,q2_,q3_,cq,oT] at ht hs
   subst ht
   refine Qaa (v:=int .i64 x5) rfl rfl rfl ?_
   show G _ _ _ _ [_,_,_,_,_,_,_,_,_,_,_,_,_,_,_,_,_,_,_,_,_,_,_,_,_,_] _
   refine hk _ _ ⟨O,?_,hs.cast ?_⟩<;>simp only [oT,lq,cq,Nat.reduceBEq,q2_,q3_]
  ·
   rintro D t w hD hp hcl ⟨O,ht,hs⟩ rest hk
   have hp:AllDone D [0,1]:=hp
   obtain ⟨p0_,p1_,_⟩:=hp
   have q3_:=ny hcl 3 0 hD
   simp only [hD,p0_,p1_,q3_,cq,oT] at ht hs
   subst ht
   refine Qcn (κ:=Qao) (m:=2) rfl (hs.rd hr0) rfl (fun _=>rfl) gd2.1 gd2.2 had3_ rfl rfl rfl rfl rfl ?_
   show G _ _ _ _ [_,_,_,_,_,_,_,_,_,_,_,_,_,_,_,_,_,_,_,_,_,_,_,_,_,_] _
   refine hk _ _ ⟨O,?_,hs.cast ?_⟩<;>simp only [oT,lq,cq,Nat.reduceBEq,p0_,p1_,q3_]
  ·
   rintro D t w hD hp hcl ⟨O,ht,hs⟩ rest hk
   have hp:AllDone D [2]:=hp
   obtain ⟨p2_,_⟩:=hp
   obtain ⟨p0_,p1_,_⟩:=(show D 2=true→AllDone D [0,1] from hcl 2 (by decide)) p2_
   simp only [hD,p0_,p1_,p2_,cq,oT] at ht hs
   subst ht
   refine QaG rfl rfl (es:=(QaC (rdL a1 x5 Qau))) rfl rfl (fun _=>rfl) (n:=2) (fun _=>rfl) (QaX.len _) (cellsAt_of QaX Qau (hs.rd hr0) had3_ gd2.1 gd2.2) ?_
   show G _ _ _ _ [_,_,_,_,_,_,_,_,_,_,_,_,_,_,_,_,_,_,_,_,_,_,_,_,_,_] _
   refine hk _ _ ⟨O,?_,hs.cast ?_⟩<;>simp only [oT,lq,cq,Nat.reduceBEq,p0_,p1_,p2_]
  ·
   rintro D t w hD hp hcl ⟨O,ht,hs⟩ rest hk
   have hp:AllDone D []:=hp
   have q6_:=ny hcl 6 0 hD
   have q7_:=ny hcl 7 0 q6_
   simp only [hD,q6_,q7_,cq,oT] at ht hs
   subst ht
   refine Qaa (v:=v4) rfl rfl rfl ?_
   show G _ _ _ _ [_,_,_,_,_,_,_,_,_,_,_,_,_,_,_,_,_,_,_,_,_,_,_,_,_,_] _
   refine hk _ _ ⟨O,?_,hs.cast ?_⟩<;>simp only [oT,lq,cq,Nat.reduceBEq,q6_,q7_]
  ·
   rintro D t w hD hp hcl ⟨O,ht,hs⟩ rest hk
   have hp:AllDone D []:=hp
   have q6_:=ny hcl 6 1 hD
   have q7_:=ny hcl 7 0 q6_
   simp only [hD,q6_,q7_,cq,oT] at ht hs
   subst ht
   refine Qaa (v:=int .i64 x5) rfl rfl rfl ?_
   show G _ _ _ _ [_,_,_,_,_,_,_,_,_,_,_,_,_,_,_,_,_,_,_,_,_,_,_,_,_,_] _
   refine hk _ _ ⟨O,?_,hs.cast ?_⟩<;>simp only [oT,lq,cq,Nat.reduceBEq,q6_,q7_]
  ·
   rintro D t w hD hp hcl ⟨O,ht,hs⟩ rest hk
   have hp:AllDone D [4,5]:=hp
   obtain ⟨p4_,p5_,_⟩:=hp
   have q7_:=ny hcl 7 0 hD
   simp only [hD,p4_,p5_,q7_,cq,oT] at ht hs
   subst ht
   refine Qcn (κ:=Qao) (m:=2) rfl (hs.rd hr1) rfl (fun _=>rfl) gd4.1 gd4.2 had5_ rfl rfl rfl rfl rfl ?_
   show G _ _ _ _ [_,_,_,_,_,_,_,_,_,_,_,_,_,_,_,_,_,_,_,_,_,_,_,_,_,_] _
   refine hk _ _ ⟨O,?_,hs.cast ?_⟩<;>simp only [oT,lq,cq,Nat.reduceBEq,p4_,p5_,q7_]
  ·
   rintro D t w hD hp hcl ⟨O,ht,hs⟩ rest hk
   have hp:AllDone D [6]:=hp
   obtain ⟨p6_,_⟩:=hp
   obtain ⟨p4_,p5_,_⟩:=(show D 6=true→AllDone D [4,5] from hcl 6 (by decide)) p6_
   simp only [hD,p4_,p5_,p6_,cq,oT] at ht hs
   subst ht
   refine QaG rfl rfl (es:=(QaC (rdL a3 x5 Qau))) rfl rfl (fun _=>rfl) (n:=2) (fun _=>rfl) (QaX.len _) (cellsAt_of QaX Qau (hs.rd hr1) had5_ gd4.1 gd4.2) ?_
   show G _ _ _ _ [_,_,_,_,_,_,_,_,_,_,_,_,_,_,_,_,_,_,_,_,_,_,_,_,_,_] _
   refine hk _ _ ⟨O,?_,hs.cast ?_⟩<;>simp only [oT,lq,cq,Nat.reduceBEq,p4_,p5_,p6_]
  intro D t w rest hall hO1_ hI
  obtain ⟨O,ht,hs⟩:=hI
  have p0_:=hall 0 (by decide) rfl
  have p1_:=hall 1 (by decide) rfl
  have p2_:=hall 2 (by decide) rfl
  have p3_:=hall 3 (by decide) rfl
  have p4_:=hall 4 (by decide) rfl
  have p5_:=hall 5 (by decide) rfl
  have p6_:=hall 6 (by decide) rfl
  have p7_:=hall 7 (by decide) rfl
  simp only [p0_,p1_,p2_,p3_,p4_,p5_,p6_,p7_,cq,oT] at ht hs
  subst ht
  obtain ⟨rest,rfl,hO6_⟩:=ord_one (m:=255) hO1_ rfl 8 (m':=511) (by decide+kernel) rfl
  clear hO1_
  refine QaA (B:=!decide ((rdL a1 x5 Qau)=(rdL a3 x5 Qau))) rfl rfl (QcH rfl rfl rfl Qcu (Qcy _ _ _)) ?_ ?_
  ·
   intro hb
   rw [if_neg (b_ndec_t hb)] at H
   obtain rfl:=ord_end hO6_ rfl (by decide+kernel)
   refine Qab (Qam rfl (Qaf (Qak [0] rfl ?_)))
   refine Qaa (v:=bool false) rfl rfl rfl (Qab ?_)
   obtain rfl:=QsJ H
   subst Hx1_
   have H:=QsJ Hr1_
   subst H
   refine Qax Tryz.func50 (v:=bool false) (res1 rfl rfl) ?_
   have hs:St _ [] _:=St.take (Γ':=[]) hs
   exact ⟨_,rfl,rfl,hs⟩
  intro hb
  rw [if_pos (b_ndec_f hb)] at H
  obtain rfl:=ord_end hO6_ rfl (by decide+kernel)
  refine Qab (Qap rfl (QaE ?_))
  refine QaH (Qak [0,1] rfl ?_)
  refine Qaa (v:=int .i64 (i64w (x5+1))) rfl rfl rfl ?_
  show G _ _ _ _ [_,_,_,_,_,_,_,_,_,_,_,_,_,_,_,_,_,_,_,_,_,_,_,_,_,_] _
  refine Qaa (v:=int .i64 (i64w (x5+1))) rfl rfl rfl (Qab ?_)
  obtain rfl:=QsJ H
  have hs:St _ [] _:=St.take (Γ':=[]) hs
  exact ih1_ _ _ ⟨i64w (x5+1),Hx1_,rfl,hs⟩
 intro hb
 rw [if_neg (b_dec_f hb)] at H
 refine Qab (Qaf (Qap rfl ?_))
 obtain rfl:=QsJ H
 subst Hx1_
 have hs:St _ [] _:=St.take (Γ':=[]) hs
 refine Qbq rfl ?_
 exact ha1_ _ _ ⟨Hr1_,rfl,hs⟩
def Qb5.post (w0:World) (r:Bool) (v:Value) (w:World):Prop:=v=bool r∧St w0 [] w
theorem Qb5.calls {N:Nat} {a1:Qag} {a4:Qag} {v2:Value} {v5:Value} {w0:World} {r:Bool} (hr3:RdRow Qao w0 v2 a1.Qah) (hr6:RdRow Qao w0 v5 a4.Qah) (H:Qb5.f N a1 a4=some r):
 Calls Tryz.prog 13 #[agg (([int .i8 a1.Qac,int .i8 a1.Qae,v2]:List Value)).toArray,agg (([int .i8 a4.Qac,int .i8 a4.Qae,v5]:List Value)).toArray] w0 fun e w=>∃ v,e= .returned v∧Qb5.post w0 r v w:=by
 unfold Qb5.f at H
 have hs:St w0 [] w0:=St.refl w0
 refine calls_of_g (n:=22) Tryz.func13 rfl rfl ?_
 show G _ _ _ _ [_,_,_,_,_,_,_,_,_,_,_,_,_,_,_,_,_,_,_,_,_,_,_,_] _
 refine Qaf (Qak [0,1,2] rfl ?_)
 refine Qbx hs rfl rfl (cs:=(([int .i8 a1.Qac,int .i8 a1.Qae,v2]:List Value))) rfl rfl ?_
 intro b7 w hs
 show G _ _ _ _ [_,_,_,_,_,_,_,_,_,_,_,_,_,_,_,_,_,_,_,_,_,_,_,_] _
 refine Qbx hs rfl rfl (cs:=(([int .i8 a4.Qac,int .i8 a4.Qae,v5]:List Value))) rfl rfl ?_
 intro b9 w hs
 refine Qaa (v:=bool false) rfl rfl rfl (Qab (Qaf (Qak [0,1,2,3,4,5,6,7,8,9,10,11,12,13,14,15,16,17,18,19] rfl ?_)))
 refine Qaa (v:=pointer (some ⟨b7,0,none⟩)) rfl rfl rfl ?_
 show G _ _ _ _ [_,_,_,_,_,_,_,_,_,_,_,_,_,_,_,_,_,_,_,_,_,_,_,_] _
 refine Qaw rfl rfl (v:=int .i8 a1.Qac) rfl rfl (fun _=>rfl) (cells_load (hs.cells 1 rfl) 0 1 rfl) ?_
 refine Qaa (v:=pointer (some ⟨b9,0,none⟩)) rfl rfl rfl ?_
 refine Qaw rfl rfl (v:=int .i8 a4.Qac) rfl rfl (fun _=>rfl) (cells_load (hs.cells 0 rfl) 0 1 rfl) ?_
 show G _ _ _ _ [_,_,_,_,_,_,_,_,_,_,_,_,_,_,_,_,_,_,_,_,_,_,_,_] _
 refine QaA (B:=a1.Qac==a4.Qac) rfl rfl rfl ?_ ?_
 ·
  intro hb
  rw [if_pos (b_beq_t hb)] at H
  refine Qaa (v:=bool true) rfl rfl rfl ?_
  show G _ _ _ _ [_,_,_,_,_,_,_,_,_,_,_,_,_,_,_,_,_,_,_,_,_,_,_,_] _
  refine Qaa (v:=pointer (some ⟨b7,1,none⟩)) rfl rfl rfl ?_
  refine Qaw rfl rfl (v:=int .i8 a1.Qae) rfl rfl (fun _=>rfl) (cells_load (hs.cells 1 rfl) 1 1 rfl) ?_
  refine Qaa (v:=pointer (some ⟨b9,1,none⟩)) rfl rfl rfl ?_
  show G _ _ _ _ [_,_,_,_,_,_,_,_,_,_,_,_,_,_,_,_,_,_,_,_,_,_,_,_] _
  refine Qaw rfl rfl (v:=int .i8 a4.Qae) rfl rfl (fun _=>rfl) (cells_load (hs.cells 0 rfl) 1 1 rfl) ?_
  refine Qaa (v:=bool (a1.Qae==a4.Qae)) rfl rfl rfl ?_
  refine QaA (B:=a1.Qae==a4.Qae) rfl rfl rfl ?_ ?_
  ·
   intro hb
   rw [if_pos (b_beq_t hb)] at H
   show G _ _ _ _ [_,_,_,_,_,_,_,_,_,_,_,_,_,_,_,_,_,_,_,_,_,_,_,_] _
   refine Qaa (v:=bool true) rfl rfl rfl ?_
   refine Qaa (v:=pointer (some ⟨b7,2,none⟩)) rfl rfl rfl ?_
   refine Qaw rfl rfl (v:=v2) rfl rfl (fun _=>rfl) (cells_load (hs.cells 1 rfl) 2 1 rfl) ?_
   show G _ _ _ _ [_,_,_,_,_,_,_,_,_,_,_,_,_,_,_,_,_,_,_,_,_,_,_,_] _
   refine Qaa (v:=pointer (some ⟨b9,2,none⟩)) rfl rfl rfl ?_
   refine Qaw rfl rfl (v:=v5) rfl rfl (fun _=>rfl) (cells_load (hs.cells 0 rfl) 2 1 rfl) ?_
   obtain ⟨r11,Hr11,H⟩:=bind_get H
   refine Qas (args:=[v2,v5]) rfl rfl (Qat rfl (callFunc_enter Tryz.func50 rfl rfl) rfl) (QaI.calls (a1:=a1.Qah) (a3:=a4.Qah) (hs.rd hr3) (hs.rd hr6) Hr11) ?_
   rintro _ w ⟨rfl,hs2⟩
   have hs:St _ [_,_] _:=hs.call hs2
   show G _ _ _ _ [_,_,_,_,_,_,_,_,_,_,_,_,_,_,_,_,_,_,_,_,_,_,_,_] _
   refine Qaa (v:=bool r11) rfl rfl rfl ?_
   refine Qaa (v:=bool r11) rfl rfl rfl (Qab ?_)
   obtain rfl:=QsJ H
   refine Qax Tryz.func13 (v:=bool r11) (res1 rfl rfl) ?_
   have hs:St _ [] _:=St.take (Γ':=[_,_]) hs
   exact ⟨_,rfl,rfl,hs⟩
  intro hb
  rw [if_neg (b_beq_f hb)] at H
  show G _ _ _ _ [_,_,_,_,_,_,_,_,_,_,_,_,_,_,_,_,_,_,_,_,_,_,_,_] _
  refine Qaa (v:=bool false) rfl rfl rfl (Qad rfl rfl (Qad rfl rfl ?_))
  show G _ _ _ _ [_,_,_,_,_,_,_,_,_,_,_,_,_,_,_,_,_,_,_,_,_,_,_,_] _
  refine Qad rfl rfl (Qad rfl rfl (Qad rfl rfl ?_))
  show G _ _ _ _ [_,_,_,_,_,_,_,_,_,_,_,_,_,_,_,_,_,_,_,_,_,_,_,_] _
  refine Qaa (v:=bool false) rfl rfl rfl ?_
  refine Qaa (v:=bool false) rfl rfl rfl (Qab ?_)
  obtain rfl:=QsJ H
  refine Qax Tryz.func13 (v:=bool false) (res1 rfl rfl) ?_
  have hs:St _ [] _:=St.take (Γ':=[_,_]) hs
  exact ⟨_,rfl,rfl,hs⟩
 intro hb
 rw [if_neg (b_beq_f hb)] at H
 refine Qaa (v:=bool false) rfl rfl rfl (Qad rfl rfl ?_)
 show G _ _ _ _ [_,_,_,_,_,_,_,_,_,_,_,_,_,_,_,_,_,_,_,_,_,_,_,_] _
 refine Qad rfl rfl (Qad rfl rfl (Qad rfl rfl ?_))
 show G _ _ _ _ [_,_,_,_,_,_,_,_,_,_,_,_,_,_,_,_,_,_,_,_,_,_,_,_] _
 refine Qad rfl rfl ?_
 refine Qaa (v:=bool false) rfl rfl rfl ?_
 refine Qaa (v:=bool false) rfl rfl rfl ?_
 show G _ _ _ _ [_,_,_,_,_,_,_,_,_,_,_,_,_,_,_,_,_,_,_,_,_,_,_,_] _
 refine Qad rfl rfl (Qad rfl rfl (Qad rfl rfl ?_))
 show G _ _ _ _ [_,_,_,_,_,_,_,_,_,_,_,_,_,_,_,_,_,_,_,_,_,_,_,_] _
 refine Qad rfl rfl (Qad rfl rfl ?_)
 refine Qaa (v:=bool false) rfl rfl rfl ?_
 show G _ _ _ _ [_,_,_,_,_,_,_,_,_,_,_,_,_,_,_,_,_,_,_,_,_,_,_,_] _
 refine Qaa (v:=bool false) rfl rfl rfl (Qab ?_)
 obtain rfl:=QsJ H
 refine Qax Tryz.func13 (v:=bool false) (res1 rfl rfl) ?_
 have hs:St _ [] _:=St.take (Γ':=[_,_]) hs
 exact ⟨_,rfl,rfl,hs⟩
def Qbw.post (w0:World) (r:Int) (v:Value) (w:World):Prop:=v=int .i64 r∧St w0 [] w
theorem Qbw.calls {N:Nat} {a1:(List Qav)} {v2:Value} {w0:World} {r:Int} (hr0:RdRow Qao w0 v2 a1) (H:Qbw.f N a1=some r):
 Calls Tryz.prog 54 #[v2] w0 fun e w=>∃ v,e= .returned v∧Qbw.post w0 r v w:=by
 unfold Qbw.f at H
 have hs:St w0 [] w0:=St.refl w0
 refine calls_of_g (n:=4) Tryz.func54 rfl rfl ?_
 show G _ _ _ _ [_,_,_,_,_] _
 refine Qaf (Qak [0] rfl ?_)
 refine Qaa (v:=int .i64 0) rfl rfl rfl (Qab (Qaf (Qak [0,1,2] rfl ?_)))
 refine Qaa (v:=v2) rfl rfl rfl ?_
 refine Qbp (hs.rd hr0) rfl rfl rfl rfl rfl ?_
 show G _ _ _ _ [_,_,_,_,_] _
 refine Qaa (v:=int .i64 (a1.length:Int)) rfl rfl rfl (Qab ?_)
 obtain rfl:=QsJ H
 refine Qax Tryz.func54 (v:=int .i64 (a1.length:Int)) (res1 rfl rfl) ?_
 have hs:St _ [] _:=St.take (Γ':=[]) hs
 exact ⟨_,rfl,rfl,hs⟩
def QaW.post (w0:World) (r:(Int×Int×Int)) (v:Value) (w:World):Prop:=v=tuple #[int .i64 r.1,int .i64 r.2.1,int .i64 r.2.2]∧St w0 [] w
theorem QaW.calls {N:Nat} {a1:Int} {a2:Int} {w0:World} {r:(Int×Int×Int)} (H:QaW.f N a1 a2=some r):
 Calls Tryz.prog 15 #[int .i64 a1,int .i64 a2] w0 fun e w=>∃ v,e= .returned v∧QaW.post w0 r v w:=by
 unfold QaW.f at H
 have hs:St w0 [] w0:=St.refl w0
 refine calls_of_g (n:=42) Tryz.func15 rfl rfl ?_
 show G _ _ _ _ [_,_,_,_,_,_,_,_,_,_,_,_,_,_,_,_,_,_,_,_,_,_,_,_,_,_,_,_,_,_,_,_,_,_,_,_,_,_,_,_,_,_,_,_] _
 refine Qaf (Qak [0,1,2] rfl ?_)
 refine Qaa (v:=int .i64 0) rfl rfl rfl ?_
 refine Qaa (v:=int .i64 0) rfl rfl rfl ?_
 refine Qaa (v:=int .i64 0) rfl rfl rfl ?_
 show G _ _ _ _ [_,_,_,_,_,_,_,_,_,_,_,_,_,_,_,_,_,_,_,_,_,_,_,_,_,_,_,_,_,_,_,_,_,_,_,_,_,_,_,_,_,_,_,_] _
 refine Qab (Qaf (Qaf (Qak [0,1,2,3] rfl ?_)))
 refine Qaa (v:=int .i64 a1) rfl rfl rfl ?_
 refine Qaa (v:=int .i64 a2) rfl rfl rfl ?_
 obtain ⟨r3,Hr3,H⟩:=bind_get H
 refine Qas (args:=[int .i64 a1,int .i64 a2]) rfl rfl (Qat rfl (callFunc_enter Tryz.func34 rfl rfl) rfl) (QbQ.calls (a1:=a1) (a2:=a2) Hr3) ?_
 rintro _ w ⟨rfl,hs2⟩
 have hs:St _ [] _:=hs.call hs2
 cases r3 with
 |true=>
  rw [if_pos rfl] at H
  show G _ _ _ _ [_,_,_,_,_,_,_,_,_,_,_,_,_,_,_,_,_,_,_,_,_,_,_,_,_,_,_,_,_,_,_,_,_,_,_,_,_,_,_,_,_,_,_,_] _
  refine Qaa (v:=bool false) rfl rfl rfl (Qab (Qap rfl (QaE (Qaf (Qak [0,1] rfl ?_)))))
  refine Qaa (v:=int .i64 0) rfl rfl rfl ?_
  refine Qaa (v:=int .i64 (-1)) rfl rfl rfl ?_
  show G _ _ _ _ [_,_,_,_,_,_,_,_,_,_,_,_,_,_,_,_,_,_,_,_,_,_,_,_,_,_,_,_,_,_,_,_,_,_,_,_,_,_,_,_,_,_,_,_] _
  refine Qab (Qaf (Qaf (Qak [0,1] rfl ?_)))
  refine Qaa (v:=int .i64 a1) rfl rfl rfl ?_
  refine Qaa (v:=int .i64 0) rfl rfl rfl (Qab ?_)
  obtain ⟨o1_,Ho,Hr1_⟩:=bind_get H
  refine QaF (J:=fun t w=>∃ x16:Int,∃ x17:Int,QaW.a0 N x16 x17=some r∧Fr t (fun O=>([O 0,O 1,O 2,O 3,O 4,O 5,O 6,int .i64 x16,int .i64 x17,O 9,O 10,O 11,O 12,O 13,O 14,O 15,O 16,O 17,O 18,O 19,O 20,O 21,O 22,O 23,O 24,O 25,O 26,O 27,O 28,O 29,O 30,O 31,O 32,O 33,O 34,O 35,O 36,O 37,O 38,O 39,O 40,O 41,O 42,O 43]:List Value))∧St w0 [] w) ?_ ?_
  ·
   rintro t w ⟨x16,x17,H,hf,hs⟩
   obtain ⟨O,rfl⟩:=hf.open
   show G _ _ _ _ [_,_,_,_,_,_,_,_,_,_,_,_,_,_,_,_,_,_,_,_,_,_,_,_,_,_,_,_,_,_,_,_,_,_,_,_,_,_,_,_,_,_,_,_] _
   unfold QaW.a0 at H
   refine Qaf (Qak [0,1,2,3,4] rfl ?_)
   refine Qaa (v:=int .i64 x16) rfl rfl rfl ?_
   refine Qaa (v:=int .i64 x17) rfl rfl rfl ?_
   refine Qaa (v:=int .i64 x16) rfl rfl rfl ?_
   refine Qaa (v:=int .i64 x17) rfl rfl rfl ?_
   show G _ _ _ _ [_,_,_,_,_,_,_,_,_,_,_,_,_,_,_,_,_,_,_,_,_,_,_,_,_,_,_,_,_,_,_,_,_,_,_,_,_,_,_,_,_,_,_,_] _
   refine Qaa (v:=int .i64 0) rfl rfl rfl (Qab ?_)
   obtain rfl:=QsJ H
   refine Qax Tryz.func15 (v:=tuple #[int .i64 x16,int .i64 x17,int .i64 0]) (resN (l:=Tryz.f15.results.toList) (vs:=[int .i64 x16,int .i64 x17,int .i64 0]) rfl ⟨rfl,rfl,rfl,trivial⟩ (by simp)) ?_
   have hs:St _ [] _:=St.take (Γ':=[]) hs
   exact ⟨_,rfl,rfl,hs⟩
  intro ha1_
  have hs:St _ [] _:=St.take (Γ':=[]) hs
  refine QaZ (I:=fun n_ t w=>∃ x4:Int,∃ x5:Int,∃ x6:Int,rounds (fun s=>QaW.b0 N a1 a2 s.1 s.2.1 s.2.2) n_ (x4,x5,x6)=some o1_∧Fr t (fun O=>([int .i64 a1,int .i64 a2,O 2,O 3,O 4,O 5,O 6,int .i64 x4,int .i64 x5,O 9,O 10,O 11,O 12,O 13,O 14,O 15,O 16,int .i64 a1,int .i64 x6,O 19,O 20,O 21,O 22,O 23,O 24,O 25,O 26,O 27,O 28,O 29,O 30,O 31,O 32,O 33,O 34,O 35,O 36,O 37,O 38,O 39,O 40,O 41,O 42,O 43]:List Value))∧St w0 [] w) N ⟨0,(-1),0,Ho,rfl,hs⟩ ?_ ?_
  ·
   rintro _ _ ⟨x4,x5,x6,h,_⟩
   exact rounds_zero h
  intro n_ ih1_
  rintro t w ⟨x4,x5,x6,Ho,hf,hs⟩
  obtain ⟨O,rfl⟩:=hf.open
  show G _ _ _ _ [_,_,_,_,_,_,_,_,_,_,_,_,_,_,_,_,_,_,_,_,_,_,_,_,_,_,_,_,_,_,_,_,_,_,_,_,_,_,_,_,_,_,_,_] _
  obtain ⟨x1_,H,Hx1_⟩:=rounds_succ Ho
  have H:QaW.b0 N a1 a2 x4 x5 x6=some x1_:=H
  unfold QaW.b0 at H
  refine Qaf (Qak [0] rfl ?_)
  refine QaA (B:=decide (x6< a1)) rfl rfl rfl ?_ ?_
  ·
   intro hb
   rw [if_pos (b_dec_t hb)] at H
   refine Qab (Qaf (Qam rfl (QaE (Qaf ?_))))
   refine QaF (J:=(fun t w=>∃ x14:Int,∃ x15:Int,QaW.j2 N x6 x14 x15=some x1_∧Fr t (fun O=>([int .i64 a1,int .i64 a2,O 2,O 3,O 4,O 5,O 6,int .i64 x14,int .i64 x15,O 9,O 10,O 11,O 12,O 13,O 14,O 15,O 16,int .i64 a1,int .i64 x6,O 19,O 20,O 21,O 22,O 23,O 24,O 25,O 26,O 27,O 28,O 29,O 30,O 31,O 32,O 33,O 34,O 35,O 36,O 37,O 38,O 39,O 40,O 41,O 42,O 43]:List Value))∧St w0 [] w)) ?_ ?_
   ·
    rintro t w ⟨x14,x15,H,hf,hs⟩
    obtain ⟨O,rfl⟩:=hf.open
    show G _ _ _ _ [_,_,_,_,_,_,_,_,_,_,_,_,_,_,_,_,_,_,_,_,_,_,_,_,_,_,_,_,_,_,_,_,_,_,_,_,_,_,_,_,_,_,_,_] _
    unfold QaW.j2 at H
    refine Qak [0,1] rfl ?_
    refine Qaa (v:=int .i64 (i64w (x6+1))) rfl rfl rfl ?_
    refine Qaa (v:=int .i64 (i64w (x6+1))) rfl rfl rfl (Qab ?_)
    obtain rfl:=QsJ H
    have hs:St _ [] _:=St.take (Γ':=[]) hs
    exact ih1_ _ _ ⟨x14,x15,i64w (x6+1),Hx1_,rfl,hs⟩
   intro ha
   refine Qaf (Qak [0,1] rfl ?_)
   refine Qaa (v:=int .i64 x6) rfl rfl rfl ?_
   refine Qaa (v:=int .i64 x6) rfl rfl rfl ?_
   show G _ _ _ _ [_,_,_,_,_,_,_,_,_,_,_,_,_,_,_,_,_,_,_,_,_,_,_,_,_,_,_,_,_,_,_,_,_,_,_,_,_,_,_,_,_,_,_,_] _
   refine Qab (Qaf (Qak [0,1,2,3,4,5,6,7,8,9,10,11] rfl ?_))
   refine Qaa (v:=int .i64 a1) rfl rfl rfl ?_
   refine Qaa (v:=int .i64 a2) rfl rfl rfl ?_
   refine Qaa (v:=int .i64 x6) rfl rfl rfl ?_
   obtain ⟨r7,Hr7,H⟩:=bind_get H
   refine Qas (args:=[int .i64 a1,int .i64 a2,int .i64 x6,slice none 0 0]) rfl rfl (Qat rfl (callFunc_enter Tryz.func7 rfl rfl) rfl) (QaP.calls (a1:=a1) (a2:=a2) (a3:=x6) (a4:=[]) (rdNil K.bool) Hr7) ?_
   rintro _ w ⟨v8,rfl,hs2⟩
   have hs:St _ [_] _:=hs.call hs2
   refine Qaa (v:=tuple #[agg (([int .i8 r7.1.Qac,int .i8 r7.1.Qae,v8]:List Value)).toArray,int .i64 r7.2.1,int .i64 r7.2.2]) rfl rfl rfl ?_
   refine Qaa (v:=agg (([int .i8 r7.1.Qac,int .i8 r7.1.Qae,v8]:List Value)).toArray) rfl rfl rfl ?_
   refine Qaa (v:=int .i64 r7.2.1) rfl rfl rfl ?_
   refine Qaa (v:=int .i64 r7.2.2) rfl rfl rfl ?_
   refine Qa5 hs rfl rfl (z:=(agg #[int .i8 0,int .i8 0,slice none 0 0])) (cs:=(([int .i8 0,int .i8 0,slice none 0 0]:List Value))) rfl (fun _=>rfl) rfl ?_
   intro b10 w hs
   refine QaB (n:=3) hs rfl rfl rfl (vs:=(([int .i8 r7.1.Qac,int .i8 r7.1.Qae,v8]:List Value))) rfl rfl rfl (fun _=>rfl) rfl (by intro v hv;simp only [List.mem_append,List.mem_cons,List.not_mem_nil,or_false] at hv;repeat (first|(subst hv;first|rfl|exact slOne (hs.row 1 rfl))|(rcases hv with hv|hv))) ?_
   intro w hs
   refine Qaa (v:=int .i64 r7.2.1) rfl rfl rfl ?_
   show G _ _ _ _ [_,_,_,_,_,_,_,_,_,_,_,_,_,_,_,_,_,_,_,_,_,_,_,_,_,_,_,_,_,_,_,_,_,_,_,_,_,_,_,_,_,_,_,_] _
   refine Qaa (v:=int .i64 r7.2.2) rfl rfl rfl (Qab (Qaf (Qaf (Qak [0,1] rfl ?_))))
   refine Qaa (v:=int .i64 r7.2.2) rfl rfl rfl ?_
   refine QaA (B:=r7.2.2 !=0) rfl rfl rfl ?_ ?_
   ·
    intro hb
    rw [if_neg (b_bne_t hb)] at H
    refine Qab (Qam rfl (Qaf (Qak [0,1,2,3] rfl ?_)))
    refine Qaa (v:=int .i64 r7.2.2) rfl rfl rfl ?_
    refine Qaa (v:=int .i64 0) rfl rfl rfl ?_
    refine Qaa (v:=int .i64 0) rfl rfl rfl ?_
    show G _ _ _ _ [_,_,_,_,_,_,_,_,_,_,_,_,_,_,_,_,_,_,_,_,_,_,_,_,_,_,_,_,_,_,_,_,_,_,_,_,_,_,_,_,_,_,_,_] _
    refine Qaa (v:=int .i64 r7.2.2) rfl rfl rfl (Qab ?_)
    obtain rfl:=QsJ H
    subst Hx1_
    have H:=QsJ Hr1_
    subst H
    refine Qax Tryz.func15 (v:=tuple #[int .i64 0,int .i64 0,int .i64 r7.2.2]) (resN (l:=Tryz.f15.results.toList) (vs:=[int .i64 0,int .i64 0,int .i64 r7.2.2]) rfl ⟨rfl,rfl,rfl,trivial⟩ (by simp)) ?_
    have hs:St _ [] _:=St.take (Γ':=[_,_]) hs
    exact ⟨_,rfl,rfl,hs⟩
   intro hb
   rw [if_pos (b_bne_f hb)] at H
   refine Qab (Qap rfl (QaE (Qaf (Qak [0,1,2,3,4] rfl ?_))))
   refine Qaa (v:=pointer (some ⟨b10,2,none⟩)) rfl rfl rfl ?_
   refine Qaw rfl rfl (v:=v8) rfl rfl (fun _=>rfl) (cells_load (hs.cells 0 rfl) 2 1 rfl) ?_
   show G _ _ _ _ [_,_,_,_,_,_,_,_,_,_,_,_,_,_,_,_,_,_,_,_,_,_,_,_,_,_,_,_,_,_,_,_,_,_,_,_,_,_,_,_,_,_,_,_] _
   obtain ⟨r12,Hr12,H⟩:=bind_get H
   refine Qas (args:=[v8]) rfl rfl (Qat rfl (callFunc_enter Tryz.func54 rfl rfl) rfl) (Qbw.calls (a1:=r7.1.Qah) (hs.row 1 rfl) Hr12) ?_
   rintro _ w ⟨rfl,hs2⟩
   have hs:St _ [_,_] _:=hs.call hs2
   refine Qaa (v:=int .i64 x5) rfl rfl rfl ?_
   refine QaA (B:=decide (r12>x5)) rfl rfl rfl ?_ ?_
   ·
    intro hb
    rw [if_pos (b_dec_t hb)] at H
    show G _ _ _ _ [_,_,_,_,_,_,_,_,_,_,_,_,_,_,_,_,_,_,_,_,_,_,_,_,_,_,_,_,_,_,_,_,_,_,_,_,_,_,_,_,_,_,_,_] _
    refine Qab (Qam rfl (Qak [0,1,2,3,4,5] rfl ?_))
    refine Qaa (v:=int .i64 x6) rfl rfl rfl ?_
    refine Qaa (v:=pointer (some ⟨b10,2,none⟩)) rfl rfl rfl ?_
    refine Qaw rfl rfl (v:=v8) rfl rfl (fun _=>rfl) (cells_load (hs.cells 0 rfl) 2 1 rfl) ?_
    obtain ⟨r13,Hr13,H⟩:=bind_get H
    refine Qas (args:=[v8]) rfl rfl (Qat rfl (callFunc_enter Tryz.func54 rfl rfl) rfl) (Qbw.calls (a1:=r7.1.Qah) (hs.row 1 rfl) Hr13) ?_
    rintro _ w ⟨rfl,hs2⟩
    have hs:St _ [_,_] _:=hs.call hs2
    refine Qaa (v:=int .i64 x6) rfl rfl rfl ?_
    show G _ _ _ _ [_,_,_,_,_,_,_,_,_,_,_,_,_,_,_,_,_,_,_,_,_,_,_,_,_,_,_,_,_,_,_,_,_,_,_,_,_,_,_,_,_,_,_,_] _
    refine Qaa (v:=int .i64 r13) rfl rfl rfl (Qab ?_)
    refine QaH ?_
    have hs:St _ [] _:=St.take (Γ':=[_,_]) hs
    exact ha _ _ ⟨x6,r13,H,rfl,hs⟩
   intro hb
   rw [if_neg (b_dec_f hb)] at H
   refine Qab (Qap rfl (QaE ?_))
   refine QaH ?_
   have hs:St _ [] _:=St.take (Γ':=[_,_]) hs
   exact ha _ _ ⟨x4,x5,H,rfl,hs⟩
  intro hb
  rw [if_neg (b_dec_f hb)] at H
  refine Qab (Qaf (Qap rfl ?_))
  obtain rfl:=QsJ H
  subst Hx1_
  have hs:St _ [] _:=St.take (Γ':=[]) hs
  refine Qbq rfl ?_
  exact ha1_ _ _ ⟨x4,x5,Hr1_,rfl,hs⟩
 |false=>
  rw [if_neg Bool.false_ne_true] at H
  refine Qaa (v:=bool true) rfl rfl rfl (Qab (Qam rfl (Qaf (Qak [0,1,2] rfl ?_))))
  refine Qaa (v:=int .i64 0) rfl rfl rfl ?_
  show G _ _ _ _ [_,_,_,_,_,_,_,_,_,_,_,_,_,_,_,_,_,_,_,_,_,_,_,_,_,_,_,_,_,_,_,_,_,_,_,_,_,_,_,_,_,_,_,_] _
  refine Qaa (v:=int .i64 0) rfl rfl rfl ?_
  refine Qaa (v:=int .i64 2) rfl rfl rfl (Qab ?_)
  obtain rfl:=QsJ H
  refine Qax Tryz.func15 (v:=tuple #[int .i64 0,int .i64 0,int .i64 2]) (resN (l:=Tryz.f15.results.toList) (vs:=[int .i64 0,int .i64 0,int .i64 2]) rfl ⟨rfl,rfl,rfl,trivial⟩ (by simp)) ?_
  have hs:St _ [] _:=St.take (Γ':=[]) hs
  exact ⟨_,rfl,rfl,hs⟩
def QaM.post (w0:World) (r:(Int×Int×Int)) (v:Value) (w:World):Prop:=v=tuple #[int .i64 r.1,int .i64 r.2.1,int .i64 r.2.2]∧St w0 [] w
theorem QaM.calls {N:Nat} {a1:Int} {a2:Int} {w0:World} {r:(Int×Int×Int)} (H:QaM.f N a1 a2=some r):
 Calls Tryz.prog 16 #[int .i64 a1,int .i64 a2] w0 fun e w=>∃ v,e= .returned v∧QaM.post w0 r v w:=by
 unfold QaM.f at H
 have hs:St w0 [] w0:=St.refl w0
 refine calls_of_g (n:=43) Tryz.func16 rfl rfl ?_
 show G _ _ _ _ [_,_,_,_,_,_,_,_,_,_,_,_,_,_,_,_,_,_,_,_,_,_,_,_,_,_,_,_,_,_,_,_,_,_,_,_,_,_,_,_,_,_,_,_,_] _
 refine Qaf (Qak [0,1,2] rfl ?_)
 refine Qaa (v:=int .i64 0) rfl rfl rfl ?_
 show G _ _ _ _ [_,_,_,_,_,_,_,_,_,_,_,_,_,_,_,_,_,_,_,_,_,_,_,_,_,_,_,_,_,_,_,_,_,_,_,_,_,_,_,_,_,_,_,_,_] _
 refine Qaa (v:=int .i64 0) rfl rfl rfl ?_
 refine Qaa (v:=int .i64 0) rfl rfl rfl (Qab (Qaf (Qaf (Qak [0,1,2,3] rfl ?_))))
 refine Qaa (v:=int .i64 a1) rfl rfl rfl ?_
 refine Qaa (v:=int .i64 a2) rfl rfl rfl ?_
 obtain ⟨r3,Hr3,H⟩:=bind_get H
 refine Qas (args:=[int .i64 a1,int .i64 a2]) rfl rfl (Qat rfl (callFunc_enter Tryz.func38 rfl rfl) rfl) (QbE.calls (a1:=a1) (a2:=a2) Hr3) ?_
 rintro _ w ⟨rfl,hs2⟩
 have hs:St _ [] _:=hs.call hs2
 cases r3 with
 |true=>
  rw [if_pos rfl] at H
  refine Qaa (v:=bool false) rfl rfl rfl ?_
  show G _ _ _ _ [_,_,_,_,_,_,_,_,_,_,_,_,_,_,_,_,_,_,_,_,_,_,_,_,_,_,_,_,_,_,_,_,_,_,_,_,_,_,_,_,_,_,_,_,_] _
  refine Qab (Qap rfl (QaE (Qaf (Qak [0] rfl ?_))))
  refine Qaa (v:=int .i64 0) rfl rfl rfl (Qab (Qaf (Qak [0] rfl ?_)))
  refine Qaa (v:=int .i64 (-1)) rfl rfl rfl (Qab (Qaf (Qaf (Qak [0] rfl ?_))))
  refine Qaa (v:=int .i64 0) rfl rfl rfl ?_
  show G _ _ _ _ [_,_,_,_,_,_,_,_,_,_,_,_,_,_,_,_,_,_,_,_,_,_,_,_,_,_,_,_,_,_,_,_,_,_,_,_,_,_,_,_,_,_,_,_,_] _
  refine Qab ?_
  obtain ⟨o1_,Ho,Hr1_⟩:=bind_get H
  refine QaF (J:=fun t w=>∃ x16:Int,∃ x17:Int,QaM.a0 N x16 x17=some r∧Fr t (fun O=>([O 0,O 1,O 2,O 3,O 4,O 5,O 6,int .i64 x16,int .i64 x17,O 9,O 10,O 11,O 12,O 13,O 14,O 15,O 16,O 17,O 18,O 19,O 20,O 21,O 22,O 23,O 24,O 25,O 26,O 27,O 28,O 29,O 30,O 31,O 32,O 33,O 34,O 35,O 36,O 37,O 38,O 39,O 40,O 41,O 42,O 43,O 44]:List Value))∧St w0 [] w) ?_ ?_
  ·
   rintro t w ⟨x16,x17,H,hf,hs⟩
   obtain ⟨O,rfl⟩:=hf.open
   show G _ _ _ _ [_,_,_,_,_,_,_,_,_,_,_,_,_,_,_,_,_,_,_,_,_,_,_,_,_,_,_,_,_,_,_,_,_,_,_,_,_,_,_,_,_,_,_,_,_] _
   unfold QaM.a0 at H
   refine Qaf (Qak [0,1,2,3,4] rfl ?_)
   refine Qaa (v:=int .i64 x16) rfl rfl rfl ?_
   refine Qaa (v:=int .i64 x17) rfl rfl rfl ?_
   refine Qaa (v:=int .i64 x16) rfl rfl rfl ?_
   refine Qaa (v:=int .i64 x17) rfl rfl rfl ?_
   show G _ _ _ _ [_,_,_,_,_,_,_,_,_,_,_,_,_,_,_,_,_,_,_,_,_,_,_,_,_,_,_,_,_,_,_,_,_,_,_,_,_,_,_,_,_,_,_,_,_] _
   refine Qaa (v:=int .i64 0) rfl rfl rfl (Qab ?_)
   obtain rfl:=QsJ H
   refine Qax Tryz.func16 (v:=tuple #[int .i64 x16,int .i64 x17,int .i64 0]) (resN (l:=Tryz.f16.results.toList) (vs:=[int .i64 x16,int .i64 x17,int .i64 0]) rfl ⟨rfl,rfl,rfl,trivial⟩ (by simp)) ?_
   have hs:St _ [] _:=St.take (Γ':=[]) hs
   exact ⟨_,rfl,rfl,hs⟩
  intro ha1_
  have hs:St _ [] _:=St.take (Γ':=[]) hs
  refine QaZ (I:=fun n_ t w=>∃ x4:Int,∃ x5:Int,∃ x6:Int,rounds (fun s=>QaM.b0 N a1 a2 s.1 s.2.1 s.2.2) n_ (x4,x5,x6)=some o1_∧Fr t (fun O=>([int .i64 a1,int .i64 a2,O 2,O 3,O 4,O 5,O 6,int .i64 x4,int .i64 x5,int .i64 x6,O 10,O 11,O 12,O 13,O 14,O 15,O 16,O 17,O 18,O 19,O 20,O 21,O 22,O 23,O 24,O 25,O 26,O 27,O 28,O 29,O 30,O 31,O 32,O 33,O 34,O 35,O 36,O 37,O 38,O 39,O 40,O 41,O 42,O 43,O 44]:List Value))∧St w0 [] w) N ⟨0,(-1),0,Ho,rfl,hs⟩ ?_ ?_
  ·
   rintro _ _ ⟨x4,x5,x6,h,_⟩
   exact rounds_zero h
  intro n_ ih1_
  rintro t w ⟨x4,x5,x6,Ho,hf,hs⟩
  obtain ⟨O,rfl⟩:=hf.open
  show G _ _ _ _ [_,_,_,_,_,_,_,_,_,_,_,_,_,_,_,_,_,_,_,_,_,_,_,_,_,_,_,_,_,_,_,_,_,_,_,_,_,_,_,_,_,_,_,_,_] _
  obtain ⟨x1_,H,Hx1_⟩:=rounds_succ Ho
  have H:QaM.b0 N a1 a2 x4 x5 x6=some x1_:=H
  unfold QaM.b0 at H
  refine Qaf (Qaf (Qak [0,1,2] rfl ?_))
  refine Qaa (v:=int .i64 x6) rfl rfl rfl ?_
  refine Qaa (v:=int .i64 a1) rfl rfl rfl ?_
  refine QaA (B:=decide (x6< a1)) rfl rfl rfl ?_ ?_
  ·
   intro hb
   rw [if_pos (b_dec_t hb)] at H
   refine Qab (Qam rfl (QaE (Qaf ?_)))
   refine QaF (J:=(fun t w=>∃ x14:Int,∃ x15:Int,QaM.j2 N x6 x14 x15=some x1_∧Fr t (fun O=>([int .i64 a1,int .i64 a2,O 2,O 3,O 4,O 5,O 6,int .i64 x14,int .i64 x15,int .i64 x6,O 10,O 11,O 12,O 13,O 14,O 15,O 16,O 17,O 18,O 19,O 20,O 21,O 22,O 23,O 24,O 25,O 26,O 27,O 28,O 29,O 30,O 31,O 32,O 33,O 34,O 35,O 36,O 37,O 38,O 39,O 40,O 41,O 42,O 43,O 44]:List Value))∧St w0 [] w)) ?_ ?_
   ·
    rintro t w ⟨x14,x15,H,hf,hs⟩
    obtain ⟨O,rfl⟩:=hf.open
    show G _ _ _ _ [_,_,_,_,_,_,_,_,_,_,_,_,_,_,_,_,_,_,_,_,_,_,_,_,_,_,_,_,_,_,_,_,_,_,_,_,_,_,_,_,_,_,_,_,_] _
    unfold QaM.j2 at H
    refine Qak [0,1,2] rfl ?_
    refine Qaa (v:=int .i64 x6) rfl rfl rfl ?_
    refine Qaa (v:=int .i64 (i64w (x6+1))) rfl rfl rfl ?_
    show G _ _ _ _ [_,_,_,_,_,_,_,_,_,_,_,_,_,_,_,_,_,_,_,_,_,_,_,_,_,_,_,_,_,_,_,_,_,_,_,_,_,_,_,_,_,_,_,_,_] _
    refine Qaa (v:=int .i64 (i64w (x6+1))) rfl rfl rfl (Qab ?_)
    obtain rfl:=QsJ H
    have hs:St _ [] _:=St.take (Γ':=[]) hs
    exact ih1_ _ _ ⟨x14,x15,i64w (x6+1),Hx1_,rfl,hs⟩
   intro ha
   refine Qaf (Qak [0,1,2,3,4,5,6,7,8,9,10,11,12] rfl ?_)
   refine Qaa (v:=int .i64 a1) rfl rfl rfl ?_
   refine Qaa (v:=int .i64 a2) rfl rfl rfl ?_
   refine Qaa (v:=int .i64 x6) rfl rfl rfl ?_
   show G _ _ _ _ [_,_,_,_,_,_,_,_,_,_,_,_,_,_,_,_,_,_,_,_,_,_,_,_,_,_,_,_,_,_,_,_,_,_,_,_,_,_,_,_,_,_,_,_,_] _
   refine QcB (κ:=K.bool) hs rfl rfl rfl rfl (fun _=>rfl) ?_
   intro v7 w hs
   obtain ⟨r9,Hr9,H⟩:=bind_get H
   refine Qas (args:=[int .i64 a1,int .i64 a2,int .i64 x6,v7]) rfl rfl (Qat rfl (callFunc_enter Tryz.func40 rfl rfl) rfl) (QaR.calls (a1:=a1) (a2:=a2) (a3:=x6) (a4:=([]:List Bool)) (hs.row 0 rfl) Hr9) ?_
   rintro _ w ⟨v10,rfl,hs2⟩
   have hs:St _ [_,_] _:=hs.call hs2
   refine Qaa (v:=tuple #[agg (([int .i8 r9.1.Qac,int .i8 r9.1.Qae,v10]:List Value)).toArray,int .i64 r9.2.1,int .i64 r9.2.2]) rfl rfl rfl ?_
   refine Qaa (v:=agg (([int .i8 r9.1.Qac,int .i8 r9.1.Qae,v10]:List Value)).toArray) rfl rfl rfl ?_
   refine Qaa (v:=int .i64 r9.2.1) rfl rfl rfl ?_
   refine Qaa (v:=int .i64 r9.2.2) rfl rfl rfl ?_
   refine Qa5 hs rfl rfl (z:=(agg #[int .i8 0,int .i8 0,slice none 0 0])) (cs:=(([int .i8 0,int .i8 0,slice none 0 0]:List Value))) rfl (fun _=>rfl) rfl ?_
   intro b12 w hs
   show G _ _ _ _ [_,_,_,_,_,_,_,_,_,_,_,_,_,_,_,_,_,_,_,_,_,_,_,_,_,_,_,_,_,_,_,_,_,_,_,_,_,_,_,_,_,_,_,_,_] _
   refine QaB (n:=3) hs rfl rfl rfl (vs:=(([int .i8 r9.1.Qac,int .i8 r9.1.Qae,v10]:List Value))) rfl rfl rfl (fun _=>rfl) rfl (by intro v hv;simp only [List.mem_append,List.mem_cons,List.not_mem_nil,or_false] at hv;repeat (first|(subst hv;first|rfl|exact slOne (hs.row 1 rfl))|(rcases hv with hv|hv))) ?_
   intro w hs
   refine Qaa (v:=int .i64 r9.2.1) rfl rfl rfl ?_
   refine Qaa (v:=int .i64 r9.2.2) rfl rfl rfl (Qab (Qaf (Qaf (Qak [0,1] rfl ?_))))
   refine Qaa (v:=int .i64 r9.2.2) rfl rfl rfl ?_
   refine QaA (B:=r9.2.2 !=0) rfl rfl rfl ?_ ?_
   ·
    intro hb
    rw [if_neg (b_bne_t hb)] at H
    refine Qab (Qam rfl (Qaf (Qak [0,1,2,3] rfl ?_)))
    refine Qaa (v:=int .i64 r9.2.2) rfl rfl rfl ?_
    refine Qaa (v:=int .i64 0) rfl rfl rfl ?_
    show G _ _ _ _ [_,_,_,_,_,_,_,_,_,_,_,_,_,_,_,_,_,_,_,_,_,_,_,_,_,_,_,_,_,_,_,_,_,_,_,_,_,_,_,_,_,_,_,_,_] _
    refine Qaa (v:=int .i64 0) rfl rfl rfl ?_
    refine Qaa (v:=int .i64 r9.2.2) rfl rfl rfl (Qab ?_)
    obtain rfl:=QsJ H
    subst Hx1_
    have H:=QsJ Hr1_
    subst H
    refine Qax Tryz.func16 (v:=tuple #[int .i64 0,int .i64 0,int .i64 r9.2.2]) (resN (l:=Tryz.f16.results.toList) (vs:=[int .i64 0,int .i64 0,int .i64 r9.2.2]) rfl ⟨rfl,rfl,rfl,trivial⟩ (by simp)) ?_
    have hs:St _ [] _:=St.take (Γ':=[_,_,_]) hs
    exact ⟨_,rfl,rfl,hs⟩
   intro hb
   rw [if_pos (b_bne_f hb)] at H
   show G _ _ _ _ [_,_,_,_,_,_,_,_,_,_,_,_,_,_,_,_,_,_,_,_,_,_,_,_,_,_,_,_,_,_,_,_,_,_,_,_,_,_,_,_,_,_,_,_,_] _
   refine Qab (Qap rfl (QaE (Qaf (Qak [0,1,2,3,4] rfl ?_))))
   refine Qaa (v:=pointer (some ⟨b12,2,none⟩)) rfl rfl rfl ?_
   refine Qaw rfl rfl (v:=v10) rfl rfl (fun _=>rfl) (cells_load (hs.cells 0 rfl) 2 1 rfl) ?_
   refine Qbp (hs.row 1 rfl) rfl rfl rfl rfl rfl ?_
   refine Qaa (v:=int .i64 x5) rfl rfl rfl ?_
   refine QaA (B:=decide ((r9.1.Qah.length:Int)>x5)) rfl rfl rfl ?_ ?_
   ·
    intro hb
    rw [if_pos (b_dec_t hb)] at H
    refine Qab (Qam rfl (Qaf (Qak [0,1] rfl ?_)))
    refine Qaa (v:=int .i64 x6) rfl rfl rfl ?_
    refine Qaa (v:=int .i64 x6) rfl rfl rfl (Qab (Qak [0,1,2,3] rfl ?_))
    refine Qaa (v:=pointer (some ⟨b12,2,none⟩)) rfl rfl rfl ?_
    refine Qaw rfl rfl (v:=v10) rfl rfl (fun _=>rfl) (cells_load (hs.cells 0 rfl) 2 1 rfl) ?_
    show G _ _ _ _ [_,_,_,_,_,_,_,_,_,_,_,_,_,_,_,_,_,_,_,_,_,_,_,_,_,_,_,_,_,_,_,_,_,_,_,_,_,_,_,_,_,_,_,_,_] _
    refine Qbp (hs.row 1 rfl) rfl rfl rfl rfl rfl ?_
    refine Qaa (v:=int .i64 (r9.1.Qah.length:Int)) rfl rfl rfl (Qab ?_)
    refine QaH ?_
    have hs:St _ [] _:=St.take (Γ':=[_,_,_]) hs
    exact ha _ _ ⟨x6,(r9.1.Qah.length:Int),H,rfl,hs⟩
   intro hb
   rw [if_neg (b_dec_f hb)] at H
   show G _ _ _ _ [_,_,_,_,_,_,_,_,_,_,_,_,_,_,_,_,_,_,_,_,_,_,_,_,_,_,_,_,_,_,_,_,_,_,_,_,_,_,_,_,_,_,_,_,_] _
   refine Qab (Qap rfl (QaE ?_))
   refine QaH ?_
   have hs:St _ [] _:=St.take (Γ':=[_,_,_]) hs
   exact ha _ _ ⟨x4,x5,H,rfl,hs⟩
  intro hb
  rw [if_neg (b_dec_f hb)] at H
  refine Qab (Qap rfl ?_)
  obtain rfl:=QsJ H
  subst Hx1_
  have hs:St _ [] _:=St.take (Γ':=[]) hs
  refine Qbq rfl ?_
  exact ha1_ _ _ ⟨x4,x5,Hr1_,rfl,hs⟩
 |false=>
  rw [if_neg Bool.false_ne_true] at H
  show G _ _ _ _ [_,_,_,_,_,_,_,_,_,_,_,_,_,_,_,_,_,_,_,_,_,_,_,_,_,_,_,_,_,_,_,_,_,_,_,_,_,_,_,_,_,_,_,_,_] _
  refine Qaa (v:=bool true) rfl rfl rfl (Qab (Qam rfl (Qaf (Qak [0,1,2] rfl ?_))))
  refine Qaa (v:=int .i64 0) rfl rfl rfl ?_
  refine Qaa (v:=int .i64 0) rfl rfl rfl ?_
  show G _ _ _ _ [_,_,_,_,_,_,_,_,_,_,_,_,_,_,_,_,_,_,_,_,_,_,_,_,_,_,_,_,_,_,_,_,_,_,_,_,_,_,_,_,_,_,_,_,_] _
  refine Qaa (v:=int .i64 2) rfl rfl rfl (Qab ?_)
  obtain rfl:=QsJ H
  refine Qax Tryz.func16 (v:=tuple #[int .i64 0,int .i64 0,int .i64 2]) (resN (l:=Tryz.f16.results.toList) (vs:=[int .i64 0,int .i64 0,int .i64 2]) rfl ⟨rfl,rfl,rfl,trivial⟩ (by simp)) ?_
  have hs:St _ [] _:=St.take (Γ':=[]) hs
  exact ⟨_,rfl,rfl,hs⟩
def Qbt.post (wb:World) (Z:As) (b2:Nat) (v3:Value) (r:(Bool×Qaz)) (v:Value) (w:World):Prop:=v=bool r.1∧St wb [Cells b2 (([v3,int .i64 r.2.Qa3,int .u64 r.2.QaT]:List Value)) 112,Z] w
theorem Qbt.calls {N:Nat} {a1:Qaz} {a6:Int} {b2:Nat} {v3:Value} {wb:World} {Z:As} {w0:World} {r:(Bool×Qaz)} (hs:St wb [Cells b2 (([v3,int .i64 a1.Qa3,int .u64 a1.QaT]:List Value)) 112,Z] w0) (hr4:RdRow (K.int .u8) wb v3 a1.Qa0) (H:Qbt.f N a1 a6=some r):
 Calls Tryz.prog 92 #[pointer (some ⟨b2,0,none⟩),int .i64 a6] w0 fun e w=>∃ v,e= .returned v∧Qbt.post wb Z b2 v3 r v w:=by
 unfold Qbt.f at H
 refine calls_of_g (n:=7) Tryz.func92 rfl rfl ?_
 show G _ _ _ _ [_,_,_,_,_,_,_,_,_] _
 refine Qaf (Qak [0] rfl ?_)
 refine Qaa (v:=bool false) rfl rfl rfl ?_
 show G _ _ _ _ [_,_,_,_,_,_,_,_,_] _
 refine Qab (Qaf (Qak [0,1,2,3,4] rfl ?_))
 refine Qaa (v:=pointer (some ⟨b2,0,none⟩)) rfl rfl rfl ?_
 refine Qaa (v:=int .i64 a6) rfl rfl rfl ?_
 obtain ⟨r7,Hr7,H⟩:=bind_get H
 have hs:St _ [_,_] _:=hs.pull 0 rfl
 have hs:=hs.pack 1
 refine Qas (args:=[pointer (some ⟨b2,0,none⟩),int .i64 a6]) rfl rfl (Qat rfl (callFunc_enter Tryz.func33 rfl rfl) rfl) (QaJ.calls (a1:=(⟨a1.Qa0,a1.Qa3,a1.QaT⟩:Qaz)) (a6:=a6) hs hr4 Hr7) ?_
 rintro _ w ⟨rfl,hs⟩
 have hs:=St.unpack (Γ:=[_]) hs
 have hs:St _ [_,_] _:=hs
 show G _ _ _ _ [_,_,_,_,_,_,_,_,_] _
 refine Qaa (v:=bool (r7.1==0)) rfl rfl rfl ?_
 refine Qaa (v:=bool (r7.1==0)) rfl rfl rfl (Qab ?_)
 obtain rfl:=QsJ H
 refine Qax Tryz.func92 (v:=bool (r7.1==0)) (res1 rfl rfl) ?_
 have hs:=hs.pull 1 rfl
 have hs:=hs.pull 1 rfl
 have hs:St _ [_,_] _:=St.take (Γ':=[]) hs
 exact ⟨_,rfl,rfl,hs⟩
def QbT.post (w0:World) (r:Int) (v:Value) (w:World):Prop:=v=int .u64 r∧St w0 [] w
theorem QbT.calls {N:Nat} {a1:Int} {w0:World} {r:Int} (H:QbT.f N a1=some r):
 Calls Tryz.prog 93 #[int .i64 a1] w0 fun e w=>∃ v,e= .returned v∧QbT.post w0 r v w:=by
 unfold QbT.f at H
 have hs:St w0 [] w0:=St.refl w0
 refine calls_of_g (n:=6) Tryz.func93 rfl rfl ?_
 show G _ _ _ _ [_,_,_,_,_,_,_] _
 refine Qaf (Qak [0] rfl ?_)
 refine Qaa (v:=int .u64 0) rfl rfl rfl ?_
 show G _ _ _ _ [_,_,_,_,_,_,_] _
 refine Qab (Qaf (Qak [0,1,2,3,4] rfl ?_))
 refine Qaa (v:=int .i64 a1) rfl rfl rfl ?_
 refine Qaa (v:=int .i64 (i64w (64 - a1))) rfl rfl rfl ?_
 refine Qaa (v:=int .u64 (u64w (i64w (64 - a1)))) rfl rfl rfl ?_
 show G _ _ _ _ [_,_,_,_,_,_,_] _
 obtain ⟨g1,H⟩:=ite_get H
 refine Qaa (v:=int .u64 (shrI .u64 18446744073709551615 (u64w (i64w (64 - a1))))) rfl rfl (QcC rfl rfl rfl g1) ?_
 refine Qaa (v:=int .u64 (shrI .u64 18446744073709551615 (u64w (i64w (64 - a1))))) rfl rfl rfl (Qab ?_)
 obtain rfl:=QsJ H
 refine Qax Tryz.func93 (v:=int .u64 (shrI .u64 18446744073709551615 (u64w (i64w (64 - a1))))) (res1 rfl rfl) ?_
 have hs:St _ [] _:=St.take (Γ':=[]) hs
 exact ⟨_,rfl,rfl,hs⟩
end Go.Proofs.YtdnipilfcjkfoaaGreatDoorX
