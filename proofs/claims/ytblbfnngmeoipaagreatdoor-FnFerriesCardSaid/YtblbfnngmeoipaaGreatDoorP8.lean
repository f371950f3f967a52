import Derived.Test.YtblbfnngmeoipaaGreatDoorP7
namespace Go.Proofs.YtblbfnngmeoipaaGreatDoorX
open Go Go.RowKit Go.Proofs
open Go.Value (int pointer bool agg slice string tuple)
set_option maxHeartbeats 8000000
set_option maxRecDepth 100000
set_option linter.unusedVariables false
set_option linter.unusedSimpArgs false
def Qcn.post (w0:World) (r:ByteArray) (v:Value) (w:World):Prop:=v=string r∧St w0 [] w
theorem Qcn.calls {N:Nat} {a1:Int} {w0:World} {r:ByteArray} (H:Qcn.f N a1=some r):
 Calls Tryz.prog 92 #[int .i8 a1] w0 fun e w=>∃ v,e= .returned v∧Qcn.post w0 r v w:=by
 unfold Qcn.f at H
 have hs:St w0 [] w0:=St.refl w0
 refine calls_of_g (n:=7) Tryz.func92 rfl rfl ?_
 show G _ _ _ _ [_,_,_,_,_,_,_,_] _
 refine Qaj (Qan [0] rfl ?_)
 refine Qab (v:=string (⟨#[]⟩:ByteArray)) rfl rfl rfl (Qac (Qaj (Qan [0,1,2,3,4,5] rfl ?_)))
 refine Qab (v:=int .i8 a1) rfl rfl rfl ?_
 refine Qab (v:=int .i8 (i8w (97+a1))) rfl rfl rfl ?_
 show G _ _ _ _ [_,_,_,_,_,_,_,_] _
 refine Qab (v:=int .u8 (u8w (i8w (97+a1)))) rfl rfl rfl ?_
 show G _ _ _ _ [_,_,_,_,_,_,_,_] _
 refine Qcq (fkI .u8) (y:=u8w (i8w (97+a1))) hs rfl rfl rfl rfl (fun _=>rfl) (zv:=(int .u8 0)) (fun _=>rfl) rfl (by decide) (by decide) rfl ?_
 intro v2 w hs
 refine Qab (v:=string (bsOf ([u8w (i8w (97+a1))]))) rfl rfl (Qc8 rfl rfl rfl rfl rfl (hs.row 0 rfl)) ?_
 show G _ _ _ _ [_,_,_,_,_,_,_,_] _
 refine Qab (v:=string (bsOf ([u8w (i8w (97+a1))]))) rfl rfl rfl (Qac ?_)
 obtain rfl:=QsJ H
 refine QaB Tryz.func92 (v:=string (bsOf ([u8w (i8w (97+a1))]))) (res1 rfl rfl) ?_
 have hs:St _ [] _:=St.take (Γ':=[_]) hs
 exact ⟨_,rfl,rfl,hs⟩
def Qbh.post (w0:World) (r:ByteArray) (v:Value) (w:World):Prop:=v=string r∧St w0 [] w
theorem Qbh.calls {N:Nat} {a1:Int} {w0:World} {r:ByteArray} (H:Qbh.f N a1=some r):
 Calls Tryz.prog 68 #[int .u64 a1] w0 fun e w=>∃ v,e= .returned v∧Qbh.post w0 r v w:=by
 unfold Qbh.f at H
 have hs:St w0 [] w0:=St.refl w0
 refine calls_of_g (n:=20) Tryz.func68 rfl rfl ?_
 show G _ _ _ _ [_,_,_,_,_,_,_,_,_,_,_,_,_,_,_,_,_,_,_,_,_] _
 refine Qaj (Qan [0] rfl ?_)
 refine Qab (v:=string (⟨#[]⟩:ByteArray)) rfl rfl rfl (Qac (Qaj (Qaj (Qan [0,1] rfl ?_))))
 refine Qab (v:=int .u64 a1) rfl rfl rfl ?_
 show G _ _ _ _ [_,_,_,_,_,_,_,_,_,_,_,_,_,_,_,_,_,_,_,_,_] _
 refine QaI (B:=a1==0) rfl rfl rfl ?_ ?_
 ·
  intro hb
  rw [if_pos (b_beq_t hb)] at H
  refine Qac (Qaq rfl (Qaj (Qan [0] rfl ?_)))
  refine Qab (v:=string (⟨#[45]⟩:ByteArray)) rfl rfl rfl (Qac ?_)
  obtain rfl:=QsJ H
  refine QaB Tryz.func68 (v:=string (⟨#[45]⟩:ByteArray)) (res1 rfl rfl) ?_
  have hs:St _ [] _:=St.take (Γ':=[]) hs
  exact ⟨_,rfl,rfl,hs⟩
 intro hb
 rw [if_neg (b_beq_f hb)] at H
 refine Qac (Qas rfl (QaK (Qaj (Qan [0] rfl ?_))))
 refine Qab (v:=string (⟨#[]⟩:ByteArray)) rfl rfl rfl (Qac (Qaj (Qaj (Qan [0] rfl ?_))))
 refine Qab (v:=int .i8 0) rfl rfl rfl ?_
 show G _ _ _ _ [_,_,_,_,_,_,_,_,_,_,_,_,_,_,_,_,_,_,_,_,_] _
 refine Qac ?_
 obtain ⟨o1_,Ho,Hr1_⟩:=bind_get H
 refine QaR (J:=fun t w=>∃ x6:ByteArray,Qbh.a0 N x6=some r∧Fr t (fun O=>([O 0,O 1,O 2,string x6,O 4,O 5,O 6,O 7,O 8,O 9,O 10,O 11,O 12,O 13,O 14,O 15,O 16,O 17,O 18,O 19,O 20]:List Value))∧St w0 [] w) ?_ ?_
 ·
  rintro t w ⟨x6,H,hf,hs⟩
  obtain ⟨O,rfl⟩:=hf.open
  show G _ _ _ _ [_,_,_,_,_,_,_,_,_,_,_,_,_,_,_,_,_,_,_,_,_] _
  unfold Qbh.a0 at H
  refine Qaj (Qan [0,1] rfl ?_)
  refine Qab (v:=string x6) rfl rfl rfl ?_
  refine Qab (v:=string x6) rfl rfl rfl ?_
  show G _ _ _ _ [_,_,_,_,_,_,_,_,_,_,_,_,_,_,_,_,_,_,_,_,_] _
  refine Qac ?_
  obtain rfl:=QsJ H
  refine QaB Tryz.func68 (v:=string x6) (res1 rfl rfl) ?_
  have hs:St _ [] _:=St.take (Γ':=[]) hs
  exact ⟨_,rfl,rfl,hs⟩
 intro ha1_
 have hs:St _ [] _:=St.take (Γ':=[]) hs
 refine Qba (I:=fun n_ t w=>∃ x2:ByteArray,∃ x3:Int,rounds (fun s=>Qbh.b0 N a1 s.1 s.2) n_ (x2,x3)=some o1_∧Fr t (fun O=>([int .u64 a1,O 1,O 2,string x2,O 4,O 5,O 6,int .i8 x3,O 8,O 9,O 10,O 11,O 12,O 13,O 14,O 15,O 16,O 17,O 18,O 19,O 20]:List Value))∧St w0 [] w) N ⟨(⟨#[]⟩:ByteArray),0,Ho,rfl,hs⟩ ?_ ?_
 ·
  rintro _ _ ⟨x2,x3,h,_⟩
  exact rounds_zero h
 intro n_ ih1_
 rintro t w ⟨x2,x3,Ho,hf,hs⟩
 obtain ⟨O,rfl⟩:=hf.open
 show G _ _ _ _ [_,_,_,_,_,_,_,_,_,_,_,_,_,_,_,_,_,_,_,_,_] _
 obtain ⟨x3_,H,Hx1_⟩:=rounds_succ Ho
 have H:Qbh.b0 N a1 x2 x3=some x3_:=H
 unfold Qbh.b0 at H
 refine Qaj (Qan [0] rfl ?_)
 refine QaI (B:=decide (x3< 64)) rfl rfl rfl ?_ ?_
 ·
  intro hb
  rw [if_pos (b_dec_t hb)] at H
  refine Qac (Qaj (Qaq rfl (QaK (Qaj ?_))))
  refine QaR (J:=(fun t w=>∃ x5:ByteArray,Qbh.j2 N x3 x5=some x3_∧Fr t (fun O=>([int .u64 a1,O 1,O 2,string x5,O 4,O 5,O 6,int .i8 x3,O 8,O 9,O 10,O 11,O 12,O 13,O 14,O 15,O 16,O 17,O 18,O 19,O 20]:List Value))∧St w0 [] w)) ?_ ?_
  ·
   rintro t w ⟨x5,H,hf,hs⟩
   obtain ⟨O,rfl⟩:=hf.open
   show G _ _ _ _ [_,_,_,_,_,_,_,_,_,_,_,_,_,_,_,_,_,_,_,_,_] _
   unfold Qbh.j2 at H
   refine Qan [0,1] rfl ?_
   refine Qab (v:=int .i8 (i8w (x3+1))) rfl rfl rfl ?_
   show G _ _ _ _ [_,_,_,_,_,_,_,_,_,_,_,_,_,_,_,_,_,_,_,_,_] _
   refine Qab (v:=int .i8 (i8w (x3+1))) rfl rfl rfl (Qac ?_)
   obtain rfl:=QsJ H
   have hs:St _ [] _:=St.take (Γ':=[]) hs
   exact ih1_ _ _ ⟨x5,i8w (x3+1),Hx1_,rfl,hs⟩
  intro ha
  refine Qaj (Qan [0,1] rfl ?_)
  refine Qab (v:=int .i8 x3) rfl rfl rfl ?_
  show G _ _ _ _ [_,_,_,_,_,_,_,_,_,_,_,_,_,_,_,_,_,_,_,_,_] _
  refine Qab (v:=int .i8 x3) rfl rfl rfl (Qac (Qaj (Qan [0,1,2,3,4] rfl ?_)))
  refine Qab (v:=int .u64 a1) rfl rfl rfl ?_
  refine Qab (v:=int .i8 x3) rfl rfl rfl ?_
  show G _ _ _ _ [_,_,_,_,_,_,_,_,_,_,_,_,_,_,_,_,_,_,_,_,_] _
  obtain ⟨g1,H⟩:=ite_get H
  refine Qab (v:=int .u64 (shrI .u64 a1 x3)) rfl rfl (Qda rfl rfl rfl g1) ?_
  refine Qab (v:=int .u64 (bAnd .u64 (shrI .u64 a1 x3) 1)) rfl rfl rfl ?_
  refine QaI (B:=(bAnd .u64 (shrI .u64 a1 x3) 1)==1) rfl rfl rfl ?_ ?_
  ·
   intro hb
   rw [if_pos (b_beq_t hb)] at H
   refine Qac (Qaq rfl (Qan [0,1,2,3,4] rfl ?_))
   refine Qab (v:=string x2) rfl rfl rfl ?_
   refine Qab (v:=int .i8 x3) rfl rfl rfl ?_
   show G _ _ _ _ [_,_,_,_,_,_,_,_,_,_,_,_,_,_,_,_,_,_,_,_,_] _
   obtain ⟨r4,Hr4,H⟩:=bind_get H
   refine Qaz (args:=[int .i8 x3]) rfl rfl (QaA rfl (callFunc_enter Tryz.func92 rfl rfl) rfl) (Qcn.calls (a1:=x3) Hr4) ?_
   rintro _ w ⟨rfl,hs2⟩
   have hs:St _ [] _:=hs.call hs2
   obtain ⟨gs2,H⟩:=ite_get H
   refine Qab (v:=string (x2++r4)) rfl rfl (Qdj rfl rfl rfl gs2) ?_
   refine Qab (v:=string (x2++r4)) rfl rfl rfl ?_
   show G _ _ _ _ [_,_,_,_,_,_,_,_,_,_,_,_,_,_,_,_,_,_,_,_,_] _
   refine Qac ?_
   refine Qa0 ?_
   have hs:St _ [] _:=St.take (Γ':=[]) hs
   exact ha _ _ ⟨x2++r4,H,rfl,hs⟩
  intro hb
  rw [if_neg (b_beq_f hb)] at H
  show G _ _ _ _ [_,_,_,_,_,_,_,_,_,_,_,_,_,_,_,_,_,_,_,_,_] _
  refine Qac (Qas rfl (QaK ?_))
  refine Qa0 ?_
  have hs:St _ [] _:=St.take (Γ':=[]) hs
  exact ha _ _ ⟨x2,H,rfl,hs⟩
 intro hb
 rw [if_neg (b_dec_f hb)] at H
 refine Qac (Qaj (Qas rfl ?_))
 obtain rfl:=QsJ H
 subst Hx1_
 have hs:St _ [] _:=St.take (Γ':=[]) hs
 refine QbE rfl ?_
 exact ha1_ _ _ ⟨x2,Hr1_,rfl,hs⟩
def QbX.post (w0:World) (r:ByteArray) (v:Value) (w:World):Prop:=v=string r∧St w0 [] w
theorem QbX.calls {N:Nat} {a1:Int} {w0:World} {r:ByteArray} (H:QbX.f N a1=some r):
 Calls Tryz.prog 33 #[int .u16 a1] w0 fun e w=>∃ v,e= .returned v∧QbX.post w0 r v w:=by
 unfold QbX.f at H
 have hs:St w0 [] w0:=St.refl w0
 refine calls_of_g (n:=7) Tryz.func33 rfl rfl ?_
 show G _ _ _ _ [_,_,_,_,_,_,_,_] _
 refine Qaj (Qan [0] rfl ?_)
 refine Qab (v:=string (⟨#[]⟩:ByteArray)) rfl rfl rfl (Qac (Qaj (Qaj (Qan [0,1] rfl ?_))))
 refine Qab (v:=int .u16 a1) rfl rfl rfl ?_
 show G _ _ _ _ [_,_,_,_,_,_,_,_] _
 refine QaI (B:=decide (a1≥256)) rfl rfl rfl ?_ ?_
 ·
  intro hb
  rw [if_pos (b_dec_t hb)] at H
  refine Qac (Qaq rfl (Qaj (Qan [0] rfl ?_)))
  refine Qab (v:=string (⟨#[]⟩:ByteArray)) rfl rfl rfl (Qac ?_)
  obtain rfl:=QsJ H
  refine QaB Tryz.func33 (v:=string (⟨#[]⟩:ByteArray)) (res1 rfl rfl) ?_
  have hs:St _ [] _:=St.take (Γ':=[]) hs
  exact ⟨_,rfl,rfl,hs⟩
 intro hb
 rw [if_neg (b_dec_f hb)] at H
 refine Qac (Qas rfl (QaK (Qaj (Qan [0,1,2,3] rfl ?_))))
 refine Qab (v:=int .u16 a1) rfl rfl rfl ?_
 refine Qab (v:=int .u64 (u64w a1)) rfl rfl rfl ?_
 show G _ _ _ _ [_,_,_,_,_,_,_,_] _
 obtain ⟨r2,Hr2,H⟩:=bind_get H
 refine Qaz (args:=[int .u64 (u64w a1)]) rfl rfl (QaA rfl (callFunc_enter Tryz.func68 rfl rfl) rfl) (Qbh.calls (a1:=u64w a1) Hr2) ?_
 rintro _ w ⟨rfl,hs2⟩
 have hs:St _ [] _:=hs.call hs2
 refine Qab (v:=string r2) rfl rfl rfl (Qac ?_)
 obtain rfl:=QsJ H
 refine QaB Tryz.func33 (v:=string r2) (res1 rfl rfl) ?_
 have hs:St _ [] _:=St.take (Γ':=[]) hs
 exact ⟨_,rfl,rfl,hs⟩
def strings_Join.post (w0:World) (r:ByteArray) (v:Value) (w:World):Prop:=v=string r∧St w0 [] w
theorem strings_Join.calls {N:Nat} {a1:List ByteArray} {a2:ByteArray} {v:Value} {w0:World} {r:ByteArray} (h:Rd0 w0 v a1) (H:strings_Join.f N a1 a2=some r):
 Calls Tryz.prog 34 #[v, .string a2] w0 fun e w=>∃ v,e= .returned v∧strings_Join.post w0 r v w:=by
 obtain ⟨hg,H⟩:=ite_get H
 obtain rfl:=QsJ H
 rcases h with ⟨rfl,rfl⟩|⟨b,cap,rfl,hlt,hcap,hcells⟩
 ·exact (Tryz.strings_Join_none none 0 a2 w0).mono fun e w ⟨he,hw⟩=>⟨_,he,rfl,by rw [hw];exact St.refl _⟩
 ·exact (Tryz.strings_Join b 0 cap a1 a2 w0 hcells hlt hg.1 hcap hg.2).mono fun e w ⟨he,hw⟩=>⟨_,he,rfl,St.of_below hw⟩
def Qbj.post (w0:World) (r:ByteArray) (v:Value) (w:World):Prop:=v=string r∧St w0 [] w
theorem Qbj.calls {N : Nat} {a1 : Qaf} {v2 : Value} {w0 : World} {r : ByteArray} (htab : Lib.TabIs Tryz.prog w0 "internal/strconv.uint64pow10" .u64 Lib.pow10Tab) (hr3 : RdRow (K.int .u16) w0 v2 a1.Qal) (H : Qbj.f N a1 = some r) :
 Calls Tryz.prog 7 #[agg (([int .i8 a1.Qad,int .i8 a1.Qag,v2]:List Value)).toArray] w0 fun e w=>∃ v,e= .returned v∧Qbj.post w0 r v w:=by
 unfold Qbj.f at H
 have hs:St w0 [] w0:=St.refl w0
 refine calls_of_g (n:=32) Tryz.func7 rfl rfl ?_
 show G _ _ _ _ [_,_,_,_,_,_,_,_,_,_,_,_,_,_,_,_,_,_,_,_,_,_,_,_,_,_,_,_,_,_,_,_,_] _
 refine Qaj (Qan [0,1] rfl ?_)
 refine Qbw hs rfl rfl (cs:=(([int .i8 a1.Qad,int .i8 a1.Qag,v2]:List Value))) rfl rfl ?_
 intro b4 w hs
 refine Qab (v:=string (⟨#[]⟩:ByteArray)) rfl rfl rfl (Qac (Qaj (Qaj (Qan [0,1,2] rfl ?_))))
 refine QaF rfl rfl (es:=(([int .i8 a1.Qad,int .i8 a1.Qag,v2]:List Value))) rfl rfl (fun _=>rfl) (n:=3) (fun _=>rfl) rfl (cells_all (hs.cells 0 rfl)) ?_
 show G _ _ _ _ [_,_,_,_,_,_,_,_,_,_,_,_,_,_,_,_,_,_,_,_,_,_,_,_,_,_,_,_,_,_,_,_,_] _
 obtain ⟨r6,Hr6,H⟩:=bind_get H
 refine Qaz (args:=[agg (([int .i8 a1.Qad,int .i8 a1.Qag,v2]:List Value)).toArray]) rfl rfl (QaA rfl (callFunc_enter Tryz.func17 rfl rfl) rfl) (QaX.calls (a1:=(⟨a1.Qad,a1.Qag,a1.Qal⟩:Qaf)) (hs.rd hr3) Hr6) ?_
 rintro _ w ⟨rfl,hs2⟩
 have hs:St _ [_] _:=hs.call hs2
 cases r6 with
 |true=>
  rw [if_pos rfl] at H
  refine Qab (v:=bool false) rfl rfl rfl ?_
  show G _ _ _ _ [_,_,_,_,_,_,_,_,_,_,_,_,_,_,_,_,_,_,_,_,_,_,_,_,_,_,_,_,_,_,_,_,_] _
  refine Qac (Qas rfl (QaK (Qaj ?_)))
  obtain ⟨r7,Hr7,H⟩:=bind_get H
  obtain ⟨r8,Hr8,H⟩:=bind_get H
  refine QaV ?_
  intro T hT
  refine QbZ (n:=10) rfl [0,1,2,3,4,5,6,7,8,9] [0,1,2,3,4,5,6,7,8,9] rfl rfl (Inv:=fun D t w=>∃ b9:Nat,∃ b10:Nat,∃ O:Nat→Value,t=[agg (([int .i8 a1.Qad,int .i8 a1.Qag,v2]:List Value)).toArray,pointer (some ⟨b4,0,none⟩),string (⟨#[]⟩:ByteArray),cnd (D 9) (slice (some ⟨b9,0,none⟩) ([r7,r8]:List ByteArray).length b10) (O 3),O 4,O 5,agg (([int .i8 a1.Qad,int .i8 a1.Qag,v2]:List Value)).toArray,bool true,bool false,cnd (D 0) (pointer (some ⟨b4,0,none⟩)) (O 9),cnd (D 1) (int .i8 a1.Qad) (O 10),cnd (D 2) (int .i64 (i64w a1.Qad)) (O 11),cnd (D 3) (string r7) (O 12),cnd (D 4) (pointer (some ⟨b4,1,none⟩)) (O 13),cnd (D 5) (int .i8 a1.Qag) (O 14),cnd (D 6) (int .i64 (i64w a1.Qag)) (O 15),cnd (D 7) (string r8) (O 16),cnd (D 8) (slice (some ⟨b9,0,none⟩) ([r7,r8]:List ByteArray).length b10) (O 17),O 18,O 19,O 20,O 21,O 22,O 23,O 24,O 25,O 26,O 27,O 28,O 29,O 30,O 31,O 32]∧St w0 [Asc (D 8) (Row 9 K.str (slice (some ⟨b9,0,none⟩) ([r7,r8]:List ByteArray).length b10) ([r7,r8]:List ByteArray)),Cells b4 (([int .i8 a1.Qad,int .i8 a1.Qag,v2]:List Value)) 27] w) ?_ ⟨⟨⟨⟨⟨⟨⟨⟨⟨⟨trivial,?_⟩,?_⟩,?_⟩,?_⟩,?_⟩,?_⟩,?_⟩,?_⟩,?_⟩,?_⟩ ?_
  ·
   intro w hh hbw
   have hs:=hs.samew hh hbw
   have hs:=hs.emp
   exact ⟨0,0,fun i=>T.getD i undef,(by subst hT;rfl),hs⟩
  ·
   rintro D t w hD hp hcl ⟨b9,b10,O,ht,hs⟩ rest hk
   have q1_:=nz hcl 1 0 hD
   have q2_:=nz hcl 2 0 q1_
   have q3_:=nz hcl 3 0 q2_
   have q7_:=nz hcl 7 1 q3_
   have q8_:=nz hcl 8 0 q3_
   have q9_:=nz hcl 9 0 q8_
   simp only [hD,q1_,q2_,q3_,q7_,q8_,q9_,cq,oT] at ht hs
   subst ht
   refine Qab (v:=pointer (some ⟨b4,0,none⟩)) rfl rfl rfl ?_
   show G _ _ _ _ [_,_,_,_,_,_,_,_,_,_,_,_,_,_,_,_,_,_,_,_,_,_,_,_,_,_,_,_,_,_,_,_,_] _
   refine hk _ _ ⟨b9,b10,O,?_,hs.cast ?_⟩<;>simp only [oT,lq,cq,Nat.reduceBEq,q1_,q2_,q3_,q7_,q8_,q9_]
  ·
   rintro D t w hD hp hcl ⟨b9,b10,O,ht,hs⟩ rest hk
   obtain ⟨p0_,_⟩:=hp
   have q2_:=nz hcl 2 0 hD
   have q3_:=nz hcl 3 0 q2_
   have q7_:=nz hcl 7 1 q3_
   have q8_:=nz hcl 8 0 q3_
   have q9_:=nz hcl 9 0 q8_
   simp only [hD,p0_,q2_,q3_,q7_,q8_,q9_,cq,oT] at ht hs
   subst ht
   refine Qaw rfl rfl (v:=int .i8 a1.Qad) rfl rfl (fun _=>rfl) (cells_load (hs.cells 1 rfl) 0 1 rfl) ?_
   show G _ _ _ _ [_,_,_,_,_,_,_,_,_,_,_,_,_,_,_,_,_,_,_,_,_,_,_,_,_,_,_,_,_,_,_,_,_] _
   refine hk _ _ ⟨b9,b10,O,?_,hs.cast ?_⟩<;>simp only [oT,lq,cq,Nat.reduceBEq,p0_,q2_,q3_,q7_,q8_,q9_]
  ·
   rintro D t w hD hp hcl ⟨b9,b10,O,ht,hs⟩ rest hk
   obtain ⟨p1_,_⟩:=hp
   obtain ⟨p0_,_⟩:=(hcl.get 1 (by decide)) p1_
   have q3_:=nz hcl 3 0 hD
   have q7_:=nz hcl 7 1 q3_
   have q8_:=nz hcl 8 0 q3_
   have q9_:=nz hcl 9 0 q8_
   simp only [hD,p0_,p1_,q3_,q7_,q8_,q9_,cq,oT] at ht hs
   subst ht
   refine Qab (v:=int .i64 (i64w a1.Qad)) rfl rfl rfl ?_
   show G _ _ _ _ [_,_,_,_,_,_,_,_,_,_,_,_,_,_,_,_,_,_,_,_,_,_,_,_,_,_,_,_,_,_,_,_,_] _
   refine hk _ _ ⟨b9,b10,O,?_,hs.cast ?_⟩<;>simp only [oT,lq,cq,Nat.reduceBEq,p0_,p1_,q3_,q7_,q8_,q9_]
  ·
   rintro D t w hD hp hcl ⟨b9,b10,O,ht,hs⟩ rest hk
   obtain ⟨p2_,_⟩:=hp
   obtain ⟨p1_,_⟩:=(hcl.get 2 (by decide)) p2_
   obtain ⟨p0_,_⟩:=(hcl.get 1 (by decide)) p1_
   have q7_:=nz hcl 7 1 hD
   have q8_:=nz hcl 8 0 hD
   have q9_:=nz hcl 9 0 q8_
   simp only [hD,p0_,p1_,p2_,q7_,q8_,q9_,cq,oT] at ht hs
   subst ht
   refine Qaz (args:=[int .i64 (i64w a1.Qad)]) rfl rfl (QaA rfl (callFunc_enter Tryz.func32 rfl rfl) rfl) (QbL.calls (a1:=i64w a1.Qad) (hs.tab htab) Hr7) ?_
   rintro _ w ⟨rfl,hs2⟩
   have hs:St _ [_,_] _:=hs.call hs2
   show G _ _ _ _ [_,_,_,_,_,_,_,_,_,_,_,_,_,_,_,_,_,_,_,_,_,_,_,_,_,_,_,_,_,_,_,_,_] _
   refine hk _ _ ⟨b9,b10,O,?_,hs.cast ?_⟩<;>simp only [oT,lq,cq,Nat.reduceBEq,p0_,p1_,p2_,q7_,q8_,q9_]
  ·
   rintro D t w hD hp hcl ⟨b9,b10,O,ht,hs⟩ rest hk
   have q5_:=nz hcl 5 0 hD
   have q6_:=nz hcl 6 0 q5_
   have q7_:=nz hcl 7 0 q6_
   have q8_:=nz hcl 8 1 q7_
   have q9_:=nz hcl 9 0 q8_
   simp only [hD,q5_,q6_,q7_,q8_,q9_,cq,oT] at ht hs
   subst ht
   refine Qab (v:=pointer (some ⟨b4,1,none⟩)) rfl rfl rfl ?_
   show G _ _ _ _ [_,_,_,_,_,_,_,_,_,_,_,_,_,_,_,_,_,_,_,_,_,_,_,_,_,_,_,_,_,_,_,_,_] _
   refine hk _ _ ⟨b9,b10,O,?_,hs.cast ?_⟩<;>simp only [oT,lq,cq,Nat.reduceBEq,q5_,q6_,q7_,q8_,q9_]
  ·
   rintro D t w hD hp hcl ⟨b9,b10,O,ht,hs⟩ rest hk
   obtain ⟨p4_,_⟩:=hp
   have q6_:=nz hcl 6 0 hD
   have q7_:=nz hcl 7 0 q6_
   have q8_:=nz hcl 8 1 q7_
   have q9_:=nz hcl 9 0 q8_
   simp only [hD,p4_,q6_,q7_,q8_,q9_,cq,oT] at ht hs
   subst ht
   refine Qaw rfl rfl (v:=int .i8 a1.Qag) rfl rfl (fun _=>rfl) (cells_load (hs.cells 1 rfl) 1 1 rfl) ?_
   show G _ _ _ _ [_,_,_,_,_,_,_,_,_,_,_,_,_,_,_,_,_,_,_,_,_,_,_,_,_,_,_,_,_,_,_,_,_] _
   refine hk _ _ ⟨b9,b10,O,?_,hs.cast ?_⟩<;>simp only [oT,lq,cq,Nat.reduceBEq,p4_,q6_,q7_,q8_,q9_]
  ·
   rintro D t w hD hp hcl ⟨b9,b10,O,ht,hs⟩ rest hk
   obtain ⟨p5_,_⟩:=hp
   obtain ⟨p4_,_⟩:=(hcl.get 5 (by decide)) p5_
   have q7_:=nz hcl 7 0 hD
   have q8_:=nz hcl 8 1 q7_
   have q9_:=nz hcl 9 0 q8_
   simp only [hD,p4_,p5_,q7_,q8_,q9_,cq,oT] at ht hs
   subst ht
   refine Qab (v:=int .i64 (i64w a1.Qag)) rfl rfl rfl ?_
   show G _ _ _ _ [_,_,_,_,_,_,_,_,_,_,_,_,_,_,_,_,_,_,_,_,_,_,_,_,_,_,_,_,_,_,_,_,_] _
   refine hk _ _ ⟨b9,b10,O,?_,hs.cast ?_⟩<;>simp only [oT,lq,cq,Nat.reduceBEq,p4_,p5_,q7_,q8_,q9_]
  ·
   rintro D t w hD hp hcl ⟨b9,b10,O,ht,hs⟩ rest hk
   obtain ⟨p6_,p3_,_⟩:=hp
   obtain ⟨p5_,_⟩:=(hcl.get 6 (by decide)) p6_
   obtain ⟨p4_,_⟩:=(hcl.get 5 (by decide)) p5_
   obtain ⟨p2_,_⟩:=(hcl.get 3 (by decide)) p3_
   obtain ⟨p1_,_⟩:=(hcl.get 2 (by decide)) p2_
   obtain ⟨p0_,_⟩:=(hcl.get 1 (by decide)) p1_
   have q8_:=nz hcl 8 1 hD
   have q9_:=nz hcl 9 0 q8_
   simp only [hD,p0_,p1_,p2_,p3_,p4_,p5_,p6_,q8_,q9_,cq,oT] at ht hs
   subst ht
   refine Qaz (args:=[int .i64 (i64w a1.Qag)]) rfl rfl (QaA rfl (callFunc_enter Tryz.func32 rfl rfl) rfl) (QbL.calls (a1:=i64w a1.Qag) (hs.tab htab) Hr8) ?_
   rintro _ w ⟨rfl,hs2⟩
   have hs:St _ [_,_] _:=hs.call hs2
   show G _ _ _ _ [_,_,_,_,_,_,_,_,_,_,_,_,_,_,_,_,_,_,_,_,_,_,_,_,_,_,_,_,_,_,_,_,_] _
   refine hk _ _ ⟨b9,b10,O,?_,hs.cast ?_⟩<;>simp only [oT,lq,cq,Nat.reduceBEq,p0_,p1_,p2_,p3_,p4_,p5_,p6_,q8_,q9_]
  ·
   rintro D t w hD hp hcl ⟨b9,b10,O,ht,hs⟩ rest hk
   obtain ⟨p3_,p7_,_⟩:=hp
   obtain ⟨p6_,_,_⟩:=(hcl.get 7 (by decide)) p7_
   obtain ⟨p5_,_⟩:=(hcl.get 6 (by decide)) p6_
   obtain ⟨p4_,_⟩:=(hcl.get 5 (by decide)) p5_
   obtain ⟨p2_,_⟩:=(hcl.get 3 (by decide)) p3_
   obtain ⟨p1_,_⟩:=(hcl.get 2 (by decide)) p2_
   obtain ⟨p0_,_⟩:=(hcl.get 1 (by decide)) p1_
   have q9_:=nz hcl 9 0 hD
   simp only [hD,p0_,p1_,p2_,p3_,p4_,p5_,p6_,p7_,q9_,cq,oT] at ht hs
   subst ht
   refine Qdg fkS string (fun _=>rfl) rfl (ys:=([r7,r8]:List ByteArray)) rfl hs rfl rfl rfl rfl (fun _=>rfl) (zv:=(string ⟨#[]⟩)) (zc:=(string ⟨#[]⟩)) (fun _=>rfl) rfl (by simp) (by simp) rfl ?_
   intro vq_ w hs
   obtain ⟨b9,b10,rfl⟩:=own_addr hs (by simp)
   show G _ _ _ _ [_,_,_,_,_,_,_,_,_,_,_,_,_,_,_,_,_,_,_,_,_,_,_,_,_,_,_,_,_,_,_,_,_] _
   have hs:=hs.fill 0 rfl
   refine hk _ _ ⟨b9,b10,O,?_,hs.cast ?_⟩<;>simp only [oT,lq,cq,Nat.reduceBEq,p0_,p1_,p2_,p3_,p4_,p5_,p6_,p7_,q9_]
  ·
   rintro D t w hD hp hcl ⟨b9,b10,O,ht,hs⟩ rest hk
   obtain ⟨p8_,p7_,p0_,p1_,p2_,p3_,p4_,p5_,p6_,_,_,_⟩:=hp
   simp only [hD,p0_,p1_,p2_,p3_,p4_,p5_,p6_,p7_,p8_,cq,oT] at ht hs
   subst ht
   refine Qab (v:=(slice (some ⟨b9,0,none⟩) ([r7,r8]:List ByteArray).length b10)) rfl rfl rfl ?_
   show G _ _ _ _ [_,_,_,_,_,_,_,_,_,_,_,_,_,_,_,_,_,_,_,_,_,_,_,_,_,_,_,_,_,_,_,_,_] _
   refine hk _ _ ⟨b9,b10,O,?_,hs.cast ?_⟩<;>simp only [oT,lq,cq,Nat.reduceBEq,p0_,p1_,p2_,p3_,p4_,p5_,p6_,p7_,p8_]
  intro D t w hall hI
  obtain ⟨b9,b10,O,ht,hs⟩:=hI
  have p0_:=hall 0 (by decide)
  have p1_:=hall 1 (by decide)
  have p2_:=hall 2 (by decide)
  have p3_:=hall 3 (by decide)
  have p4_:=hall 4 (by decide)
  have p5_:=hall 5 (by decide)
  have p6_:=hall 6 (by decide)
  have p7_:=hall 7 (by decide)
  have p8_:=hall 8 (by decide)
  have p9_:=hall 9 (by decide)
  simp only [p0_,p1_,p2_,p3_,p4_,p5_,p6_,p7_,p8_,p9_,cq,oT] at ht hs
  subst ht
  refine Qaj (Qaj (Qan [0,1,2,3] rfl ?_))
  refine Qab (v:=pointer (some ⟨b4,2,none⟩)) rfl rfl rfl ?_
  refine Qaw rfl rfl (v:=v2) rfl rfl (fun _=>rfl) (cells_load (hs.cells 1 rfl) 2 1 rfl) ?_
  refine QbC (hs.rd hr3) rfl rfl rfl rfl rfl ?_
  refine Qab (v:=int .i64 0) rfl rfl rfl (Qac ?_)
  obtain ⟨o1_,Ho,Hr1_⟩:=bind_get H
  refine QaR (J:=fun t w=>∃ v23:Value,∃ x24:(List ByteArray),Qbj.a0 N x24=some r∧Fr t (fun O=>([O 0,O 1,O 2,v23,O 4,O 5,O 6,O 7,O 8,O 9,O 10,O 11,O 12,O 13,O 14,O 15,O 16,O 17,O 18,O 19,O 20,O 21,O 22,O 23,O 24,O 25,O 26,O 27,O 28,O 29,O 30,O 31,O 32]:List Value))∧St w0 [Row 9 K.str v23 x24] w) ?_ ?_
  ·
   rintro t w ⟨v23,x24,H,hf,hs⟩
   obtain ⟨O,rfl⟩:=hf.open
   show G _ _ _ _ [_,_,_,_,_,_,_,_,_,_,_,_,_,_,_,_,_,_,_,_,_,_,_,_,_,_,_,_,_,_,_,_,_] _
   unfold Qbj.a0 at H
   refine Qaj (Qan [0,1,2] rfl ?_)
   refine Qab (v:=v23) rfl rfl rfl ?_
   obtain ⟨r26,Hr26,H⟩:=bind_get H
   refine Qaz (args:=[v23,string (⟨#[32]⟩:ByteArray)]) rfl rfl (QaA rfl (callFunc_enter Tryz.func34 rfl rfl) rfl) (strings_Join.calls (a1:=x24) (a2:=(⟨#[32]⟩:ByteArray)) (hs.row0 0 rfl) Hr26) ?_
   rintro _ w ⟨rfl,hs2⟩
   have hs:St _ [_] _:=hs.call hs2
   refine Qab (v:=string r26) rfl rfl rfl (Qac ?_)
   obtain rfl:=QsJ H
   refine QaB Tryz.func7 (v:=string r26) (res1 rfl rfl) ?_
   have hs:St _ [] _:=St.take (Γ':=[_]) hs
   exact ⟨_,rfl,rfl,hs⟩
  intro ha1_
  have hs:=hs.pull 0 rfl
  have hs:St _ [_] _:=St.take (Γ':=[_]) hs
  refine Qba (I:=fun n_ t w=>∃ v14:Value,∃ x15:(List ByteArray),∃ x16:Int,rounds (fun s=>Qbj.b0 N a1 s.1 s.2) n_ (x15,x16)=some o1_∧Fr t (fun O=>([O 0,O 1,O 2,v14,O 4,O 5,O 6,O 7,O 8,O 9,O 10,O 11,O 12,O 13,O 14,O 15,O 16,O 17,O 18,v2,int .i64 (a1.Qal.length:Int),int .i64 x16,O 22,O 23,O 24,O 25,O 26,O 27,O 28,O 29,O 30,O 31,O 32]:List Value))∧St w0 [Row 9 K.str v14 x15] w) N ⟨(slice (some ⟨b9,0,none⟩) ([r7,r8]:List ByteArray).length b10),([r7,r8]:List ByteArray),0,Ho,rfl,hs⟩ ?_ ?_
  ·
   rintro _ _ ⟨v14,x15,x16,h,_⟩
   exact rounds_zero h
  intro n_ ih1_
  rintro t w ⟨v14,x15,x16,Ho,hf,hs⟩
  obtain ⟨O,rfl⟩:=hf.open
  show G _ _ _ _ [_,_,_,_,_,_,_,_,_,_,_,_,_,_,_,_,_,_,_,_,_,_,_,_,_,_,_,_,_,_,_,_,_] _
  obtain ⟨x2_,H,Hx1_⟩:=rounds_succ Ho
  have H:Qbj.b0 N a1 x15 x16=some x2_:=H
  unfold Qbj.b0 at H
  refine Qaj (Qan [0] rfl ?_)
  refine QaI (B:=decide (x16< (a1.Qal.length:Int))) rfl rfl rfl ?_ ?_
  ·
   intro hb
   rw [if_pos (b_dec_t hb)] at H
   refine Qac (Qaj (Qaq rfl (QaK (Qaj ?_))))
   refine QbG (Qaj (Qan [0,1,2] rfl ?_))
   obtain ⟨g1,H⟩:=ite_get H
   refine QbQ (fkI .u16) 0 (hs.rd hr3) rfl (fun _=>rfl) g1.1 g1.2 rfl rfl rfl rfl rfl ?_
   intro p17 hp17 lp17 op17
   refine Qaw rfl rfl (v:=int .u16 (rdL a1.Qal x16 0)) rfl rfl (fun _=>rfl) hp17 ?_
   show G _ _ _ _ [_,_,_,_,_,_,_,_,_,_,_,_,_,_,_,_,_,_,_,_,_,_,_,_,_,_,_,_,_,_,_,_,_] _
   refine Qab (v:=int .u16 (rdL a1.Qal x16 0)) rfl rfl rfl (Qac (Qan [0,1,2,3,4,5] rfl ?_))
   refine Qab (v:=v14) rfl rfl rfl ?_
   refine Qab (v:=int .u16 (rdL a1.Qal x16 0)) rfl rfl rfl ?_
   obtain ⟨r18,Hr18,H⟩:=bind_get H
   refine Qaz (args:=[int .u16 (rdL a1.Qal x16 0)]) rfl rfl (QaA rfl (callFunc_enter Tryz.func33 rfl rfl) rfl) (QbX.calls (a1:=rdL a1.Qal x16 0) Hr18) ?_
   rintro _ w ⟨rfl,hs2⟩
   have hs:St _ [_] _:=hs.call hs2
   show G _ _ _ _ [_,_,_,_,_,_,_,_,_,_,_,_,_,_,_,_,_,_,_,_,_,_,_,_,_,_,_,_,_,_,_,_,_] _
   refine Qcq fkS (y:=r18) hs rfl rfl rfl rfl (fun _=>rfl) (zv:=(string ⟨#[]⟩)) (fun _=>rfl) rfl (by decide) (by decide) rfl ?_
   intro v19 w hs
   show G _ _ _ _ [_,_,_,_,_,_,_,_,_,_,_,_,_,_,_,_,_,_,_,_,_,_,_,_,_,_,_,_,_,_,_,_,_] _
   have hs:St _ [_,_] _:=hs.pull 1 rfl
   obtain ⟨g,H⟩:=ite_get H
   refine Qcr fkS (zv:=(string ⟨#[]⟩)) (B:=16) hs (hs.row 1 rfl) rfl rfl rfl rfl rfl rfl rfl rfl rfl (by decide) rfl rfl (by decide) (by omega) ?_
   intro v21 w hs
   refine Qab (v:=v21) rfl rfl rfl (Qac ?_)
   refine Qa0 (Qan [0,1] rfl ?_)
   refine Qab (v:=int .i64 (i64w (x16+1))) rfl rfl rfl ?_
   show G _ _ _ _ [_,_,_,_,_,_,_,_,_,_,_,_,_,_,_,_,_,_,_,_,_,_,_,_,_,_,_,_,_,_,_,_,_] _
   refine Qab (v:=int .i64 (i64w (x16+1))) rfl rfl rfl (Qac ?_)
   obtain rfl:=QsJ H
   have hs:=hs.pull 0 rfl
   have hs:St _ [_] _:=St.take (Γ':=[_]) hs
   exact ih1_ _ _ ⟨v21,x15++([r18]),i64w (x16+1),Hx1_,rfl,hs⟩
  intro hb
  rw [if_neg (b_dec_f hb)] at H
  show G _ _ _ _ [_,_,_,_,_,_,_,_,_,_,_,_,_,_,_,_,_,_,_,_,_,_,_,_,_,_,_,_,_,_,_,_,_] _
  refine Qac (Qaj (Qas rfl ?_))
  obtain rfl:=QsJ H
  subst Hx1_
  have hs:=hs.pull 0 rfl
  have hs:St _ [_] _:=St.take (Γ':=[]) hs
  refine QbE rfl ?_
  exact ha1_ _ _ ⟨v14,x15,Hr1_,rfl,hs⟩
 |false=>
  rw [if_neg Bool.false_ne_true] at H
  refine Qab (v:=bool true) rfl rfl rfl (Qac (Qaq rfl (Qaj (Qan [0] rfl ?_))))
  refine Qab (v:=string (⟨#[]⟩:ByteArray)) rfl rfl rfl ?_
  show G _ _ _ _ [_,_,_,_,_,_,_,_,_,_,_,_,_,_,_,_,_,_,_,_,_,_,_,_,_,_,_,_,_,_,_,_,_] _
  refine Qac ?_
  obtain rfl:=QsJ H
  refine QaB Tryz.func7 (v:=string (⟨#[]⟩:ByteArray)) (res1 rfl rfl) ?_
  have hs:St _ [] _:=St.take (Γ':=[_]) hs
  exact ⟨_,rfl,rfl,hs⟩
def strings_Split.post (w0:World) (r:(List ByteArray)) (v:Value) (w:World):Prop:=St w0 [Row 9 K.str v r] w
theorem strings_Split.calls {N:Nat} {a1 a2:ByteArray} {w0:World} {r:(List ByteArray)} (hmax:CellI w0 0) (H:strings_Split.f N a1 a2=some r):
 Calls Tryz.prog 29 #[.string a1, .string a2] w0 fun e w=>∃ v,e= .returned v∧strings_Split.post w0 r v w:=by
 obtain ⟨hg,H⟩:=ite_get H
 obtain rfl:=QsJ H
 obtain ⟨m,hm⟩:=hmax
 exact (Tryz.strings_Split a1 a2 m w0 hg.1 hm hg.2).mono fun e w ⟨he,hw⟩=>⟨_,he,split_row (Lib.splitB_all a2 hg.2 0 _ a1 rfl) (by have:=Lib.countB_le a2 hg.2 a1.size a1 (Nat.le_refl _);omega) hw⟩
def strconv_ParseInt.post (w0:World) (r:(Int×Bool)) (v:Value) (w:World):Prop:=∃ u1:Value,v=tuple #[int .i64 r.1,u1]∧ErrIs u1 r.2∧St w0 [] w
theorem strconv_ParseInt.calls {N:Nat} {a1:ByteArray} {a2 a3:Int} {w0:World} {r:(Int×Bool)} (hsyn:CellE w0 1) (hrng:CellE w0 2) (H:strconv_ParseInt.f N a1 a2 a3=some r):
 Calls Tryz.prog 65 #[.string a1, .int .i64 a2, .int .i64 a3] w0 fun e w=>∃ v,e= .returned v∧strconv_ParseInt.post w0 r v w:=by
 obtain ⟨⟨hg,e2,e3⟩,H2⟩:=ite_get H
 subst e2 e3
 obtain rfl:=QsJ H2
 unfold strconv_ParseInt.post parsed
 have h9:a1.size≤9223372036854775806:=by omega
 cases hp:Lib.parseIntB 64 a1.data.toList with
 |ok v=>exact (Tryz.strconv_ParseInt_10_at64_ok a1 h9 _ hp w0).mono fun e w ⟨he,hw⟩=>⟨_,he,_,rfl, .inl ⟨rfl,rfl⟩,St.of_bytes hw⟩
 |range=>
  obtain ⟨ev,h1,h2⟩:=hrng
  exact (Tryz.strconv_ParseInt_10_at64_range a1 hg hp ev w0 h1 h2).mono fun e w ⟨n,he,_,_,hb⟩=>⟨_,he,_,rfl, .inr ⟨rfl,_,_,rfl⟩,St.of_below hb⟩
 |_=>
  obtain ⟨ev,h1,h2⟩:=hsyn
  exact (Tryz.Qcw a1 hg (by rw [hp];intro v g;cases g) (by rw [hp];intro g;cases g) ev w0 h1 h2).mono fun e w ⟨n,he,_,_,hb⟩=>⟨_,he,_,rfl, .inr ⟨rfl,_,_,rfl⟩,St.of_below hb⟩
def Qb6.post (w0:World) (r:(Int×Bool)) (v:Value) (w:World):Prop:=v=tuple #[int .i64 r.1,bool r.2]∧St w0 [] w
theorem Qb6.calls {N : Nat} {a1 : ByteArray} {a2 : Int} {w0 : World} {r : (Int × Bool)} (htab : Lib.TabIs Tryz.prog w0 "internal/strconv.uint64pow10" .u64 Lib.pow10Tab) (hsyn : CellE w0 1) (hrng : CellE w0 2) (H : Qb6.f N a1 a2 = some r) :
 Calls Tryz.prog 30 #[string a1,int .i64 a2] w0 fun e w=>∃ v,e= .returned v∧Qb6.post w0 r v w:=by
 unfold Qb6.f at H
 have hs:St w0 [] w0:=St.refl w0
 refine calls_of_g (n:=26) Tryz.func30 rfl rfl ?_
 show G _ _ _ _ [_,_,_,_,_,_,_,_,_,_,_,_,_,_,_,_,_,_,_,_,_,_,_,_,_,_,_,_] _
 refine Qaj (Qan [0,1] rfl ?_)
 refine Qab (v:=int .i64 0) rfl rfl rfl ?_
 refine Qab (v:=bool false) rfl rfl rfl (Qac (Qaj (Qan [0,1,2,3,4,5,6] rfl ?_)))
 refine Qab (v:=string a1) rfl rfl rfl ?_
 obtain ⟨r3,Hr3,H⟩:=bind_get H
 refine Qaz (args:=[string a1,int .i64 10,int .i64 64]) rfl rfl (QaA rfl (callFunc_enter Tryz.func65 rfl rfl) rfl) (strconv_ParseInt.calls (a1:=a1) (a2:=10) (a3:=64) (hs.cellE hsyn) (hs.cellE hrng) Hr3) ?_
 rintro _ w ⟨v4,rfl,hEv4,hs2⟩
 have hs:St _ [] _:=hs.call hs2
 show G _ _ _ _ [_,_,_,_,_,_,_,_,_,_,_,_,_,_,_,_,_,_,_,_,_,_,_,_,_,_,_,_] _
 refine Qab (v:=tuple #[int .i64 r3.1,v4]) rfl rfl rfl ?_
 refine Qab (v:=int .i64 r3.1) rfl rfl rfl ?_
 refine Qab (v:=v4) rfl rfl rfl ?_
 refine Qab (v:=int .i64 r3.1) rfl rfl rfl ?_
 refine Qab (v:=v4) rfl rfl rfl (Qac (Qaj (Qaj (Qan [0,1,2,3,4,5,6,7,8,9,10,11,12,13] rfl ?_))))
 refine Qab (v:=v4) rfl rfl rfl ?_
 refine QaI (B:=r3.2) rfl rfl (Qdd rfl (by kernel_rfl) rfl hEv4) ?_ ?_
 ·
  intro hb
  rw [if_pos (b_var_t hb)] at H
  refine Qab (v:=bool true) rfl rfl rfl (Qae rfl rfl (Qae rfl rfl (Qae rfl rfl (Qae rfl rfl ?_))))
  show G _ _ _ _ [_,_,_,_,_,_,_,_,_,_,_,_,_,_,_,_,_,_,_,_,_,_,_,_,_,_,_,_] _
  refine Qab (v:=bool true) rfl rfl rfl ?_
  refine Qab (v:=bool true) rfl rfl rfl (Qae rfl rfl (Qae rfl rfl (Qae rfl rfl (Qae rfl rfl ?_))))
  show G _ _ _ _ [_,_,_,_,_,_,_,_,_,_,_,_,_,_,_,_,_,_,_,_,_,_,_,_,_,_,_,_] _
  refine Qab (v:=bool true) rfl rfl rfl (Qac (Qaq rfl (Qaj (Qan [0,1] rfl ?_))))
  refine Qab (v:=int .i64 0) rfl rfl rfl ?_
  refine Qab (v:=bool false) rfl rfl rfl ?_
  show G _ _ _ _ [_,_,_,_,_,_,_,_,_,_,_,_,_,_,_,_,_,_,_,_,_,_,_,_,_,_,_,_] _
  refine Qac ?_
  obtain rfl:=QsJ H
  refine QaB Tryz.func30 (v:=tuple #[int .i64 0,bool false]) (resN (l:=Tryz.f30.results.toList) (vs:=[int .i64 0,bool false]) rfl ⟨rfl,rfl,trivial⟩ (by simp)) ?_
  have hs:St _ [] _:=St.take (Γ':=[]) hs
  exact ⟨_,rfl,rfl,hs⟩
 intro hb
 rw [if_neg (b_var_f hb)] at H
 show G _ _ _ _ [_,_,_,_,_,_,_,_,_,_,_,_,_,_,_,_,_,_,_,_,_,_,_,_,_,_,_,_] _
 refine Qab (v:=bool false) rfl rfl rfl ?_
 refine Qab (v:=int .i64 r3.1) rfl rfl rfl ?_
 obtain ⟨r5,Hr5,H⟩:=bind_get H
 refine Qaz (args:=[int .i64 r3.1]) rfl rfl (QaA rfl (callFunc_enter Tryz.func32 rfl rfl) rfl) (QbL.calls (a1:=r3.1) (hs.tab htab) Hr5) ?_
 rintro _ w ⟨rfl,hs2⟩
 have hs:St _ [] _:=hs.call hs2
 refine Qab (v:=string a1) rfl rfl rfl ?_
 refine Qab (v:=bool (!(r5.toList==a1.toList))) rfl rfl rfl ?_
 refine QaI (B:=!(r5.toList==a1.toList)) rfl rfl rfl ?_ ?_
 ·
  intro hb
  rw [if_neg (b_nbeq_t hb)] at H
  refine Qab (v:=bool true) rfl rfl rfl (Qae rfl rfl (Qae rfl rfl (Qae rfl rfl (Qae rfl rfl ?_))))
  show G _ _ _ _ [_,_,_,_,_,_,_,_,_,_,_,_,_,_,_,_,_,_,_,_,_,_,_,_,_,_,_,_] _
  refine Qab (v:=bool true) rfl rfl rfl (Qac (Qaq rfl (Qaj (Qan [0,1] rfl ?_))))
  refine Qab (v:=int .i64 0) rfl rfl rfl ?_
  refine Qab (v:=bool false) rfl rfl rfl ?_
  show G _ _ _ _ [_,_,_,_,_,_,_,_,_,_,_,_,_,_,_,_,_,_,_,_,_,_,_,_,_,_,_,_] _
  refine Qac ?_
  obtain rfl:=QsJ H
  refine QaB Tryz.func30 (v:=tuple #[int .i64 0,bool false]) (resN (l:=Tryz.f30.results.toList) (vs:=[int .i64 0,bool false]) rfl ⟨rfl,rfl,trivial⟩ (by simp)) ?_
  have hs:St _ [] _:=St.take (Γ':=[]) hs
  exact ⟨_,rfl,rfl,hs⟩
 intro hb
 rw [if_pos (b_nbeq_f hb)] at H
 show G _ _ _ _ [_,_,_,_,_,_,_,_,_,_,_,_,_,_,_,_,_,_,_,_,_,_,_,_,_,_,_,_] _
 refine Qab (v:=bool false) rfl rfl rfl ?_
 refine Qab (v:=int .i64 r3.1) rfl rfl rfl ?_
 refine Qab (v:=int .i64 a2) rfl rfl rfl ?_
 obtain ⟨r6,Hr6,H⟩:=bind_get H
 refine Qaz (args:=[int .i64 r3.1,int .i64 0,int .i64 a2]) rfl rfl (QaA rfl (callFunc_enter Tryz.func50 rfl rfl) rfl) (QbU.calls (a1:=r3.1) (a2:=0) (a3:=a2) Hr6) ?_
 rintro _ w ⟨rfl,hs2⟩
 have hs:St _ [] _:=hs.call hs2
 cases r6 with
 |true=>
  rw [if_pos rfl] at H
  show G _ _ _ _ [_,_,_,_,_,_,_,_,_,_,_,_,_,_,_,_,_,_,_,_,_,_,_,_,_,_,_,_] _
  refine Qab (v:=bool false) rfl rfl rfl ?_
  refine Qab (v:=bool false) rfl rfl rfl (Qac (Qas rfl (QaK (Qaj (Qan [0,1,2] rfl ?_)))))
  refine Qab (v:=int .i64 r3.1) rfl rfl rfl ?_
  refine Qab (v:=int .i64 r3.1) rfl rfl rfl ?_
  show G _ _ _ _ [_,_,_,_,_,_,_,_,_,_,_,_,_,_,_,_,_,_,_,_,_,_,_,_,_,_,_,_] _
  refine Qab (v:=bool true) rfl rfl rfl (Qac ?_)
  obtain rfl:=QsJ H
  refine QaB Tryz.func30 (v:=tuple #[int .i64 r3.1,bool true]) (resN (l:=Tryz.f30.results.toList) (vs:=[int .i64 r3.1,bool true]) rfl ⟨rfl,rfl,trivial⟩ (by simp)) ?_
  have hs:St _ [] _:=St.take (Γ':=[]) hs
  exact ⟨_,rfl,rfl,hs⟩
 |false=>
  rw [if_neg Bool.false_ne_true] at H
  refine Qab (v:=bool true) rfl rfl rfl ?_
  refine Qab (v:=bool true) rfl rfl rfl ?_
  show G _ _ _ _ [_,_,_,_,_,_,_,_,_,_,_,_,_,_,_,_,_,_,_,_,_,_,_,_,_,_,_,_] _
  refine Qac (Qaq rfl (Qaj (Qan [0,1] rfl ?_)))
  refine Qab (v:=int .i64 0) rfl rfl rfl ?_
  refine Qab (v:=bool false) rfl rfl rfl (Qac ?_)
  obtain rfl:=QsJ H
  refine QaB Tryz.func30 (v:=tuple #[int .i64 0,bool false]) (resN (l:=Tryz.f30.results.toList) (vs:=[int .i64 0,bool false]) rfl ⟨rfl,rfl,trivial⟩ (by simp)) ?_
  have hs:St _ [] _:=St.take (Γ':=[]) hs
  exact ⟨_,rfl,rfl,hs⟩
def Qa4.post (w0:World) (r:(Int×Bool)) (v:Value) (w:World):Prop:=v=tuple #[int .u64 r.1,bool r.2]∧St w0 [] w
theorem Qa4.calls {N:Nat} {a1:ByteArray} {a2:Int} {w0:World} {r:(Int×Bool)} (H:Qa4.f N a1 a2=some r):
 Calls Tryz.prog 66 #[string a1,int .i64 a2] w0 fun e w=>∃ v,e= .returned v∧Qa4.post w0 r v w:=by
 unfold Qa4.f at H
 have hs:St w0 [] w0:=St.refl w0
 refine calls_of_g (n:=34) Tryz.func66 rfl rfl ?_
 show G _ _ _ _ [_,_,_,_,_,_,_,_,_,_,_,_,_,_,_,_,_,_,_,_,_,_,_,_,_,_,_,_,_,_,_,_,_,_,_,_] _
 refine Qaj (Qan [0,1] rfl ?_)
 refine Qab (v:=int .u64 0) rfl rfl rfl ?_
 show G _ _ _ _ [_,_,_,_,_,_,_,_,_,_,_,_,_,_,_,_,_,_,_,_,_,_,_,_,_,_,_,_,_,_,_,_,_,_,_,_] _
 refine Qab (v:=bool false) rfl rfl rfl (Qac (Qaj (Qan [0] rfl ?_)))
 refine Qab (v:=int .u64 0) rfl rfl rfl (Qac (Qaj (Qaj (Qan [0,1,2] rfl ?_))))
 refine Qab (v:=string a1) rfl rfl rfl ?_
 refine Qab (v:=int .i64 (a1.size:Int)) rfl rfl (Qdh rfl rfl rfl) ?_
 show G _ _ _ _ [_,_,_,_,_,_,_,_,_,_,_,_,_,_,_,_,_,_,_,_,_,_,_,_,_,_,_,_,_,_,_,_,_,_,_,_] _
 refine Qab (v:=int .i64 0) rfl rfl rfl (Qac ?_)
 obtain ⟨o1_,Ho,Hr1_⟩:=bind_get H
 refine QaR (J:=fun t w=>∃ x6:Int,Qa4.a0 N a1 x6=some r∧Fr t (fun O=>([string a1,O 1,O 2,O 3,O 4,O 5,int .u64 x6,O 7,O 8,O 9,O 10,O 11,O 12,O 13,O 14,O 15,O 16,O 17,O 18,O 19,O 20,O 21,O 22,O 23,O 24,O 25,O 26,O 27,O 28,O 29,O 30,O 31,O 32,O 33,O 34,O 35]:List Value))∧St w0 [] w) ?_ ?_
 ·
  rintro t w ⟨x6,H,hf,hs⟩
  obtain ⟨O,rfl⟩:=hf.open
  show G _ _ _ _ [_,_,_,_,_,_,_,_,_,_,_,_,_,_,_,_,_,_,_,_,_,_,_,_,_,_,_,_,_,_,_,_,_,_,_,_] _
  unfold Qa4.a0 at H
  refine Qaj (Qan [0,1,2,3,4,5,6] rfl ?_)
  refine Qab (v:=int .u64 x6) rfl rfl rfl ?_
  refine Qab (v:=int .u64 x6) rfl rfl rfl ?_
  obtain ⟨r7,Hr7,H⟩:=bind_get H
  refine Qaz (args:=[int .u64 x6]) rfl rfl (QaA rfl (callFunc_enter Tryz.func68 rfl rfl) rfl) (Qbh.calls (a1:=x6) Hr7) ?_
  rintro _ w ⟨rfl,hs2⟩
  have hs:St _ [] _:=hs.call hs2
  refine Qab (v:=string a1) rfl rfl rfl ?_
  refine Qab (v:=bool (r7.toList==a1.toList)) rfl rfl rfl ?_
  show G _ _ _ _ [_,_,_,_,_,_,_,_,_,_,_,_,_,_,_,_,_,_,_,_,_,_,_,_,_,_,_,_,_,_,_,_,_,_,_,_] _
  refine Qab (v:=int .u64 x6) rfl rfl rfl ?_
  refine Qab (v:=bool (r7.toList==a1.toList)) rfl rfl rfl (Qac ?_)
  obtain rfl:=QsJ H
  refine QaB Tryz.func66 (v:=tuple #[int .u64 x6,bool (r7.toList==a1.toList)]) (resN (l:=Tryz.f66.results.toList) (vs:=[int .u64 x6,bool (r7.toList==a1.toList)]) rfl ⟨rfl,rfl,trivial⟩ (by simp)) ?_
  have hs:St _ [] _:=St.take (Γ':=[]) hs
  exact ⟨_,rfl,rfl,hs⟩
 intro ha1_
 have hs:St _ [] _:=St.take (Γ':=[]) hs
 refine Qba (I:=fun n_ t w=>∃ x3:Int,∃ x4:Int,rounds (fun s=>Qa4.b0 N a1 a2 s.1 s.2) n_ (x3,x4)=some o1_∧Fr t (fun O=>([string a1,int .i64 a2,O 2,O 3,O 4,O 5,int .u64 x3,O 7,O 8,O 9,int .i64 (a1.size:Int),int .i64 x4,O 12,O 13,O 14,O 15,O 16,O 17,O 18,O 19,O 20,O 21,O 22,O 23,O 24,O 25,O 26,O 27,O 28,O 29,O 30,O 31,O 32,O 33,O 34,O 35]:List Value))∧St w0 [] w) N ⟨0,0,Ho,rfl,hs⟩ ?_ ?_
 ·
  rintro _ _ ⟨x3,x4,h,_⟩
  exact rounds_zero h
 intro n_ ih1_
 rintro t w ⟨x3,x4,Ho,hf,hs⟩
 obtain ⟨O,rfl⟩:=hf.open
 show G _ _ _ _ [_,_,_,_,_,_,_,_,_,_,_,_,_,_,_,_,_,_,_,_,_,_,_,_,_,_,_,_,_,_,_,_,_,_,_,_] _
 obtain ⟨x3_,H,Hx1_⟩:=rounds_succ Ho
 have H:Qa4.b0 N a1 a2 x3 x4=some x3_:=H
 unfold Qa4.b0 at H
 refine Qaj (Qan [0] rfl ?_)
 refine QaI (B:=decide (x4< (a1.size:Int))) rfl rfl rfl ?_ ?_
 ·
  intro hb
  rw [if_pos (b_dec_t hb)] at H
  refine Qac (Qaj (Qaq rfl (QaK (Qaj ?_))))
  refine QaR (J:=(fun t w=>∃ x5:Int,Qa4.j2 N x4 x5=some x3_∧Fr t (fun O=>([string a1,int .i64 a2,O 2,O 3,O 4,O 5,int .u64 x5,O 7,O 8,O 9,int .i64 (a1.size:Int),int .i64 x4,O 12,O 13,O 14,O 15,O 16,O 17,O 18,O 19,O 20,O 21,O 22,O 23,O 24,O 25,O 26,O 27,O 28,O 29,O 30,O 31,O 32,O 33,O 34,O 35]:List Value))∧St w0 [] w)) ?_ ?_
  ·
   rintro t w ⟨x5,H,hf,hs⟩
   obtain ⟨O,rfl⟩:=hf.open
   show G _ _ _ _ [_,_,_,_,_,_,_,_,_,_,_,_,_,_,_,_,_,_,_,_,_,_,_,_,_,_,_,_,_,_,_,_,_,_,_,_] _
   unfold Qa4.j2 at H
   refine Qan [0,1] rfl ?_
   refine Qab (v:=int .i64 (i64w (x4+1))) rfl rfl rfl ?_
   refine Qab (v:=int .i64 (i64w (x4+1))) rfl rfl rfl (Qac ?_)
   obtain rfl:=QsJ H
   have hs:St _ [] _:=St.take (Γ':=[]) hs
   exact ih1_ _ _ ⟨x5,i64w (x4+1),Hx1_,rfl,hs⟩
  intro ha
  refine Qaj (Qan [0,1] rfl ?_)
  refine Qab (v:=int .i64 x4) rfl rfl rfl ?_
  refine Qab (v:=int .i64 x4) rfl rfl rfl ?_
  show G _ _ _ _ [_,_,_,_,_,_,_,_,_,_,_,_,_,_,_,_,_,_,_,_,_,_,_,_,_,_,_,_,_,_,_,_,_,_,_,_] _
  refine Qac (Qaj (Qan [0,1,2,3,4,5] rfl ?_))
  refine Qab (v:=string a1) rfl rfl rfl ?_
  refine Qab (v:=int .i64 x4) rfl rfl rfl ?_
  obtain ⟨g1,H⟩:=ite_get H
  refine Qab (v:=int .u8 (btS a1 x4)) rfl rfl (QcN rfl rfl rfl rfl g1.1 g1.2) ?_
  refine Qab (v:=int .i64 (i64w (btS a1 x4))) rfl rfl rfl ?_
  refine Qab (v:=int .i64 (i64w ((i64w (btS a1 x4)) - 97))) rfl rfl rfl ?_
  refine Qab (v:=int .i64 (i64w ((i64w (btS a1 x4)) - 97))) rfl rfl rfl ?_
  show G _ _ _ _ [_,_,_,_,_,_,_,_,_,_,_,_,_,_,_,_,_,_,_,_,_,_,_,_,_,_,_,_,_,_,_,_,_,_,_,_] _
  refine Qac (Qaj (Qan [0,1,2,3,4,5,6] rfl ?_))
  refine Qab (v:=int .i64 (i64w ((i64w (btS a1 x4)) - 97))) rfl rfl rfl ?_
  refine QaI (B:=decide ((i64w ((i64w (btS a1 x4)) - 97))≥0)) rfl rfl rfl ?_ ?_
  ·
   intro hb
   rw [if_pos (b_dec_t hb)] at H
   refine Qab (v:=bool true) rfl rfl rfl ?_
   refine Qab (v:=int .i64 (i64w ((i64w (btS a1 x4)) - 97))) rfl rfl rfl ?_
   refine Qab (v:=int .i64 a2) rfl rfl rfl ?_
   refine QaI (B:=decide ((i64w ((i64w (btS a1 x4)) - 97))< a2)) rfl rfl rfl ?_ ?_
   ·
    intro hb
    rw [if_pos (b_dec_t hb)] at H
    refine Qab (v:=bool true) rfl rfl rfl (Qac (Qaq rfl (Qan [0,1,2,3,4] rfl ?_)))
    refine Qab (v:=int .u64 x3) rfl rfl rfl ?_
    refine Qab (v:=int .i64 (i64w ((i64w (btS a1 x4)) - 97))) rfl rfl rfl ?_
    obtain ⟨g2,H⟩:=ite_get H
    refine Qab (v:=int .u64 (shlI .u64 1 (i64w ((i64w (btS a1 x4)) - 97)))) rfl rfl (Qcx rfl rfl rfl g2) ?_
    show G _ _ _ _ [_,_,_,_,_,_,_,_,_,_,_,_,_,_,_,_,_,_,_,_,_,_,_,_,_,_,_,_,_,_,_,_,_,_,_,_] _
    refine Qab (v:=int .u64 (bOr .u64 x3 (shlI .u64 1 (i64w ((i64w (btS a1 x4)) - 97))))) rfl rfl rfl ?_
    refine Qab (v:=int .u64 (bOr .u64 x3 (shlI .u64 1 (i64w ((i64w (btS a1 x4)) - 97))))) rfl rfl rfl (Qac ?_)
    refine Qa0 ?_
    have hs:St _ [] _:=St.take (Γ':=[]) hs
    exact ha _ _ ⟨bOr .u64 x3 (shlI .u64 1 (i64w ((i64w (btS a1 x4)) - 97))),H,rfl,hs⟩
   intro hb
   rw [if_neg (b_dec_f hb)] at H
   refine Qab (v:=bool false) rfl rfl rfl ?_
   show G _ _ _ _ [_,_,_,_,_,_,_,_,_,_,_,_,_,_,_,_,_,_,_,_,_,_,_,_,_,_,_,_,_,_,_,_,_,_,_,_] _
   refine Qac (Qas rfl (QaK ?_))
   refine Qa0 ?_
   have hs:St _ [] _:=St.take (Γ':=[]) hs
   exact ha _ _ ⟨x3,H,rfl,hs⟩
  intro hb
  rw [if_neg (b_dec_f hb)] at H
  refine Qab (v:=bool false) rfl rfl rfl (Qae rfl rfl (Qae rfl rfl (Qae rfl rfl ?_)))
  refine Qab (v:=bool false) rfl rfl rfl ?_
  show G _ _ _ _ [_,_,_,_,_,_,_,_,_,_,_,_,_,_,_,_,_,_,_,_,_,_,_,_,_,_,_,_,_,_,_,_,_,_,_,_] _
  refine Qac (Qas rfl (QaK ?_))
  refine Qa0 ?_
  have hs:St _ [] _:=St.take (Γ':=[]) hs
  exact ha _ _ ⟨x3,H,rfl,hs⟩
 intro hb
 rw [if_neg (b_dec_f hb)] at H
 refine Qac (Qaj (Qas rfl ?_))
 obtain rfl:=QsJ H
 subst Hx1_
 have hs:St _ [] _:=St.take (Γ':=[]) hs
 refine QbE rfl ?_
 exact ha1_ _ _ ⟨x3,Hr1_,rfl,hs⟩
def Qb5.post (w0:World) (r:(Int×Int)) (v:Value) (w:World):Prop:=v=tuple #[int .u16 r.1,int .i64 r.2]∧St w0 [] w
theorem Qb5.calls {N:Nat} {a1:ByteArray} {w0:World} {r:(Int×Int)} (H:Qb5.f N a1=some r):
 Calls Tryz.prog 31 #[string a1] w0 fun e w=>∃ v,e= .returned v∧Qb5.post w0 r v w:=by
 unfold Qb5.f at H
 have hs:St w0 [] w0:=St.refl w0
 refine calls_of_g (n:=14) Tryz.func31 rfl rfl ?_
 show G _ _ _ _ [_,_,_,_,_,_,_,_,_,_,_,_,_,_,_] _
 refine Qaj (Qan [0,1] rfl ?_)
 refine Qab (v:=int .u16 0) rfl rfl rfl ?_
 refine Qab (v:=int .i64 0) rfl rfl rfl ?_
 show G _ _ _ _ [_,_,_,_,_,_,_,_,_,_,_,_,_,_,_] _
 refine Qac (Qaj (Qan [0,1,2,3,4,5,6] rfl ?_))
 refine Qab (v:=string a1) rfl rfl rfl ?_
 obtain ⟨r2,Hr2,H⟩:=bind_get H
 refine Qaz (args:=[string a1,int .i64 8]) rfl rfl (QaA rfl (callFunc_enter Tryz.func66 rfl rfl) rfl) (Qa4.calls (a1:=a1) (a2:=8) Hr2) ?_
 rintro _ w ⟨rfl,hs2⟩
 have hs:St _ [] _:=hs.call hs2
 refine Qab (v:=tuple #[int .u64 r2.1,bool r2.2]) rfl rfl rfl ?_
 show G _ _ _ _ [_,_,_,_,_,_,_,_,_,_,_,_,_,_,_] _
 refine Qab (v:=int .u64 r2.1) rfl rfl rfl ?_
 refine Qab (v:=bool r2.2) rfl rfl rfl ?_
 refine Qab (v:=int .u64 r2.1) rfl rfl rfl ?_
 show G _ _ _ _ [_,_,_,_,_,_,_,_,_,_,_,_,_,_,_] _
 refine Qab (v:=bool r2.2) rfl rfl rfl (Qac (Qaj (Qaj (Qan [0,1] rfl ?_))))
 refine QaI (B:=r2.2) rfl rfl rfl ?_ ?_
 ·
  intro hb
  rw [if_pos (b_var_t hb)] at H
  show G _ _ _ _ [_,_,_,_,_,_,_,_,_,_,_,_,_,_,_] _
  refine Qab (v:=bool false) rfl rfl rfl (Qac (Qas rfl (QaK (Qaj (Qan [0,1,2,3] rfl ?_)))))
  refine Qab (v:=int .u64 r2.1) rfl rfl rfl ?_
  refine Qab (v:=int .u16 (u16w r2.1)) rfl rfl rfl ?_
  show G _ _ _ _ [_,_,_,_,_,_,_,_,_,_,_,_,_,_,_] _
  refine Qab (v:=int .u16 (u16w r2.1)) rfl rfl rfl ?_
  refine Qab (v:=int .i64 0) rfl rfl rfl (Qac ?_)
  obtain rfl:=QsJ H
  refine QaB Tryz.func31 (v:=tuple #[int .u16 (u16w r2.1),int .i64 0]) (resN (l:=Tryz.f31.results.toList) (vs:=[int .u16 (u16w r2.1),int .i64 0]) rfl ⟨rfl,rfl,trivial⟩ (by simp)) ?_
  have hs:St _ [] _:=St.take (Γ':=[]) hs
  exact ⟨_,rfl,rfl,hs⟩
 intro hb
 rw [if_neg (b_var_f hb)] at H
 refine Qab (v:=bool true) rfl rfl rfl ?_
 show G _ _ _ _ [_,_,_,_,_,_,_,_,_,_,_,_,_,_,_] _
 refine Qac (Qaq rfl (Qaj (Qan [0,1] rfl ?_)))
 refine Qab (v:=int .u16 0) rfl rfl rfl ?_
 refine Qab (v:=int .i64 5) rfl rfl rfl (Qac ?_)
 obtain rfl:=QsJ H
 refine QaB Tryz.func31 (v:=tuple #[int .u16 0,int .i64 5]) (resN (l:=Tryz.f31.results.toList) (vs:=[int .u16 0,int .i64 5]) rfl ⟨rfl,rfl,trivial⟩ (by simp)) ?_
 have hs:St _ [] _:=St.take (Γ':=[]) hs
 exact ⟨_,rfl,rfl,hs⟩
def Qa7.post (w0:World) (r:(Qaf×Int)) (v:Value) (w:World):Prop:=∃ u1:Value,v=tuple #[agg (([int .i8 r.1.Qad,int .i8 r.1.Qag,u1]:List Value)).toArray,int .i64 r.2]∧St w0 [Row 46 (K.int .u16) u1 r.1.Qal] w
theorem Qa7.calls {N : Nat} {a1 : ByteArray} {w0 : World} {r : (Qaf × Int)} (htab : Lib.TabIs Tryz.prog w0 "internal/strconv.uint64pow10" .u64 Lib.pow10Tab) (hmax : CellI w0 0) (hsyn : CellE w0 1) (hrng : CellE w0 2) (H : Qa7.f N a1 = some r) :
 Calls Tryz.prog 6 #[string a1] w0 fun e w=>∃ v,e= .returned v∧Qa7.post w0 r v w:=by
 unfold Qa7.f at H
 have hs:St w0 [] w0:=St.refl w0
 refine calls_of_g (n:=73) Tryz.func6 rfl rfl ?_
 show G _ _ _ _ (_::_::_::_::_::_::_::_::_::_::_::_::_::_::_::_::_::_::_::_::_::_::_::_::_::_::_::_::_::_::_::_::_::_::_::_::_::_::_::_::_::_::_::_::_::_::_::_::_::_::_::_::_::_::_::_::_::_::_::_::_::_::_::_::_::_::_::_::_::_::_::_::_::_::[]) _
 refine Qaj (Qan [0,1] rfl ?_)
 refine QbI hs rfl rfl (z:=(agg #[int .i8 0,int .i8 0,slice none 0 0])) (cs:=(([int .i8 0,int .i8 0,slice none 0 0]:List Value))) rfl (fun _=>rfl) rfl ?_
 intro b2 w hs
 refine g_d rfl ?_
 refine Qab (v:=int .i64 0) rfl rfl rfl (g_d rfl ?_)
 try dsimp only [Qah,Qai]
 refine Qac (Qaj (Qan [0,1,2] rfl ?_))
 refine Qab (v:=string a1) rfl rfl rfl (g_d rfl ?_)
 obtain ⟨r4,Hr4,H⟩:=bind_get H
 refine Qaz (args:=[string a1,string (⟨#[32]⟩:ByteArray)]) rfl rfl (QaA rfl (callFunc_enter Tryz.func29 rfl rfl) rfl) (strings_Split.calls (a1:=a1) (a2:=(⟨#[32]⟩:ByteArray)) (hs.cellI hmax) Hr4) ?_
 intro v5 w hs2
 have hs:St _ [_,_] _:=hs.call hs2
 refine g_d rfl ?_
 refine Qab (v:=v5) rfl rfl rfl (g_d rfl ?_)
 try dsimp only [Qah,Qai]
 refine Qac (Qaj (Qaj (Qan [0,1,2] rfl ?_)))
 refine Qab (v:=v5) rfl rfl rfl (g_d rfl ?_)
 refine QbC (hs.row 0 rfl) rfl rfl rfl rfl rfl (g_d rfl ?_)
 refine QaI (B:=decide ((r4.length:Int)< 2)) rfl rfl rfl ?_ ?_
 ·
  intro hb
  rw [if_pos (b_dec_t hb)] at H
  refine g_d rfl ?_
  try dsimp only [Qah,Qai]
  refine Qac (Qaq rfl (Qaj (Qan [0,1,2] rfl ?_)))
  refine Qab (v:=agg (([int .i8 0,int .i8 0,slice none 0 0]:List Value)).toArray) rfl rfl (Qbt (cs:=(([int .i8 0,int .i8 0,slice none 0 0]:List Value))) (segs:=[[int .i8 0],[int .i8 0],[slice none 0 0]]) rfl rfl (fun _=>rfl) ⟨rfl,(fun _=>rfl),rfl,(fun _=>rfl),rfl,(fun _=>rfl),trivial⟩ (by simp) (by first|rfl|(simp [ev,encA];done)|(simp [ev,encA];rfl))) ?_
  refine g_d rfl ?_
  have hs:St _ [_,_] _:=hs.pull 1 rfl
  refine QaY (n:=3) hs rfl rfl rfl (vs:=(([int .i8 0,int .i8 0,slice none 0 0]:List Value))) rfl rfl rfl (fun _=>rfl) rfl (by simp [Value.oneCell']) ?_
  intro w hs
  refine g_n rfl ?_
  refine Qab (v:=int .i64 5) rfl rfl rfl (g_d rfl ?_)
  try dsimp only [Qah,Qai]
  refine Qac ?_
  obtain rfl:=QsJ H
  refine QaB Tryz.func6 (v:=tuple #[agg (([int .i8 0,int .i8 0,slice none 0 0]:List Value)).toArray,int .i64 5]) (resN (l:=Tryz.f6.results.toList) (vs:=[agg (([int .i8 0,int .i8 0,slice none 0 0]:List Value)).toArray,int .i64 5]) rfl ⟨⟨_,rfl,(run_loadVar_agg (es:=(([int .i8 0,int .i8 0,slice none 0 0]:List Value))) rfl rfl (cells_all (hs.cells 0 rfl)))⟩,rfl,trivial⟩ (by simp)) ?_
  have hs:=hs.nil 46 (K.int .u16)
  have hs:=hs.pull 0 rfl
  have hs:St _ [_] _:=St.take (Γ':=[_,_]) hs
  exact ⟨_,rfl,(slice none 0 0),rfl,hs⟩
 intro hb
 rw [if_neg (b_dec_f hb)] at H
 refine g_d rfl ?_
 try dsimp only [Qah,Qai]
 refine Qac (Qas rfl (QaK (Qaj (Qan [0,1,2,3,4,5,6,7,8] rfl ?_))))
 refine Qab (v:=v5) rfl rfl rfl (g_d rfl ?_)
 obtain ⟨g1,H⟩:=ite_get H
 refine QbQ fkS (⟨#[]⟩:ByteArray) (hs.row 0 rfl) rfl (fun _=>rfl) g1.1 g1.2 rfl rfl rfl rfl rfl ?_
 intro p7 hp7 lp7 op7
 refine g_d rfl ?_
 refine Qaw rfl rfl (v:=string (rdL r4 0 (⟨#[]⟩:ByteArray))) rfl rfl (fun _=>rfl) hp7 (g_d rfl ?_)
 try dsimp only [Qah,Qai]
 obtain ⟨r8,Hr8,H⟩:=bind_get H
 refine Qaz (args:=[string (rdL r4 0 (⟨#[]⟩:ByteArray)),int .i64 8]) rfl rfl (QaA rfl (callFunc_enter Tryz.func30 rfl rfl) rfl) (Qb6.calls (a1:=rdL r4 0 (⟨#[]⟩:ByteArray)) (a2:=8) (hs.tab htab) (hs.cellE hsyn) (hs.cellE hrng) Hr8) ?_
 rintro _ w ⟨rfl,hs2⟩
 have hs:St _ [_,_] _:=hs.call hs2
 refine g_d rfl ?_
 refine Qab (v:=tuple #[int .i64 r8.1,bool r8.2]) rfl rfl rfl (g_d rfl ?_)
 refine Qab (v:=int .i64 r8.1) rfl rfl rfl (g_d rfl ?_)
 refine Qab (v:=bool r8.2) rfl rfl rfl (g_d rfl ?_)
 refine Qab (v:=int .i64 r8.1) rfl rfl rfl (g_d rfl ?_)
 try dsimp only [Qah,Qai]
 refine Qab (v:=bool r8.2) rfl rfl rfl (g_d rfl (Qac (Qaj (Qan [0,1,2,3,4,5,6,7,8] rfl ?_))))
 refine Qab (v:=v5) rfl rfl rfl (g_d rfl ?_)
 obtain ⟨g2,H⟩:=ite_get H
 refine QbQ fkS (⟨#[]⟩:ByteArray) (hs.row 0 rfl) rfl (fun _=>rfl) g2.1 g2.2 rfl rfl rfl rfl rfl ?_
 intro p9 hp9 lp9 op9
 refine g_d rfl ?_
 try dsimp only [Qah,Qai]
 refine Qaw rfl rfl (v:=string (rdL r4 1 (⟨#[]⟩:ByteArray))) rfl rfl (fun _=>rfl) hp9 (g_d rfl ?_)
 obtain ⟨r10,Hr10,H⟩:=bind_get H
 refine Qaz (args:=[string (rdL r4 1 (⟨#[]⟩:ByteArray)),int .i64 8]) rfl rfl (QaA rfl (callFunc_enter Tryz.func30 rfl rfl) rfl) (Qb6.calls (a1:=rdL r4 1 (⟨#[]⟩:ByteArray)) (a2:=8) (hs.tab htab) (hs.cellE hsyn) (hs.cellE hrng) Hr10) ?_
 rintro _ w ⟨rfl,hs2⟩
 have hs:St _ [_,_] _:=hs.call hs2
 refine g_d rfl ?_
 try dsimp only [Qah,Qai]
 refine Qab (v:=tuple #[int .i64 r10.1,bool r10.2]) rfl rfl rfl (g_d rfl ?_)
 refine Qab (v:=int .i64 r10.1) rfl rfl rfl (g_d rfl ?_)
 refine Qab (v:=bool r10.2) rfl rfl rfl (g_d rfl ?_)
 refine Qab (v:=int .i64 r10.1) rfl rfl rfl (g_d rfl ?_)
 refine Qab (v:=bool r10.2) rfl rfl rfl (g_d rfl ?_)
 try dsimp only [Qah,Qai]
 refine Qac (Qaj (Qan [0,1,2,3,4,5,6] rfl ?_))
 refine Qab (v:=int .i64 r8.1) rfl rfl rfl (g_d rfl ?_)
 refine Qab (v:=int .i8 (i8w r8.1)) rfl rfl rfl (g_d rfl ?_)
 refine Qab (v:=int .i64 r10.1) rfl rfl rfl (g_d rfl ?_)
 refine Qab (v:=int .i8 (i8w r10.1)) rfl rfl rfl (g_d rfl ?_)
 try dsimp only [Qah,Qai]
 refine Qab (v:=agg (([int .i8 (i8w r8.1),int .i8 (i8w r10.1),slice none 0 0]:List Value)).toArray) rfl rfl (Qbt (cs:=(([int .i8 (i8w r8.1),int .i8 (i8w r10.1),slice none 0 0]:List Value))) (segs:=[[int .i8 0],[int .i8 0],[slice none 0 0]]) rfl rfl (fun _=>rfl) ⟨rfl,(fun _=>rfl),rfl,(fun _=>rfl),rfl,(fun _=>rfl),trivial⟩ (by simp only [List.map_cons,List.map_nil,List.forall_mem_cons,List.not_mem_nil,false_implies,implies_true,and_true];exact ⟨⟨_,rfl,rfl⟩,⟨_,rfl,rfl⟩⟩) (by first|rfl|(simp [ev,encA];done)|(simp [ev,encA];rfl))) ?_
 refine g_d rfl ?_
 try dsimp only [Qah,Qai]
 refine QbI hs rfl rfl (z:=(agg #[int .i8 0,int .i8 0,slice none 0 0])) (cs:=(([int .i8 0,int .i8 0,slice none 0 0]:List Value))) rfl (fun _=>rfl) rfl ?_
 intro b11 w hs
 refine g_d rfl ?_
 refine QaY (n:=3) hs rfl rfl rfl (vs:=(([int .i8 (i8w r8.1),int .i8 (i8w r10.1),slice none 0 0]:List Value))) rfl rfl rfl (fun _=>rfl) rfl (by simp [Value.oneCell']) ?_
 intro w hs
 refine g_n rfl (Qac (Qaj (Qaj (Qan [0,1,2,3] rfl ?_))))
 refine Qab (v:=v5) rfl rfl rfl (g_d rfl ?_)
 obtain ⟨g3,H⟩:=ite_get H
 refine Qab (v:=subV v5 1 ((2:Int)).toNat ((r4.length:Int)).toNat) rfl rfl (QcQ (hs.row 1 rfl) rfl rfl (fun _=>rfl) rfl (.inr ⟨_,_,rfl,rfl⟩) (.inl ⟨rfl,rfl⟩) g3.1 g3.2.1 g3.2.2) (g_d rfl ?_)
 try dsimp only [Qah,Qai]
 refine QbC (rdSub (hs.row 1 rfl) 1 rfl g3.1 g3.2.1 g3.2.2) rfl rfl rfl rfl rfl (g_d rfl ?_)
 refine Qab (v:=int .i64 0) rfl rfl rfl (g_d rfl (Qac ?_))
 obtain ⟨o1_,Ho,Hr1_⟩:=bind_get H
 refine QaR (J:=fun t w=>∃ x33:Int,∃ x34:Int,∃ v35:Value,∃ x36:(List Int),Qa7.a0 N r8 r10 x33 x34 x36=some r∧Fr t (fun O=>(O 0::O 1::pointer (some ⟨b2,0,none⟩)::O 3::O 4::O 5::bool r8.2::O 7::bool r10.2::pointer (some ⟨b11,0,none⟩)::oT O 1 (oT O 2 (oT O 3 (oT O 4 (oT O 5 (oT O 6 (O 70::O 71::O 72::O 73::[])))))):List Value))∧St w0 [Cells b2 (([int .i8 0,int .i8 0,slice none 0 0]:List Value)) 27,Cells b11 (([int .i8 x33,int .i8 x34,v35]:List Value)) 27,Row 46 (K.int .u16) v35 x36] w) ?_ ?_
 ·
  rintro t w ⟨x33,x34,v35,x36,H,hf,hs⟩
  obtain ⟨O,rfl⟩:=hf.open
  try dsimp only [oT]
  unfold Qa7.a0 at H
  refine Qaj (Qaj (Qan [0,1,2,3,4,5,6,7,8,9,10] rfl ?_))
  refine QaI (B:=r8.2) rfl rfl rfl ?_ ?_
  ·
   intro hb
   rw [if_pos (b_var_t hb)] at H
   refine g_d rfl ?_
   refine Qab (v:=bool false) rfl rfl rfl (g_d rfl ?_)
   try dsimp only [Qah,Qai]
   refine Qab (v:=bool false) rfl rfl rfl (g_d rfl ?_)
   refine Qab (v:=bool r10.2) rfl rfl rfl (g_d rfl ?_)
   refine Qab (v:=bool (!r10.2)) rfl rfl rfl (g_d rfl ?_)
   refine QaI (B:=!r10.2) rfl rfl rfl ?_ ?_
   ·
    intro hb
    rw [if_neg (b_not_t hb)] at H
    refine g_d rfl ?_
    try dsimp only [Qah,Qai]
    refine Qab (v:=bool true) rfl rfl rfl (g_d rfl (Qae rfl rfl (g_d rfl (Qae rfl rfl (g_d rfl ?_)))))
    try dsimp only [Qah,Qai]
    refine Qae rfl rfl (g_d rfl ?_)
    refine Qab (v:=bool true) rfl rfl rfl (g_d rfl ?_)
    try dsimp only [Qah,Qai]
    refine Qac (Qaq rfl (Qaj (Qan [0,1,2] rfl ?_)))
    refine Qab (v:=agg (([int .i8 0,int .i8 0,slice none 0 0]:List Value)).toArray) rfl rfl (Qbt (cs:=(([int .i8 0,int .i8 0,slice none 0 0]:List Value))) (segs:=[[int .i8 0],[int .i8 0],[slice none 0 0]]) rfl rfl (fun _=>rfl) ⟨rfl,(fun _=>rfl),rfl,(fun _=>rfl),rfl,(fun _=>rfl),trivial⟩ (by simp) (by first|rfl|(simp [ev,encA];done)|(simp [ev,encA];rfl))) ?_
    refine g_d rfl ?_
    refine QaY (n:=3) hs rfl rfl rfl (vs:=(([int .i8 0,int .i8 0,slice none 0 0]:List Value))) rfl rfl rfl (fun _=>rfl) rfl (by simp [Value.oneCell']) ?_
    intro w hs
    refine g_n rfl ?_
    refine Qab (v:=int .i64 5) rfl rfl rfl (g_d rfl ?_)
    try dsimp only [Qah,Qai]
    refine Qac ?_
    obtain rfl:=QsJ H
    refine QaB Tryz.func6 (v:=tuple #[agg (([int .i8 0,int .i8 0,slice none 0 0]:List Value)).toArray,int .i64 5]) (resN (l:=Tryz.f6.results.toList) (vs:=[agg (([int .i8 0,int .i8 0,slice none 0 0]:List Value)).toArray,int .i64 5]) rfl ⟨⟨_,rfl,(run_loadVar_agg (es:=(([int .i8 0,int .i8 0,slice none 0 0]:List Value))) rfl rfl (cells_all (hs.cells 0 rfl)))⟩,rfl,trivial⟩ (by simp)) ?_
    have hs:=hs.nil 46 (K.int .u16)
    have hs:=hs.pull 0 rfl
    have hs:St _ [_] _:=St.take (Γ':=[_,_,_]) hs
    exact ⟨_,rfl,(slice none 0 0),rfl,hs⟩
   intro hb
   rw [if_pos (b_not_f hb)] at H
   refine g_d rfl ?_
   try dsimp only [Qah,Qai]
   refine Qab (v:=bool false) rfl rfl rfl (g_d rfl ?_)
   refine QaF rfl rfl (es:=(([int .i8 x33,int .i8 x34,v35]:List Value))) rfl rfl (fun _=>rfl) (n:=3) (fun _=>rfl) rfl (cells_all (hs.cells 1 rfl)) (g_d rfl ?_)
   obtain ⟨r38,Hr38,H⟩:=bind_get H
   refine Qaz (args:=[agg (([int .i8 x33,int .i8 x34,v35]:List Value)).toArray]) rfl rfl (QaA rfl (callFunc_enter Tryz.func17 rfl rfl) rfl) (QaX.calls (a1:=(⟨x33,x34,x36⟩:Qaf)) (hs.row 2 rfl) Hr38) ?_
   rintro _ w ⟨rfl,hs2⟩
   have hs:St _ [_,_,_] _:=hs.call hs2
   cases r38 with
   |true=>
    rw [if_pos rfl] at H
    refine g_d rfl ?_
    refine Qab (v:=bool false) rfl rfl rfl (g_d rfl ?_)
    try dsimp only [Qah,Qai]
    refine Qab (v:=bool false) rfl rfl rfl (g_d rfl (Qac (Qas rfl (QaK (Qaj (Qan [0,1,2] rfl ?_))))))
    refine QaF rfl rfl (es:=(([int .i8 x33,int .i8 x34,v35]:List Value))) rfl rfl (fun _=>rfl) (n:=3) (fun _=>rfl) rfl (cells_all (hs.cells 1 rfl)) (g_d rfl ?_)
    try dsimp only [Qah,Qai]
    refine QaY (n:=3) hs rfl rfl rfl (vs:=(([int .i8 x33,int .i8 x34,v35]:List Value))) rfl rfl rfl (fun _=>rfl) rfl (by intro v hv;simp only [List.mem_append,List.mem_cons,List.not_mem_nil,or_false] at hv;repeat (first|(subst hv;first|rfl|exact slOne (hs.row 2 rfl))|(rcases hv with hv|hv))) ?_
    intro w hs
    refine g_n rfl ?_
    refine Qab (v:=int .i64 0) rfl rfl rfl (g_d rfl (Qac ?_))
    obtain rfl:=QsJ H
    refine QaB Tryz.func6 (v:=tuple #[agg (([int .i8 x33,int .i8 x34,v35]:List Value)).toArray,int .i64 0]) (resN (l:=Tryz.f6.results.toList) (vs:=[agg (([int .i8 x33,int .i8 x34,v35]:List Value)).toArray,int .i64 0]) rfl ⟨⟨_,rfl,(run_loadVar_agg (es:=(([int .i8 x33,int .i8 x34,v35]:List Value))) rfl rfl (cells_all (hs.cells 0 rfl)))⟩,rfl,trivial⟩ (by simp)) ?_
    have hs:=hs.pull 2 rfl
    have hs:St _ [_] _:=St.take (Γ':=[_,_]) hs
    exact ⟨_,rfl,v35,rfl,hs⟩
   |false=>
    rw [if_neg Bool.false_ne_true] at H
    refine g_d rfl ?_
    try dsimp only [Qah,Qai]
    refine Qab (v:=bool true) rfl rfl rfl (g_d rfl ?_)
    refine Qab (v:=bool true) rfl rfl rfl (g_d rfl ?_)
    try dsimp only [Qah,Qai]
    refine Qac (Qaq rfl (Qaj (Qan [0,1,2] rfl ?_)))
    refine Qab (v:=agg (([int .i8 0,int .i8 0,slice none 0 0]:List Value)).toArray) rfl rfl (Qbt (cs:=(([int .i8 0,int .i8 0,slice none 0 0]:List Value))) (segs:=[[int .i8 0],[int .i8 0],[slice none 0 0]]) rfl rfl (fun _=>rfl) ⟨rfl,(fun _=>rfl),rfl,(fun _=>rfl),rfl,(fun _=>rfl),trivial⟩ (by simp) (by first|rfl|(simp [ev,encA];done)|(simp [ev,encA];rfl))) ?_
    refine g_d rfl ?_
    refine QaY (n:=3) hs rfl rfl rfl (vs:=(([int .i8 0,int .i8 0,slice none 0 0]:List Value))) rfl rfl rfl (fun _=>rfl) rfl (by simp [Value.oneCell']) ?_
    intro w hs
    refine g_n rfl ?_
    refine Qab (v:=int .i64 5) rfl rfl rfl (g_d rfl ?_)
    try dsimp only [Qah,Qai]
    refine Qac ?_
    obtain rfl:=QsJ H
    refine QaB Tryz.func6 (v:=tuple #[agg (([int .i8 0,int .i8 0,slice none 0 0]:List Value)).toArray,int .i64 5]) (resN (l:=Tryz.f6.results.toList) (vs:=[agg (([int .i8 0,int .i8 0,slice none 0 0]:List Value)).toArray,int .i64 5]) rfl ⟨⟨_,rfl,(run_loadVar_agg (es:=(([int .i8 0,int .i8 0,slice none 0 0]:List Value))) rfl rfl (cells_all (hs.cells 0 rfl)))⟩,rfl,trivial⟩ (by simp)) ?_
    have hs:=hs.nil 46 (K.int .u16)
    have hs:=hs.pull 0 rfl
    have hs:St _ [_] _:=St.take (Γ':=[_,_,_]) hs
    exact ⟨_,rfl,(slice none 0 0),rfl,hs⟩
  intro hb
  rw [if_neg (b_var_f hb)] at H
  refine g_d rfl ?_
  refine Qab (v:=bool true) rfl rfl rfl (g_d rfl ?_)
  refine Qab (v:=bool true) rfl rfl rfl (g_d rfl (Qae rfl rfl (g_d rfl (Qae rfl rfl (g_d rfl ?_)))))
  try dsimp only [Qah,Qai]
  refine Qab (v:=bool true) rfl rfl rfl (g_d rfl ?_)
  refine Qab (v:=bool true) rfl rfl rfl (g_d rfl (Qae rfl rfl (g_d rfl ?_)))
  try dsimp only [Qah,Qai]
  refine Qae rfl rfl (g_d rfl (Qae rfl rfl (g_d rfl ?_)))
  try dsimp only [Qah,Qai]
  refine Qab (v:=bool true) rfl rfl rfl (g_d rfl (Qac (Qaq rfl (Qaj (Qan [0,1,2] rfl ?_)))))
  refine Qab (v:=agg (([int .i8 0,int .i8 0,slice none 0 0]:List Value)).toArray) rfl rfl (Qbt (cs:=(([int .i8 0,int .i8 0,slice none 0 0]:List Value))) (segs:=[[int .i8 0],[int .i8 0],[slice none 0 0]]) rfl rfl (fun _=>rfl) ⟨rfl,(fun _=>rfl),rfl,(fun _=>rfl),rfl,(fun _=>rfl),trivial⟩ (by simp) (by first|rfl|(simp [ev,encA];done)|(simp [ev,encA];rfl))) ?_
  refine g_d rfl ?_
  try dsimp only [Qah,Qai]
  refine QaY (n:=3) hs rfl rfl rfl (vs:=(([int .i8 0,int .i8 0,slice none 0 0]:List Value))) rfl rfl rfl (fun _=>rfl) rfl (by simp [Value.oneCell']) ?_
  intro w hs
  refine g_n rfl ?_
  refine Qab (v:=int .i64 5) rfl rfl rfl (g_d rfl (Qac ?_))
  obtain rfl:=QsJ H
  refine QaB Tryz.func6 (v:=tuple #[agg (([int .i8 0,int .i8 0,slice none 0 0]:List Value)).toArray,int .i64 5]) (resN (l:=Tryz.f6.results.toList) (vs:=[agg (([int .i8 0,int .i8 0,slice none 0 0]:List Value)).toArray,int .i64 5]) rfl ⟨⟨_,rfl,(run_loadVar_agg (es:=(([int .i8 0,int .i8 0,slice none 0 0]:List Value))) rfl rfl (cells_all (hs.cells 0 rfl)))⟩,rfl,trivial⟩ (by simp)) ?_
  have hs:=hs.nil 46 (K.int .u16)
  have hs:=hs.pull 0 rfl
  have hs:St _ [_] _:=St.take (Γ':=[_,_,_]) hs
  exact ⟨_,rfl,(slice none 0 0),rfl,hs⟩
 intro ha1_
 have hs:=hs.nil 46 (K.int .u16)
 have hs:=hs.pull 2 rfl
 have hs:=hs.pull 2 rfl
 have hs:=hs.pull 2 rfl
 have hs:=hs.pull 3 rfl
 have hs:St _ [_,_,_,_] _:=St.take (Γ':=[]) hs
 refine Qba (I:=fun n_ t w=>∃ x21:Int,∃ x22:Int,∃ v24:Value,∃ x25:(List Int),∃ x26:Int,rounds (fun s=>Qa7.b0 N r4 s.1 s.2.1 s.2.2.1 s.2.2.2) n_ (x21,x22,x25,x26)=some o1_∧Fr t (fun O=>(O 0::O 1::pointer (some ⟨b2,0,none⟩)::O 3::O 4::O 5::bool r8.2::O 7::bool r10.2::pointer (some ⟨b11,0,none⟩)::oT O 1 (oT O 2 (oT O 3 (subV v5 1 ((2:Int)).toNat ((r4.length:Int)).toNat::int .i64 (((r4.drop ((2:Int)).toNat).take (((r4.length:Int)).toNat - ((2:Int)).toNat)).length:Int)::int .i64 x26::O 43::O 44::O 45::O 46::O 47::O 48::O 49::oT O 5 (oT O 6 (O 70::O 71::O 72::O 73::[]))))):List Value))∧St w0 [Cells b2 (([int .i8 0,int .i8 0,slice none 0 0]:List Value)) 27,Row 46 (K.int .u16) v24 x25,Cells b11 (([int .i8 x21,int .i8 x22,v24]:List Value)) 27,Row 9 K.str v5 r4] w) N ⟨i8w r8.1,i8w r10.1,slice none 0 0,[],0,Ho,rfl,hs⟩ ?_ ?_
 ·
  rintro _ _ ⟨x21,x22,v24,x25,x26,h,_⟩
  exact rounds_zero h
 intro n_ ih1_
 rintro t w ⟨x21,x22,v24,x25,x26,Ho,hf,hs⟩
 obtain ⟨O,rfl⟩:=hf.open
 try dsimp only [oT]
 obtain ⟨x6_,H,Hx1_⟩:=rounds_succ Ho
 have H:Qa7.b0 N r4 x21 x22 x25 x26=some x6_:=H
 unfold Qa7.b0 at H
 refine Qaj (Qan [0] rfl ?_)
 refine QaI (B:=decide (x26< (((r4.drop ((2:Int)).toNat).take (((r4.length:Int)).toNat - ((2:Int)).toNat)).length:Int))) rfl rfl rfl ?_ ?_
 ·
  intro hb
  rw [if_pos (b_dec_t hb)] at H
  refine g_d rfl (Qac (Qaj (Qaq rfl (QaK (Qaj ?_)))))
  refine QbG (Qaj (Qan [0,1,2] rfl ?_))
  obtain ⟨g5,H⟩:=ite_get H
  refine QbQ fkS (⟨#[]⟩:ByteArray) (rdSub (hs.row 3 rfl) 1 rfl g3.1 g3.2.1 g3.2.2) rfl (fun _=>rfl) g5.1 g5.2 rfl rfl rfl rfl rfl ?_
  intro p27 hp27 lp27 op27
  refine g_d rfl ?_
  try dsimp only [Qah,Qai]
  refine Qaw rfl rfl (v:=string (rdL ((r4.drop ((2:Int)).toNat).take (((r4.length:Int)).toNat - ((2:Int)).toNat)) x26 (⟨#[]⟩:ByteArray))) rfl rfl (fun _=>rfl) hp27 (g_d rfl ?_)
  refine Qab (v:=string (rdL ((r4.drop ((2:Int)).toNat).take (((r4.length:Int)).toNat - ((2:Int)).toNat)) x26 (⟨#[]⟩:ByteArray))) rfl rfl rfl (g_d rfl ?_)
  try dsimp only [Qah,Qai]
  refine Qac (Qaj (Qan [0,1,2,3,4,5,6] rfl ?_))
  refine Qab (v:=string (rdL ((r4.drop ((2:Int)).toNat).take (((r4.length:Int)).toNat - ((2:Int)).toNat)) x26 (⟨#[]⟩:ByteArray))) rfl rfl rfl (g_d rfl ?_)
  obtain ⟨r28,Hr28,H⟩:=bind_get H
  refine Qaz (args:=[string (rdL ((r4.drop ((2:Int)).toNat).take (((r4.length:Int)).toNat - ((2:Int)).toNat)) x26 (⟨#[]⟩:ByteArray))]) rfl rfl (QaA rfl (callFunc_enter Tryz.func31 rfl rfl) rfl) (Qb5.calls (a1:=rdL ((r4.drop ((2:Int)).toNat).take (((r4.length:Int)).toNat - ((2:Int)).toNat)) x26 (⟨#[]⟩:ByteArray)) Hr28) ?_
  rintro _ w ⟨rfl,hs2⟩
  have hs:St _ [_,_,_,_] _:=hs.call hs2
  refine g_d rfl ?_
  refine Qab (v:=tuple #[int .u16 r28.1,int .i64 r28.2]) rfl rfl rfl (g_d rfl ?_)
  refine Qab (v:=int .u16 r28.1) rfl rfl rfl (g_d rfl ?_)
  refine Qab (v:=int .i64 r28.2) rfl rfl rfl (g_d rfl ?_)
  refine Qab (v:=int .u16 r28.1) rfl rfl rfl (g_d rfl ?_)
  try dsimp only [Qah,Qai]
  refine Qab (v:=int .i64 r28.2) rfl rfl rfl (g_d rfl (Qac (Qaj (Qaj (Qan [0,1] rfl ?_)))))
  refine Qab (v:=int .i64 r28.2) rfl rfl rfl (g_d rfl ?_)
  refine QaI (B:=r28.2 !=0) rfl rfl rfl ?_ ?_
  ·
   intro hb
   rw [if_neg (b_bne_t hb)] at H
   refine g_d rfl ?_
   try dsimp only [Qah,Qai]
   refine Qac (Qaq rfl (Qaj (Qan [0,1,2] rfl ?_)))
   refine Qab (v:=agg (([int .i8 0,int .i8 0,slice none 0 0]:List Value)).toArray) rfl rfl (Qbt (cs:=(([int .i8 0,int .i8 0,slice none 0 0]:List Value))) (segs:=[[int .i8 0],[int .i8 0],[slice none 0 0]]) rfl rfl (fun _=>rfl) ⟨rfl,(fun _=>rfl),rfl,(fun _=>rfl),rfl,(fun _=>rfl),trivial⟩ (by simp) (by first|rfl|(simp [ev,encA];done)|(simp [ev,encA];rfl))) ?_
   refine g_d rfl ?_
   refine QaY (n:=3) hs rfl rfl rfl (vs:=(([int .i8 0,int .i8 0,slice none 0 0]:List Value))) rfl rfl rfl (fun _=>rfl) rfl (by simp [Value.oneCell']) ?_
   intro w hs
   refine g_n rfl ?_
   refine Qab (v:=int .i64 5) rfl rfl rfl (g_d rfl ?_)
   try dsimp only [Qah,Qai]
   refine Qac ?_
   obtain rfl:=QsJ H
   subst Hx1_
   have H:=QsJ Hr1_
   subst H
   refine QaB Tryz.func6 (v:=tuple #[agg (([int .i8 0,int .i8 0,slice none 0 0]:List Value)).toArray,int .i64 5]) (resN (l:=Tryz.f6.results.toList) (vs:=[agg (([int .i8 0,int .i8 0,slice none 0 0]:List Value)).toArray,int .i64 5]) rfl ⟨⟨_,rfl,(run_loadVar_agg (es:=(([int .i8 0,int .i8 0,slice none 0 0]:List Value))) rfl rfl (cells_all (hs.cells 0 rfl)))⟩,rfl,trivial⟩ (by simp)) ?_
   have hs:=hs.nil 46 (K.int .u16)
   have hs:=hs.pull 0 rfl
   have hs:St _ [_] _:=St.take (Γ':=[_,_,_,_]) hs
   exact ⟨_,rfl,(slice none 0 0),rfl,hs⟩
  intro hb
  rw [if_pos (b_bne_f hb)] at H
  refine g_d rfl ?_
  try dsimp only [Qah,Qai]
  refine Qac (Qas rfl (QaK (Qan [0,1,2,3,4,5,6] rfl ?_)))
  refine Qab (v:=pointer (some ⟨b11,2,none⟩)) rfl rfl rfl (g_d rfl ?_)
  refine Qaw rfl rfl (v:=v24) rfl rfl (fun _=>rfl) (cells_load (hs.cells 2 rfl) 2 1 rfl) (g_d rfl ?_)
  refine Qab (v:=int .u16 r28.1) rfl rfl rfl (g_d rfl ?_)
  try dsimp only [Qah,Qai]
  refine Qcq (fkI .u16) (y:=r28.1) hs rfl rfl rfl rfl (fun _=>rfl) (zv:=(int .u16 0)) (fun _=>rfl) rfl (by decide) (by decide) rfl ?_
  intro v29 w hs
  refine g_d rfl ?_
  have hs:St _ [_,_,_,_,_] _:=hs.pull 2 rfl
  obtain ⟨g,H⟩:=ite_get H
  refine Qcr (fkI .u16) (zv:=(int .u16 0)) (B:=2) hs (hs.row 1 rfl) rfl rfl rfl rfl rfl rfl rfl rfl rfl (by decide) rfl rfl (by decide) (by omega) ?_
  intro v31 w hs
  refine g_d rfl ?_
  try dsimp only [Qah,Qai]
  refine Qab (v:=pointer (some ⟨b11,2,none⟩)) rfl rfl rfl (g_d rfl ?_)
  have hs:St _ [_,_,_,_,_] _:=hs.pull 3 rfl
  refine QcA hs rfl rfl (vs:=[v31]) (cs':=(([int .i8 x21,int .i8 x22,v31]:List Value))) rfl rfl (slCells (hs.row 1 rfl)) (n:=1) (fun _=>rfl) rfl (by first|exact Nat.le_of_ble_eq_true rfl|simp [encAI_len,encAB_len,encA_len]) (by intro v hv;simp only [List.mem_cons,List.not_mem_nil,or_false] at hv;subst hv;exact slOne (hs.row 1 rfl)) rfl ?_
  intro w hs
  refine g_n rfl (Qac ?_)
  refine Qa0 (Qan [0,1] rfl ?_)
  refine Qab (v:=int .i64 (i64w (x26+1))) rfl rfl rfl (g_d rfl ?_)
  refine Qab (v:=int .i64 (i64w (x26+1))) rfl rfl rfl (g_d rfl (Qac ?_))
  obtain rfl:=QsJ H
  have hs:=hs.pull 4 rfl
  have hs:=hs.pull 1 rfl
  have hs:=hs.pull 2 rfl
  have hs:=hs.pull 4 rfl
  have hs:St _ [_,_,_,_] _:=St.take (Γ':=[_]) hs
  exact ih1_ _ _ ⟨x21,x22,v31,x25++([r28.1]),i64w (x26+1),Hx1_,rfl,hs⟩
 intro hb
 rw [if_neg (b_dec_f hb)] at H
 refine g_d rfl ?_
 try dsimp only [Qah,Qai]
 refine Qac (Qaj (Qas rfl ?_))
 obtain rfl:=QsJ H
 subst Hx1_
 have hs:=hs.pull 1 rfl
 have hs:=hs.pull 2 rfl
 have hs:=hs.pull 2 rfl
 have hs:St _ [_,_,_] _:=St.take (Γ':=[_]) hs
 refine QbE rfl ?_
 exact ha1_ _ _ ⟨x21,x22,v24,x25,Hr1_,rfl,hs⟩
theorem Qcu:Tryz.prog.eqGuardType Tryz.prog.depth 48=false:=by kernel_rfl
theorem Qco (a b:Qak) (w:World):(Op.equal 48 (.agg (Qaa a).toArray) (.agg (Qaa b).toArray)).run Tryz.prog w= .ok (decide (a=b)) w:=by
 have q:=equal_struct (w:=w) (xs:=(Qaa a).toArray) (ys:=(Qaa b).toArray) Tryz.underlying48 (by kernel_rfl) (eqFields_step (by decide) rfl rfl (equalIn_int (d:=9998) Tryz.underlying46) (eqFields_step (by decide) rfl rfl (equalIn_bool (d:=9998) Tryz.underlying4) eqFields_nil))
 rw [q]
 congr 1
 rw [Bool.eq_iff_iff,decide_eq_true_eq]
 cases a;cases b
 simp [Qak.mk.injEq]
theorem QbR:KeyOk Tryz.prog 48 Qbu where
 desc:=⟨_,Tryz.underlying48, .inl fun _ _=>rfl⟩
 eq:=fun a b w=>Qco a b w
 check:=fun a b w=>check_struct2 (n:=9999) Tryz.underlying48 (by decide) (by decide) rfl rfl (check_int (n:=9998) Tryz.underlying46) (check_bool (n:=9998) Tryz.underlying4)
 same:=fun a=>by simp [Qbu,Qaa,Instr.sameBits]
end Go.Proofs.YtblbfnngmeoipaaGreatDoorX
