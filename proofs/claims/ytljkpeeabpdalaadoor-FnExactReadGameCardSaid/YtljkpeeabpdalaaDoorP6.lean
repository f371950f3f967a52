import Derived.Test.YtljkpeeabpdalaaDoorP5
namespace Go.Proofs.YtljkpeeabpdalaaDoorX
open Go Go.RowKit Go.Proofs
open Go.Value (int pointer bool agg slice string tuple)
set_option maxHeartbeats 8000000
set_option maxRecDepth 100000
set_option linter.unusedVariables false
set_option linter.unusedSimpArgs false
def Qaz.post (w0:World) (r:(List ByteArray)) (v:Value) (w:World):Prop:=St w0 [Row 9 K.str v r] w
theorem Qaz.calls {N:Nat} {a1:ByteArray} {a2:Int} {w0:World} {r:(List ByteArray)} (H:Qaz.f N a1 a2=some r):
 Calls Tryd.prog 25 #[string a1,int .u8 a2] w0 fun e w=>∃ v,e= .returned v∧Qaz.post w0 r v w:=by
 unfold Qaz.f at H
 have hs:St w0 [] w0:=St.refl w0
 refine calls_of_g (n:=33) Tryd.func25 rfl rfl ?_
 show G _ _ _ _ [_,_,_,_,_,_,_,_,_,_,_,_,_,_,_,_,_,_,_,_,_,_,_,_,_,_,_,_,_,_,_,_,_,_,_] _
 refine Qac (Qaj [0] rfl ?_)
 refine Qaa (v:=slice none 0 0) rfl rfl rfl (Qab (Qac (Qaj [0,1] rfl ?_)))
 refine Qb5 (κ:=K.str) hs rfl rfl rfl rfl (fun _=>rfl) ?_
 intro v3 w hs
 refine Qaa (v:=v3) rfl rfl rfl ?_
 show G _ _ _ _ [_,_,_,_,_,_,_,_,_,_,_,_,_,_,_,_,_,_,_,_,_,_,_,_,_,_,_,_,_,_,_,_,_,_,_] _
 refine Qab (Qac (Qaj [0] rfl ?_))
 refine Qaa (v:=int .i64 0) rfl rfl rfl (Qab (Qac (Qac (Qaj [0] rfl ?_))))
 refine Qaa (v:=int .i64 0) rfl rfl rfl (Qab ?_)
 obtain ⟨o1_,Ho,Hr1_⟩:=bind_get H
 refine QaR (J:=fun t w=>∃ v18:Value,∃ x19:(List ByteArray),∃ x21:Int,Qaz.a0 N a1 x19 x21=some r∧Fr t (fun O=>([string a1,O 1,O 2,O 3,O 4,v18,int .i64 x21,O 7,O 8,O 9,O 10,O 11,O 12,O 13,O 14,O 15,O 16,O 17,O 18,O 19,O 20,O 21,O 22,O 23,O 24,O 25,O 26,O 27,O 28,O 29,O 30,O 31,O 32,O 33,O 34]:List Value))∧St w0 [Row 9 K.str v18 x19] w) ?_ ?_
 ·
  rintro t w ⟨v18,x19,x21,H,hf,hs⟩
  obtain ⟨O,rfl⟩:=hf.open
  show G _ _ _ _ [_,_,_,_,_,_,_,_,_,_,_,_,_,_,_,_,_,_,_,_,_,_,_,_,_,_,_,_,_,_,_,_,_,_,_] _
  unfold Qaz.a0 at H
  refine Qac (Qaj [0,1,2,3,4,5,6] rfl ?_)
  refine Qaa (v:=v18) rfl rfl rfl ?_
  refine Qaa (v:=string a1) rfl rfl rfl ?_
  refine Qaa (v:=int .i64 x21) rfl rfl rfl ?_
  obtain ⟨g,H⟩:=ite_get H
  refine Qaa (v:=string (subS a1 x21 (a1.size:Int))) rfl rfl (QaM rfl rfl rfl (.inr ⟨_,_,rfl,rfl⟩) (.inl ⟨rfl,rfl⟩) g.1 g.2.1 g.2.2) ?_
  show G _ _ _ _ [_,_,_,_,_,_,_,_,_,_,_,_,_,_,_,_,_,_,_,_,_,_,_,_,_,_,_,_,_,_,_,_,_,_,_] _
  refine QbD fkS (y:=subS a1 x21 (a1.size:Int)) hs rfl rfl rfl rfl (fun _=>rfl) (zv:=(string ⟨#[]⟩)) (fun _=>rfl) rfl (by decide) (by decide) rfl ?_
  intro v22 w hs
  show G _ _ _ _ [_,_,_,_,_,_,_,_,_,_,_,_,_,_,_,_,_,_,_,_,_,_,_,_,_,_,_,_,_,_,_,_,_,_,_] _
  have hs:St _ [_,_] _:=hs.pull 1 rfl
  obtain ⟨g,H⟩:=ite_get H
  refine Qbu fkS (zv:=(string ⟨#[]⟩)) (B:=16) hs (hs.row 1 rfl) rfl rfl rfl rfl rfl rfl rfl rfl rfl (by decide) rfl rfl (by decide) (by omega) ?_
  intro v24 w hs
  refine Qaa (v:=v24) rfl rfl rfl (Qab ?_)
  obtain rfl:=QsJ H
  refine Qau Tryd.func25 (v:=v24) (res1 rfl rfl) ?_
  have hs:=hs.pull 0 rfl
  have hs:St _ [_] _:=St.take (Γ':=[_]) hs
  exact ⟨_,rfl,hs⟩
 intro ha1_
 have hs:=hs.pull 0 rfl
 have hs:St _ [_] _:=St.take (Γ':=[]) hs
 refine QaY (I:=fun n_ t w=>∃ v6:Value,∃ x7:(List ByteArray),∃ x8:Int,∃ x9:Int,rounds (fun s=>Qaz.b0 N a1 a2 s.1 s.2.1 s.2.2) n_ (x7,x8,x9)=some o1_∧Fr t (fun O=>([string a1,int .u8 a2,O 2,O 3,O 4,v6,int .i64 x8,int .i64 x9,O 8,O 9,O 10,O 11,O 12,O 13,O 14,O 15,O 16,O 17,O 18,O 19,O 20,O 21,O 22,O 23,O 24,O 25,O 26,O 27,O 28,O 29,O 30,O 31,O 32,O 33,O 34]:List Value))∧St w0 [Row 9 K.str v6 x7] w) N ⟨v3,([]:List ByteArray),0,0,Ho,rfl,hs⟩ ?_ ?_
 ·
  rintro _ _ ⟨v6,x7,x8,x9,h,_⟩
  exact rounds_zero h
 intro n_ ih1_
 rintro t w ⟨v6,x7,x8,x9,Ho,hf,hs⟩
 obtain ⟨O,rfl⟩:=hf.open
 show G _ _ _ _ [_,_,_,_,_,_,_,_,_,_,_,_,_,_,_,_,_,_,_,_,_,_,_,_,_,_,_,_,_,_,_,_,_,_,_] _
 obtain ⟨x2_,H,Hx1_⟩:=rounds_succ Ho
 have H:Qaz.b0 N a1 a2 x7 x8 x9=some x2_:=H
 unfold Qaz.b0 at H
 refine Qac (Qac (Qaj [0,1,2,3] rfl ?_))
 refine Qaa (v:=int .i64 x9) rfl rfl rfl ?_
 refine Qaa (v:=string a1) rfl rfl rfl ?_
 refine Qaa (v:=int .i64 (a1.size:Int)) rfl rfl (Qbf rfl rfl rfl) ?_
 show G _ _ _ _ [_,_,_,_,_,_,_,_,_,_,_,_,_,_,_,_,_,_,_,_,_,_,_,_,_,_,_,_,_,_,_,_,_,_,_] _
 refine Qas (B:=decide (x9< (a1.size:Int))) rfl rfl rfl ?_ ?_
 ·
  intro hb
  rw [if_pos (b_dec_t hb)] at H
  refine Qab (Qak rfl (Qaw (Qac ?_)))
  refine QaR (J:=(fun t w=>∃ v14:Value,∃ x15:(List ByteArray),∃ x17:Int,Qaz.j2 N x9 x15 x17=some x2_∧Fr t (fun O=>([string a1,int .u8 a2,O 2,O 3,O 4,v14,int .i64 x17,int .i64 x9,O 8,O 9,O 10,O 11,O 12,O 13,O 14,O 15,O 16,O 17,O 18,O 19,O 20,O 21,O 22,O 23,O 24,O 25,O 26,O 27,O 28,O 29,O 30,O 31,O 32,O 33,O 34]:List Value))∧St w0 [Row 9 K.str v14 x15] w)) ?_ ?_
  ·
   rintro t w ⟨v14,x15,x17,H,hf,hs⟩
   obtain ⟨O,rfl⟩:=hf.open
   show G _ _ _ _ [_,_,_,_,_,_,_,_,_,_,_,_,_,_,_,_,_,_,_,_,_,_,_,_,_,_,_,_,_,_,_,_,_,_,_] _
   unfold Qaz.j2 at H
   refine Qaj [0,1,2] rfl ?_
   refine Qaa (v:=int .i64 x9) rfl rfl rfl ?_
   refine Qaa (v:=int .i64 (i64w (x9+1))) rfl rfl rfl ?_
   show G _ _ _ _ [_,_,_,_,_,_,_,_,_,_,_,_,_,_,_,_,_,_,_,_,_,_,_,_,_,_,_,_,_,_,_,_,_,_,_] _
   refine Qaa (v:=int .i64 (i64w (x9+1))) rfl rfl rfl (Qab ?_)
   obtain rfl:=QsJ H
   have hs:=hs.pull 0 rfl
   have hs:St _ [_] _:=St.take (Γ':=[]) hs
   exact ih1_ _ _ ⟨v14,x15,x17,i64w (x9+1),Hx1_,rfl,hs⟩
  intro ha
  refine Qac (Qaj [0,1,2,3,4] rfl ?_)
  refine Qaa (v:=string a1) rfl rfl rfl ?_
  refine Qaa (v:=int .i64 x9) rfl rfl rfl ?_
  obtain ⟨g1,H⟩:=ite_get H
  refine Qaa (v:=int .u8 (btS a1 x9)) rfl rfl (Qbh rfl rfl rfl rfl g1.1 g1.2) ?_
  show G _ _ _ _ [_,_,_,_,_,_,_,_,_,_,_,_,_,_,_,_,_,_,_,_,_,_,_,_,_,_,_,_,_,_,_,_,_,_,_] _
  refine Qaa (v:=int .u8 a2) rfl rfl rfl ?_
  refine Qas (B:=(btS a1 x9)==a2) rfl rfl rfl ?_ ?_
  ·
   intro hb
   rw [if_pos (b_beq_t hb)] at H
   refine Qab (Qak rfl (Qac (Qaj [0,1,2,3,4,5,6,7] rfl ?_)))
   refine Qaa (v:=v6) rfl rfl rfl ?_
   refine Qaa (v:=string a1) rfl rfl rfl ?_
   refine Qaa (v:=int .i64 x8) rfl rfl rfl ?_
   refine Qaa (v:=int .i64 x9) rfl rfl rfl ?_
   obtain ⟨g,H⟩:=ite_get H
   refine Qaa (v:=string (subS a1 x8 x9)) rfl rfl (QaM rfl rfl rfl (.inr ⟨_,_,rfl,rfl⟩) (.inr ⟨_,_,rfl,rfl⟩) g.1 g.2.1 g.2.2) ?_
   show G _ _ _ _ [_,_,_,_,_,_,_,_,_,_,_,_,_,_,_,_,_,_,_,_,_,_,_,_,_,_,_,_,_,_,_,_,_,_,_] _
   refine QbD fkS (y:=subS a1 x8 x9) hs rfl rfl rfl rfl (fun _=>rfl) (zv:=(string ⟨#[]⟩)) (fun _=>rfl) rfl (by decide) (by decide) rfl ?_
   intro v10 w hs
   have hs:St _ [_,_] _:=hs.pull 1 rfl
   obtain ⟨g,H⟩:=ite_get H
   refine Qbu fkS (zv:=(string ⟨#[]⟩)) (B:=16) hs (hs.row 1 rfl) rfl rfl rfl rfl rfl rfl rfl rfl rfl (by decide) rfl rfl (by decide) (by omega) ?_
   intro v12 w hs
   refine Qaa (v:=v12) rfl rfl rfl ?_
   show G _ _ _ _ [_,_,_,_,_,_,_,_,_,_,_,_,_,_,_,_,_,_,_,_,_,_,_,_,_,_,_,_,_,_,_,_,_,_,_] _
   refine Qab (Qaj [0,1,2] rfl ?_)
   refine Qaa (v:=int .i64 x9) rfl rfl rfl ?_
   refine Qaa (v:=int .i64 (i64w (x9+1))) rfl rfl rfl ?_
   refine Qaa (v:=int .i64 (i64w (x9+1))) rfl rfl rfl (Qab ?_)
   refine QaD ?_
   have hs:=hs.pull 0 rfl
   have hs:St _ [_] _:=St.take (Γ':=[_]) hs
   exact ha _ _ ⟨v12,x7++([subS a1 x8 x9]),i64w (x9+1),H,rfl,hs⟩
  intro hb
  rw [if_neg (b_beq_f hb)] at H
  refine Qab (Qad rfl (Qaw ?_))
  refine QaD ?_
  have hs:=hs.pull 0 rfl
  have hs:St _ [_] _:=St.take (Γ':=[]) hs
  exact ha _ _ ⟨v6,x7,x8,H,rfl,hs⟩
 intro hb
 rw [if_neg (b_dec_f hb)] at H
 refine Qab (Qad rfl ?_)
 obtain rfl:=QsJ H
 subst Hx1_
 have hs:=hs.pull 0 rfl
 have hs:St _ [_] _:=St.take (Γ':=[]) hs
 refine Qbi rfl ?_
 exact ha1_ _ _ ⟨v6,x7,x8,Hr1_,rfl,hs⟩
def QaC.post (w0:World) (r:(Int×Bool)) (v:Value) (w:World):Prop:=v=tuple #[int .i64 r.1,bool r.2]∧St w0 [] w
theorem QaC.calls {N:Nat} {a1:ByteArray} {w0:World} {r:(Int×Bool)} (H:QaC.f N a1=some r):
 Calls Tryd.prog 26 #[string a1] w0 fun e w=>∃ v,e= .returned v∧QaC.post w0 r v w:=by
 unfold QaC.f at H
 have hs:St w0 [] w0:=St.refl w0
 refine calls_of_g (n:=47) Tryd.func26 rfl rfl ?_
 show G _ _ _ _ [_,_,_,_,_,_,_,_,_,_,_,_,_,_,_,_,_,_,_,_,_,_,_,_,_,_,_,_,_,_,_,_,_,_,_,_,_,_,_,_,_,_,_,_,_,_,_,_] _
 refine Qac (Qaj [0,1] rfl ?_)
 refine Qaa (v:=int .i64 0) rfl rfl rfl ?_
 refine Qaa (v:=bool false) rfl rfl rfl (Qab (Qac (Qac ?_)))
 refine Qbr (J:=(fun t w=>QaC.j0 N a1=some r∧Fr t (fun O=>([string a1,O 1,O 2,O 3,O 4,O 5,O 6,O 7,O 8,O 9,O 10,O 11,O 12,O 13,O 14,O 15,O 16,O 17,O 18,O 19,O 20,O 21,O 22,O 23,O 24,O 25,O 26,O 27,O 28,O 29,O 30,O 31,O 32,O 33,O 34,O 35,O 36,O 37,O 38,O 39,O 40,O 41,O 42,O 43,O 44,O 45,O 46,O 47]:List Value))∧St w0 [] w)) ?_ ?_
 ·
  rintro t w ⟨H,hf,hs⟩
  obtain ⟨O,rfl⟩:=hf.open
  show G _ _ _ _ [_,_,_,_,_,_,_,_,_,_,_,_,_,_,_,_,_,_,_,_,_,_,_,_,_,_,_,_,_,_,_,_,_,_,_,_,_,_,_,_,_,_,_,_,_,_,_,_] _
  unfold QaC.j0 at H
  refine Qac (Qaj [0] rfl ?_)
  refine Qaa (v:=int .i64 0) rfl rfl rfl (Qab (Qac (Qac (Qaj [0] rfl ?_))))
  refine Qaa (v:=int .i64 0) rfl rfl rfl (Qab ?_)
  obtain ⟨o1_,Ho,Hr1_⟩:=bind_get H
  refine QaR (J:=fun t w=>∃ x4:Int,QaC.a1 N x4=some r∧Fr t (fun O=>([O 0,O 1,O 2,O 3,int .i64 x4,O 5,O 6,O 7,O 8,O 9,O 10,O 11,O 12,O 13,O 14,O 15,O 16,O 17,O 18,O 19,O 20,O 21,O 22,O 23,O 24,O 25,O 26,O 27,O 28,O 29,O 30,O 31,O 32,O 33,O 34,O 35,O 36,O 37,O 38,O 39,O 40,O 41,O 42,O 43,O 44,O 45,O 46,O 47]:List Value))∧St w0 [] w) ?_ ?_
  ·
   rintro t w ⟨x4,H,hf,hs⟩
   obtain ⟨O,rfl⟩:=hf.open
   show G _ _ _ _ [_,_,_,_,_,_,_,_,_,_,_,_,_,_,_,_,_,_,_,_,_,_,_,_,_,_,_,_,_,_,_,_,_,_,_,_,_,_,_,_,_,_,_,_,_,_,_,_] _
   unfold QaC.a1 at H
   refine Qac (Qaj [0,1,2] rfl ?_)
   refine Qaa (v:=int .i64 x4) rfl rfl rfl ?_
   refine Qaa (v:=int .i64 x4) rfl rfl rfl ?_
   refine Qaa (v:=bool true) rfl rfl rfl (Qab ?_)
   obtain rfl:=QsJ H
   refine Qau Tryd.func26 (v:=tuple #[int .i64 x4,bool true]) (resN (l:=Tryd.f26.results.toList) (vs:=[int .i64 x4,bool true]) rfl ⟨rfl,rfl,trivial⟩ (by simp)) ?_
   have hs:St _ [] _:=St.take (Γ':=[]) hs
   exact ⟨_,rfl,rfl,hs⟩
  intro ha1_
  have hs:St _ [] _:=St.take (Γ':=[]) hs
  refine QaY (I:=fun n_ t w=>∃ x2:Int,∃ x3:Int,rounds (fun s=>QaC.b1 N a1 s.1 s.2) n_ (x2,x3)=some o1_∧Fr t (fun O=>([string a1,O 1,O 2,O 3,int .i64 x2,int .i64 x3,O 6,O 7,O 8,O 9,O 10,O 11,O 12,O 13,O 14,O 15,O 16,O 17,O 18,O 19,O 20,O 21,O 22,O 23,O 24,O 25,O 26,O 27,O 28,O 29,O 30,O 31,O 32,O 33,O 34,O 35,O 36,O 37,O 38,O 39,O 40,O 41,O 42,O 43,O 44,O 45,O 46,O 47]:List Value))∧St w0 [] w) N ⟨0,0,Ho,rfl,hs⟩ ?_ ?_
  ·
   rintro _ _ ⟨x2,x3,h,_⟩
   exact rounds_zero h
  intro n_ ih1_
  rintro t w ⟨x2,x3,Ho,hf,hs⟩
  obtain ⟨O,rfl⟩:=hf.open
  show G _ _ _ _ [_,_,_,_,_,_,_,_,_,_,_,_,_,_,_,_,_,_,_,_,_,_,_,_,_,_,_,_,_,_,_,_,_,_,_,_,_,_,_,_,_,_,_,_,_,_,_,_] _
  obtain ⟨x5_,H,Hx1_⟩:=rounds_succ Ho
  have H:QaC.b1 N a1 x2 x3=some x5_:=H
  unfold QaC.b1 at H
  refine Qac (Qac (Qaj [0,1,2,3] rfl ?_))
  refine Qaa (v:=int .i64 x3) rfl rfl rfl ?_
  refine Qaa (v:=string a1) rfl rfl rfl ?_
  refine Qaa (v:=int .i64 (a1.size:Int)) rfl rfl (Qbf rfl rfl rfl) ?_
  show G _ _ _ _ [_,_,_,_,_,_,_,_,_,_,_,_,_,_,_,_,_,_,_,_,_,_,_,_,_,_,_,_,_,_,_,_,_,_,_,_,_,_,_,_,_,_,_,_,_,_,_,_] _
  refine Qas (B:=decide (x3< (a1.size:Int))) rfl rfl rfl ?_ ?_
  ·
   intro hb
   rw [if_pos (b_dec_t hb)] at H
   refine Qab (Qak rfl (Qaw (Qac ?_)))
   refine Qbd (Qac (Qac (Qaj [0,1,2,3,4,5,6,7,8,9] rfl ?_)))
   refine Qaa (v:=string a1) rfl rfl rfl ?_
   refine Qaa (v:=int .i64 x3) rfl rfl rfl ?_
   obtain ⟨g2,H⟩:=ite_get H
   refine Qaa (v:=int .u8 (btS a1 x3)) rfl rfl (Qbh rfl rfl rfl rfl g2.1 g2.2) ?_
   show G _ _ _ _ [_,_,_,_,_,_,_,_,_,_,_,_,_,_,_,_,_,_,_,_,_,_,_,_,_,_,_,_,_,_,_,_,_,_,_,_,_,_,_,_,_,_,_,_,_,_,_,_] _
   refine Qas (B:=decide ((btS a1 x3)< 48)) rfl rfl rfl ?_ ?_
   ·
    intro hb
    rw [if_pos (b_dec_t hb)] at H
    refine Qaa (v:=bool true) rfl rfl rfl (Qag rfl rfl (Qag rfl rfl (Qag rfl rfl (Qag rfl rfl ?_))))
    show G _ _ _ _ [_,_,_,_,_,_,_,_,_,_,_,_,_,_,_,_,_,_,_,_,_,_,_,_,_,_,_,_,_,_,_,_,_,_,_,_,_,_,_,_,_,_,_,_,_,_,_,_] _
    refine Qaa (v:=bool true) rfl rfl rfl (Qab (Qak rfl (Qac (Qaj [0,1] rfl ?_))))
    refine Qaa (v:=int .i64 0) rfl rfl rfl ?_
    refine Qaa (v:=bool false) rfl rfl rfl ?_
    show G _ _ _ _ [_,_,_,_,_,_,_,_,_,_,_,_,_,_,_,_,_,_,_,_,_,_,_,_,_,_,_,_,_,_,_,_,_,_,_,_,_,_,_,_,_,_,_,_,_,_,_,_] _
    refine Qab ?_
    obtain rfl:=QsJ H
    subst Hx1_
    have H:=QsJ Hr1_
    subst H
    refine Qau Tryd.func26 (v:=tuple #[int .i64 0,bool false]) (resN (l:=Tryd.f26.results.toList) (vs:=[int .i64 0,bool false]) rfl ⟨rfl,rfl,trivial⟩ (by simp)) ?_
    have hs:St _ [] _:=St.take (Γ':=[]) hs
    exact ⟨_,rfl,rfl,hs⟩
   intro hb
   rw [if_neg (b_dec_f hb)] at H
   refine Qaa (v:=bool false) rfl rfl rfl ?_
   refine Qaa (v:=string a1) rfl rfl rfl ?_
   refine Qaa (v:=int .i64 x3) rfl rfl rfl ?_
   obtain ⟨g3,H⟩:=ite_get H
   refine Qaa (v:=int .u8 (btS a1 x3)) rfl rfl (Qbh rfl rfl rfl rfl g3.1 g3.2) ?_
   refine Qas (B:=decide ((btS a1 x3)>57)) rfl rfl rfl ?_ ?_
   ·
    intro hb
    rw [if_pos (b_dec_t hb)] at H
    show G _ _ _ _ [_,_,_,_,_,_,_,_,_,_,_,_,_,_,_,_,_,_,_,_,_,_,_,_,_,_,_,_,_,_,_,_,_,_,_,_,_,_,_,_,_,_,_,_,_,_,_,_] _
    refine Qaa (v:=bool true) rfl rfl rfl (Qab (Qak rfl (Qac (Qaj [0,1] rfl ?_))))
    refine Qaa (v:=int .i64 0) rfl rfl rfl ?_
    refine Qaa (v:=bool false) rfl rfl rfl ?_
    show G _ _ _ _ [_,_,_,_,_,_,_,_,_,_,_,_,_,_,_,_,_,_,_,_,_,_,_,_,_,_,_,_,_,_,_,_,_,_,_,_,_,_,_,_,_,_,_,_,_,_,_,_] _
    refine Qab ?_
    obtain rfl:=QsJ H
    subst Hx1_
    have H:=QsJ Hr1_
    subst H
    refine Qau Tryd.func26 (v:=tuple #[int .i64 0,bool false]) (resN (l:=Tryd.f26.results.toList) (vs:=[int .i64 0,bool false]) rfl ⟨rfl,rfl,trivial⟩ (by simp)) ?_
    have hs:St _ [] _:=St.take (Γ':=[]) hs
    exact ⟨_,rfl,rfl,hs⟩
   intro hb
   rw [if_neg (b_dec_f hb)] at H
   show G _ _ _ _ [_,_,_,_,_,_,_,_,_,_,_,_,_,_,_,_,_,_,_,_,_,_,_,_,_,_,_,_,_,_,_,_,_,_,_,_,_,_,_,_,_,_,_,_,_,_,_,_] _
   refine Qaa (v:=bool false) rfl rfl rfl (Qab (Qad rfl (Qaw (Qaj [0,1,2,3,4,5,6,7,8] rfl ?_))))
   refine Qaa (v:=int .i64 x2) rfl rfl rfl ?_
   refine Qaa (v:=int .i64 (i64w (10*x2))) rfl rfl rfl ?_
   refine Qaa (v:=string a1) rfl rfl rfl ?_
   refine Qaa (v:=int .i64 x3) rfl rfl rfl ?_
   obtain ⟨g4,H⟩:=ite_get H
   refine Qaa (v:=int .u8 (btS a1 x3)) rfl rfl (Qbh rfl rfl rfl rfl g4.1 g4.2) ?_
   show G _ _ _ _ [_,_,_,_,_,_,_,_,_,_,_,_,_,_,_,_,_,_,_,_,_,_,_,_,_,_,_,_,_,_,_,_,_,_,_,_,_,_,_,_,_,_,_,_,_,_,_,_] _
   refine Qaa (v:=int .u8 (u8w ((btS a1 x3) - 48))) rfl rfl rfl ?_
   refine Qaa (v:=int .i64 (i64w (u8w ((btS a1 x3) - 48)))) rfl rfl rfl ?_
   refine Qaa (v:=int .i64 (i64w ((i64w (10*x2))+(i64w (u8w ((btS a1 x3) - 48)))))) rfl rfl rfl ?_
   refine Qaa (v:=int .i64 (i64w ((i64w (10*x2))+(i64w (u8w ((btS a1 x3) - 48)))))) rfl rfl rfl ?_
   show G _ _ _ _ [_,_,_,_,_,_,_,_,_,_,_,_,_,_,_,_,_,_,_,_,_,_,_,_,_,_,_,_,_,_,_,_,_,_,_,_,_,_,_,_,_,_,_,_,_,_,_,_] _
   refine Qab ?_
   refine QaD (Qaj [0,1,2] rfl ?_)
   refine Qaa (v:=int .i64 x3) rfl rfl rfl ?_
   refine Qaa (v:=int .i64 (i64w (x3+1))) rfl rfl rfl ?_
   refine Qaa (v:=int .i64 (i64w (x3+1))) rfl rfl rfl (Qab ?_)
   obtain rfl:=QsJ H
   have hs:St _ [] _:=St.take (Γ':=[]) hs
   exact ih1_ _ _ ⟨i64w ((i64w (10*x2))+(i64w (u8w ((btS a1 x3) - 48)))),i64w (x3+1),Hx1_,rfl,hs⟩
  intro hb
  rw [if_neg (b_dec_f hb)] at H
  refine Qab (Qad rfl ?_)
  obtain rfl:=QsJ H
  subst Hx1_
  have hs:St _ [] _:=St.take (Γ':=[]) hs
  refine Qbi rfl ?_
  exact ha1_ _ _ ⟨x2,Hr1_,rfl,hs⟩
 intro ha
 refine Qaj [0,1,2,3,4,5,6,7,8,9,10,11,12,13,14,15,16] rfl ?_
 refine Qaa (v:=string a1) rfl rfl rfl ?_
 refine Qas (B:=a1.toList==(⟨#[]⟩:ByteArray).toList) rfl rfl rfl ?_ ?_
 ·
  intro hb
  rw [if_pos (b_beq_t hb)] at H
  refine Qaa (v:=bool true) rfl rfl rfl (Qag rfl rfl (Qag rfl rfl (Qag rfl rfl ?_)))
  show G _ _ _ _ [_,_,_,_,_,_,_,_,_,_,_,_,_,_,_,_,_,_,_,_,_,_,_,_,_,_,_,_,_,_,_,_,_,_,_,_,_,_,_,_,_,_,_,_,_,_,_,_] _
  refine Qaa (v:=bool true) rfl rfl rfl ?_
  refine Qaa (v:=bool true) rfl rfl rfl (Qag rfl rfl (Qag rfl rfl (Qag rfl rfl ?_)))
  show G _ _ _ _ [_,_,_,_,_,_,_,_,_,_,_,_,_,_,_,_,_,_,_,_,_,_,_,_,_,_,_,_,_,_,_,_,_,_,_,_,_,_,_,_,_,_,_,_,_,_,_,_] _
  refine Qag rfl rfl (Qag rfl rfl (Qag rfl rfl (Qag rfl rfl (Qag rfl rfl ?_))))
  show G _ _ _ _ [_,_,_,_,_,_,_,_,_,_,_,_,_,_,_,_,_,_,_,_,_,_,_,_,_,_,_,_,_,_,_,_,_,_,_,_,_,_,_,_,_,_,_,_,_,_,_,_] _
  refine Qaa (v:=bool true) rfl rfl rfl (Qab (Qak rfl (Qac (Qaj [0,1] rfl ?_))))
  refine Qaa (v:=int .i64 0) rfl rfl rfl ?_
  refine Qaa (v:=bool false) rfl rfl rfl ?_
  show G _ _ _ _ [_,_,_,_,_,_,_,_,_,_,_,_,_,_,_,_,_,_,_,_,_,_,_,_,_,_,_,_,_,_,_,_,_,_,_,_,_,_,_,_,_,_,_,_,_,_,_,_] _
  refine Qab ?_
  obtain rfl:=QsJ H
  refine Qau Tryd.func26 (v:=tuple #[int .i64 0,bool false]) (resN (l:=Tryd.f26.results.toList) (vs:=[int .i64 0,bool false]) rfl ⟨rfl,rfl,trivial⟩ (by simp)) ?_
  have hs:St _ [] _:=St.take (Γ':=[]) hs
  exact ⟨_,rfl,rfl,hs⟩
 intro hb
 rw [if_neg (b_beq_f hb)] at H
 show G _ _ _ _ [_,_,_,_,_,_,_,_,_,_,_,_,_,_,_,_,_,_,_,_,_,_,_,_,_,_,_,_,_,_,_,_,_,_,_,_,_,_,_,_,_,_,_,_,_,_,_,_] _
 refine Qaa (v:=bool false) rfl rfl rfl ?_
 refine Qaa (v:=string a1) rfl rfl rfl ?_
 refine Qaa (v:=int .i64 (a1.size:Int)) rfl rfl (Qbf rfl rfl rfl) ?_
 refine Qaa (v:=bool (decide ((a1.size:Int)>10))) rfl rfl rfl ?_
 refine Qas (B:=decide ((a1.size:Int)>10)) rfl rfl rfl ?_ ?_
 ·
  intro hb
  rw [if_pos (b_dec_t hb)] at H
  refine Qaa (v:=bool true) rfl rfl rfl (Qag rfl rfl (Qag rfl rfl (Qag rfl rfl ?_)))
  show G _ _ _ _ [_,_,_,_,_,_,_,_,_,_,_,_,_,_,_,_,_,_,_,_,_,_,_,_,_,_,_,_,_,_,_,_,_,_,_,_,_,_,_,_,_,_,_,_,_,_,_,_] _
  refine Qag rfl rfl (Qag rfl rfl (Qag rfl rfl (Qag rfl rfl (Qag rfl rfl ?_))))
  show G _ _ _ _ [_,_,_,_,_,_,_,_,_,_,_,_,_,_,_,_,_,_,_,_,_,_,_,_,_,_,_,_,_,_,_,_,_,_,_,_,_,_,_,_,_,_,_,_,_,_,_,_] _
  refine Qaa (v:=bool true) rfl rfl rfl (Qab (Qak rfl (Qac (Qaj [0,1] rfl ?_))))
  refine Qaa (v:=int .i64 0) rfl rfl rfl ?_
  refine Qaa (v:=bool false) rfl rfl rfl ?_
  show G _ _ _ _ [_,_,_,_,_,_,_,_,_,_,_,_,_,_,_,_,_,_,_,_,_,_,_,_,_,_,_,_,_,_,_,_,_,_,_,_,_,_,_,_,_,_,_,_,_,_,_,_] _
  refine Qab ?_
  obtain rfl:=QsJ H
  refine Qau Tryd.func26 (v:=tuple #[int .i64 0,bool false]) (resN (l:=Tryd.f26.results.toList) (vs:=[int .i64 0,bool false]) rfl ⟨rfl,rfl,trivial⟩ (by simp)) ?_
  have hs:St _ [] _:=St.take (Γ':=[]) hs
  exact ⟨_,rfl,rfl,hs⟩
 intro hb
 rw [if_neg (b_dec_f hb)] at H
 show G _ _ _ _ [_,_,_,_,_,_,_,_,_,_,_,_,_,_,_,_,_,_,_,_,_,_,_,_,_,_,_,_,_,_,_,_,_,_,_,_,_,_,_,_,_,_,_,_,_,_,_,_] _
 refine Qaa (v:=bool false) rfl rfl rfl ?_
 refine Qaa (v:=string a1) rfl rfl rfl ?_
 obtain ⟨g1,H⟩:=ite_get H
 refine Qaa (v:=int .u8 (btS a1 0)) rfl rfl (Qbh rfl rfl rfl rfl g1.1 g1.2) ?_
 refine Qas (B:=(btS a1 0)==48) rfl rfl rfl ?_ ?_
 ·
  intro hb
  rw [if_pos (b_beq_t hb)] at H
  refine Qaa (v:=bool true) rfl rfl rfl ?_
  refine Qaa (v:=string a1) rfl rfl rfl ?_
  refine Qaa (v:=int .i64 (a1.size:Int)) rfl rfl (Qbf rfl rfl rfl) ?_
  refine Qaa (v:=bool (decide ((a1.size:Int)>1))) rfl rfl rfl ?_
  show G _ _ _ _ [_,_,_,_,_,_,_,_,_,_,_,_,_,_,_,_,_,_,_,_,_,_,_,_,_,_,_,_,_,_,_,_,_,_,_,_,_,_,_,_,_,_,_,_,_,_,_,_] _
  refine Qas (B:=decide ((a1.size:Int)>1)) rfl rfl rfl ?_ ?_
  ·
   intro hb
   rw [if_pos (b_dec_t hb)] at H
   show G _ _ _ _ [_,_,_,_,_,_,_,_,_,_,_,_,_,_,_,_,_,_,_,_,_,_,_,_,_,_,_,_,_,_,_,_,_,_,_,_,_,_,_,_,_,_,_,_,_,_,_,_] _
   refine Qaa (v:=bool true) rfl rfl rfl (Qab (Qak rfl (Qac (Qaj [0,1] rfl ?_))))
   refine Qaa (v:=int .i64 0) rfl rfl rfl ?_
   refine Qaa (v:=bool false) rfl rfl rfl ?_
   show G _ _ _ _ [_,_,_,_,_,_,_,_,_,_,_,_,_,_,_,_,_,_,_,_,_,_,_,_,_,_,_,_,_,_,_,_,_,_,_,_,_,_,_,_,_,_,_,_,_,_,_,_] _
   refine Qab ?_
   obtain rfl:=QsJ H
   refine Qau Tryd.func26 (v:=tuple #[int .i64 0,bool false]) (resN (l:=Tryd.f26.results.toList) (vs:=[int .i64 0,bool false]) rfl ⟨rfl,rfl,trivial⟩ (by simp)) ?_
   have hs:St _ [] _:=St.take (Γ':=[]) hs
   exact ⟨_,rfl,rfl,hs⟩
  intro hb
  rw [if_neg (b_dec_f hb)] at H
  refine Qaa (v:=bool false) rfl rfl rfl (Qab (Qad rfl (Qaw ?_)))
  have hs:St _ [] _:=St.take (Γ':=[]) hs
  exact ha _ _ ⟨H,rfl,hs⟩
 intro hb
 rw [if_neg (b_beq_f hb)] at H
 refine Qaa (v:=bool false) rfl rfl rfl (Qag rfl rfl (Qag rfl rfl ?_))
 show G _ _ _ _ [_,_,_,_,_,_,_,_,_,_,_,_,_,_,_,_,_,_,_,_,_,_,_,_,_,_,_,_,_,_,_,_,_,_,_,_,_,_,_,_,_,_,_,_,_,_,_,_] _
 refine Qag rfl rfl ?_
 refine Qaa (v:=bool false) rfl rfl rfl ?_
 refine Qaa (v:=bool false) rfl rfl rfl ?_
 show G _ _ _ _ [_,_,_,_,_,_,_,_,_,_,_,_,_,_,_,_,_,_,_,_,_,_,_,_,_,_,_,_,_,_,_,_,_,_,_,_,_,_,_,_,_,_,_,_,_,_,_,_] _
 refine Qab (Qad rfl (Qaw ?_))
 have hs:St _ [] _:=St.take (Γ':=[]) hs
 exact ha _ _ ⟨H,rfl,hs⟩
def Qbb.post (w0:World) (r:Bool) (v:Value) (w:World):Prop:=v=bool r∧St w0 [] w
theorem Qbb.calls {N:Nat} {a1:Int} {a2:Int} {a3:Int} {w0:World} {r:Bool} (H:Qbb.f N a1 a2 a3=some r):
 Calls Tryd.prog 51 #[int .i64 a1,int .i64 a2,int .i64 a3] w0 fun e w=>∃ v,e= .returned v∧Qbb.post w0 r v w:=by
 unfold Qbb.f at H
 have hs:St w0 [] w0:=St.refl w0
 refine calls_of_g (n:=12) Tryd.func51 rfl rfl ?_
 show G _ _ _ _ [_,_,_,_,_,_,_,_,_,_,_,_,_,_,_] _
 refine Qac (Qaj [0] rfl ?_)
 refine Qaa (v:=bool false) rfl rfl rfl (Qab (Qac (Qaj [0,1,2,3,4,5,6,7,8] rfl ?_)))
 refine Qaa (v:=int .i64 a1) rfl rfl rfl ?_
 show G _ _ _ _ [_,_,_,_,_,_,_,_,_,_,_,_,_,_,_] _
 refine Qaa (v:=int .i64 a2) rfl rfl rfl ?_
 refine Qas (B:=decide (a1≥a2)) rfl rfl rfl ?_ ?_
 ·
  intro hb
  rw [if_pos (b_dec_t hb)] at H
  show G _ _ _ _ [_,_,_,_,_,_,_,_,_,_,_,_,_,_,_] _
  refine Qaa (v:=bool true) rfl rfl rfl ?_
  refine Qaa (v:=int .i64 a1) rfl rfl rfl ?_
  refine Qaa (v:=int .i64 a3) rfl rfl rfl ?_
  show G _ _ _ _ [_,_,_,_,_,_,_,_,_,_,_,_,_,_,_] _
  refine Qaa (v:=bool (decide (a1≤a3))) rfl rfl rfl ?_
  refine Qaa (v:=bool (decide (a1≤a3))) rfl rfl rfl ?_
  refine Qaa (v:=bool (decide (a1≤a3))) rfl rfl rfl ?_
  show G _ _ _ _ [_,_,_,_,_,_,_,_,_,_,_,_,_,_,_] _
  refine Qab ?_
  obtain rfl:=QsJ H
  refine Qau Tryd.func51 (v:=bool (decide (a1≤a3))) (res1 rfl rfl) ?_
  have hs:St _ [] _:=St.take (Γ':=[]) hs
  exact ⟨_,rfl,rfl,hs⟩
 intro hb
 rw [if_neg (b_dec_f hb)] at H
 refine Qaa (v:=bool false) rfl rfl rfl ?_
 show G _ _ _ _ [_,_,_,_,_,_,_,_,_,_,_,_,_,_,_] _
 refine Qag rfl rfl (Qag rfl rfl (Qag rfl rfl ?_))
 show G _ _ _ _ [_,_,_,_,_,_,_,_,_,_,_,_,_,_,_] _
 refine Qaa (v:=bool false) rfl rfl rfl ?_
 refine Qaa (v:=bool false) rfl rfl rfl (Qab ?_)
 obtain rfl:=QsJ H
 refine Qau Tryd.func51 (v:=bool false) (res1 rfl rfl) ?_
 have hs:St _ [] _:=St.take (Γ':=[]) hs
 exact ⟨_,rfl,rfl,hs⟩
def QaZ.post (w0:World) (r:Bool) (v:Value) (w:World):Prop:=v=bool r∧St w0 [] w
theorem QaZ.calls {N:Nat} {a1:Int} {a2:Int} {w0:World} {r:Bool} (H:QaZ.f N a1 a2=some r):
 Calls Tryd.prog 27 #[int .i64 a1,int .i64 a2] w0 fun e w=>∃ v,e= .returned v∧QaZ.post w0 r v w:=by
 unfold QaZ.f at H
 have hs:St w0 [] w0:=St.refl w0
 refine calls_of_g (n:=9) Tryd.func27 rfl rfl ?_
 show G _ _ _ _ [_,_,_,_,_,_,_,_,_,_,_] _
 refine Qac (Qaj [0] rfl ?_)
 refine Qaa (v:=bool false) rfl rfl rfl (Qab (Qac (Qaj [0,1,2,3,4,5,6] rfl ?_)))
 refine Qaa (v:=int .i64 a1) rfl rfl rfl ?_
 show G _ _ _ _ [_,_,_,_,_,_,_,_,_,_,_] _
 obtain ⟨r3,Hr3,H⟩:=bind_get H
 refine QaA (args:=[int .i64 a1,int .i64 1,int .i64 60]) rfl rfl (Qax rfl (callFunc_enter Tryd.func51 rfl rfl) rfl) (Qbb.calls (a1:=a1) (a2:=1) (a3:=60) Hr3) ?_
 rintro _ w ⟨rfl,hs2⟩
 have hs:St _ [] _:=hs.call hs2
 cases r3 with
 |true=>
  rw [if_pos rfl] at H
  refine Qaa (v:=bool true) rfl rfl rfl ?_
  refine Qaa (v:=int .i64 a2) rfl rfl rfl ?_
  show G _ _ _ _ [_,_,_,_,_,_,_,_,_,_,_] _
  obtain ⟨r4,Hr4,H⟩:=bind_get H
  refine QaA (args:=[int .i64 a2,int .i64 0,int .i64 3]) rfl rfl (Qax rfl (callFunc_enter Tryd.func51 rfl rfl) rfl) (Qbb.calls (a1:=a2) (a2:=0) (a3:=3) Hr4) ?_
  rintro _ w ⟨rfl,hs2⟩
  have hs:St _ [] _:=hs.call hs2
  refine Qaa (v:=bool r4) rfl rfl rfl ?_
  refine Qaa (v:=bool r4) rfl rfl rfl ?_
  show G _ _ _ _ [_,_,_,_,_,_,_,_,_,_,_] _
  refine Qab ?_
  obtain rfl:=QsJ H
  refine Qau Tryd.func27 (v:=bool r4) (res1 rfl rfl) ?_
  have hs:St _ [] _:=St.take (Γ':=[]) hs
  exact ⟨_,rfl,rfl,hs⟩
 |false=>
  rw [if_neg Bool.false_ne_true] at H
  refine Qaa (v:=bool false) rfl rfl rfl (Qag rfl rfl ?_)
  show G _ _ _ _ [_,_,_,_,_,_,_,_,_,_,_] _
  refine Qag rfl rfl ?_
  refine Qaa (v:=bool false) rfl rfl rfl ?_
  refine Qaa (v:=bool false) rfl rfl rfl ?_
  show G _ _ _ _ [_,_,_,_,_,_,_,_,_,_,_] _
  refine Qab ?_
  obtain rfl:=QsJ H
  refine Qau Tryd.func27 (v:=bool false) (res1 rfl rfl) ?_
  have hs:St _ [] _:=St.take (Γ':=[]) hs
  exact ⟨_,rfl,rfl,hs⟩
def QaF.post (w0:World) (r:(Int×Bool)) (v:Value) (w:World):Prop:=v=tuple #[int .u64 r.1,bool r.2]∧St w0 [] w
theorem QaF.calls {N:Nat} {a1:ByteArray} {w0:World} {r:(Int×Bool)} (H:QaF.f N a1=some r):
 Calls Tryd.prog 28 #[string a1] w0 fun e w=>∃ v,e= .returned v∧QaF.post w0 r v w:=by
 unfold QaF.f at H
 have hs:St w0 [] w0:=St.refl w0
 refine calls_of_g (n:=46) Tryd.func28 rfl rfl ?_
 show G _ _ _ _ [_,_,_,_,_,_,_,_,_,_,_,_,_,_,_,_,_,_,_,_,_,_,_,_,_,_,_,_,_,_,_,_,_,_,_,_,_,_,_,_,_,_,_,_,_,_,_] _
 refine Qac (Qaj [0,1] rfl ?_)
 refine Qaa (v:=int .u64 0) rfl rfl rfl ?_
 show G _ _ _ _ [_,_,_,_,_,_,_,_,_,_,_,_,_,_,_,_,_,_,_,_,_,_,_,_,_,_,_,_,_,_,_,_,_,_,_,_,_,_,_,_,_,_,_,_,_,_,_] _
 refine Qaa (v:=bool false) rfl rfl rfl (Qab (Qac (Qaj [0] rfl ?_)))
 refine Qaa (v:=int .u64 0) rfl rfl rfl (Qab (Qac (Qac (Qaj [0] rfl ?_))))
 refine Qaa (v:=int .i64 0) rfl rfl rfl ?_
 show G _ _ _ _ [_,_,_,_,_,_,_,_,_,_,_,_,_,_,_,_,_,_,_,_,_,_,_,_,_,_,_,_,_,_,_,_,_,_,_,_,_,_,_,_,_,_,_,_,_,_,_] _
 refine Qab ?_
 obtain ⟨o1_,Ho,Hr1_⟩:=bind_get H
 refine QaR (J:=fun t w=>∃ x5:Int,QaF.a0 N a1 x5=some r∧Fr t (fun O=>([string a1,O 1,O 2,O 3,int .u64 x5,O 5,O 6,O 7,O 8,O 9,O 10,O 11,O 12,O 13,O 14,O 15,O 16,O 17,O 18,O 19,O 20,O 21,O 22,O 23,O 24,O 25,O 26,O 27,O 28,O 29,O 30,O 31,O 32,O 33,O 34,O 35,O 36,O 37,O 38,O 39,O 40,O 41,O 42,O 43,O 44,O 45,O 46]:List Value))∧St w0 [] w) ?_ ?_
 ·
  rintro t w ⟨x5,H,hf,hs⟩
  obtain ⟨O,rfl⟩:=hf.open
  show G _ _ _ _ [_,_,_,_,_,_,_,_,_,_,_,_,_,_,_,_,_,_,_,_,_,_,_,_,_,_,_,_,_,_,_,_,_,_,_,_,_,_,_,_,_,_,_,_,_,_,_] _
  unfold QaF.a0 at H
  refine Qac (Qaj [0,1,2,3,4,5] rfl ?_)
  refine Qaa (v:=int .u64 x5) rfl rfl rfl ?_
  refine Qaa (v:=string a1) rfl rfl rfl ?_
  refine Qaa (v:=int .i64 (a1.size:Int)) rfl rfl (Qbf rfl rfl rfl) ?_
  show G _ _ _ _ [_,_,_,_,_,_,_,_,_,_,_,_,_,_,_,_,_,_,_,_,_,_,_,_,_,_,_,_,_,_,_,_,_,_,_,_,_,_,_,_,_,_,_,_,_,_,_] _
  refine Qaa (v:=bool ((a1.size:Int)==16)) rfl rfl rfl ?_
  refine Qaa (v:=int .u64 x5) rfl rfl rfl ?_
  refine Qaa (v:=bool ((a1.size:Int)==16)) rfl rfl rfl ?_
  show G _ _ _ _ [_,_,_,_,_,_,_,_,_,_,_,_,_,_,_,_,_,_,_,_,_,_,_,_,_,_,_,_,_,_,_,_,_,_,_,_,_,_,_,_,_,_,_,_,_,_,_] _
  refine Qab ?_
  obtain rfl:=QsJ H
  refine Qau Tryd.func28 (v:=tuple #[int .u64 x5,bool ((a1.size:Int)==16)]) (resN (l:=Tryd.f28.results.toList) (vs:=[int .u64 x5,bool ((a1.size:Int)==16)]) rfl ⟨rfl,rfl,trivial⟩ (by simp)) ?_
  have hs:St _ [] _:=St.take (Γ':=[]) hs
  exact ⟨_,rfl,rfl,hs⟩
 intro ha1_
 have hs:St _ [] _:=St.take (Γ':=[]) hs
 refine QaY (I:=fun n_ t w=>∃ x2:Int,∃ x3:Int,rounds (fun s=>QaF.b0 N a1 s.1 s.2) n_ (x2,x3)=some o1_∧Fr t (fun O=>([string a1,O 1,O 2,O 3,int .u64 x2,int .i64 x3,O 6,O 7,O 8,O 9,O 10,O 11,O 12,O 13,O 14,O 15,O 16,O 17,O 18,O 19,O 20,O 21,O 22,O 23,O 24,O 25,O 26,O 27,O 28,O 29,O 30,O 31,O 32,O 33,O 34,O 35,O 36,O 37,O 38,O 39,O 40,O 41,O 42,O 43,O 44,O 45,O 46]:List Value))∧St w0 [] w) N ⟨0,0,Ho,rfl,hs⟩ ?_ ?_
 ·
  rintro _ _ ⟨x2,x3,h,_⟩
  exact rounds_zero h
 intro n_ ih1_
 rintro t w ⟨x2,x3,Ho,hf,hs⟩
 obtain ⟨O,rfl⟩:=hf.open
 show G _ _ _ _ [_,_,_,_,_,_,_,_,_,_,_,_,_,_,_,_,_,_,_,_,_,_,_,_,_,_,_,_,_,_,_,_,_,_,_,_,_,_,_,_,_,_,_,_,_,_,_] _
 obtain ⟨x2_,H,Hx1_⟩:=rounds_succ Ho
 have H:QaF.b0 N a1 x2 x3=some x2_:=H
 unfold QaF.b0 at H
 refine Qac (Qac (Qaj [0,1,2,3] rfl ?_))
 refine Qaa (v:=int .i64 x3) rfl rfl rfl ?_
 refine Qaa (v:=string a1) rfl rfl rfl ?_
 refine Qaa (v:=int .i64 (a1.size:Int)) rfl rfl (Qbf rfl rfl rfl) ?_
 refine Qas (B:=decide (x3< (a1.size:Int))) rfl rfl rfl ?_ ?_
 ·
  intro hb
  rw [if_pos (b_dec_t hb)] at H
  show G _ _ _ _ [_,_,_,_,_,_,_,_,_,_,_,_,_,_,_,_,_,_,_,_,_,_,_,_,_,_,_,_,_,_,_,_,_,_,_,_,_,_,_,_,_,_,_,_,_,_,_] _
  refine Qab (Qak rfl (Qaw (Qac ?_)))
  refine Qbd (Qac (Qaj [0,1,2,3] rfl ?_))
  refine Qaa (v:=string a1) rfl rfl rfl ?_
  refine Qaa (v:=int .i64 x3) rfl rfl rfl ?_
  obtain ⟨g1,H⟩:=ite_get H
  refine Qaa (v:=int .u8 (btS a1 x3)) rfl rfl (Qbh rfl rfl rfl rfl g1.1 g1.2) ?_
  refine Qaa (v:=int .u8 (btS a1 x3)) rfl rfl rfl (Qab ?_)
  refine QaR (J:=(fun t w=>∃ x4:Int,QaF.j2 N x3 x4=some x2_∧Fr t (fun O=>([string a1,O 1,O 2,O 3,int .u64 x4,int .i64 x3,O 6,O 7,O 8,O 9,O 10,O 11,O 12,O 13,O 14,O 15,O 16,O 17,O 18,O 19,O 20,O 21,O 22,O 23,O 24,O 25,O 26,O 27,O 28,O 29,O 30,O 31,O 32,O 33,O 34,O 35,O 36,O 37,O 38,O 39,O 40,O 41,O 42,O 43,O 44,O 45,O 46]:List Value))∧St w0 [] w)) ?_ ?_
  ·
   rintro t w ⟨x4,H,hf,hs⟩
   obtain ⟨O,rfl⟩:=hf.open
   show G _ _ _ _ [_,_,_,_,_,_,_,_,_,_,_,_,_,_,_,_,_,_,_,_,_,_,_,_,_,_,_,_,_,_,_,_,_,_,_,_,_,_,_,_,_,_,_,_,_,_,_] _
   unfold QaF.j2 at H
   refine QaD (Qaj [0,1,2] rfl ?_)
   refine Qaa (v:=int .i64 x3) rfl rfl rfl ?_
   refine Qaa (v:=int .i64 (i64w (x3+1))) rfl rfl rfl ?_
   refine Qaa (v:=int .i64 (i64w (x3+1))) rfl rfl rfl ?_
   show G _ _ _ _ [_,_,_,_,_,_,_,_,_,_,_,_,_,_,_,_,_,_,_,_,_,_,_,_,_,_,_,_,_,_,_,_,_,_,_,_,_,_,_,_,_,_,_,_,_,_,_] _
   refine Qab ?_
   obtain rfl:=QsJ H
   have hs:St _ [] _:=St.take (Γ':=[]) hs
   exact ih1_ _ _ ⟨x4,i64w (x3+1),Hx1_,rfl,hs⟩
  intro ha
  refine Qac (Qaj [0,1,2,3,4,5,6] rfl ?_)
  refine Qaa (v:=int .u8 (btS a1 x3)) rfl rfl rfl ?_
  refine Qas (B:=decide ((btS a1 x3)≥48)) rfl rfl rfl ?_ ?_
  ·
   intro hb
   rw [if_pos (b_dec_t hb)] at H
   refine Qaa (v:=bool true) rfl rfl rfl ?_
   refine Qaa (v:=int .u8 (btS a1 x3)) rfl rfl rfl ?_
   refine Qaa (v:=bool (decide ((btS a1 x3)≤57))) rfl rfl rfl ?_
   show G _ _ _ _ [_,_,_,_,_,_,_,_,_,_,_,_,_,_,_,_,_,_,_,_,_,_,_,_,_,_,_,_,_,_,_,_,_,_,_,_,_,_,_,_,_,_,_,_,_,_,_] _
   refine Qas (B:=decide ((btS a1 x3)≤57)) rfl rfl rfl ?_ ?_
   ·
    intro hb
    rw [if_pos (b_dec_t hb)] at H
    refine Qaa (v:=bool true) rfl rfl rfl (Qab (Qak rfl (Qaj [0,1,2,3,4,5,6] rfl ?_)))
    refine Qaa (v:=int .u64 x2) rfl rfl rfl ?_
    refine Qaa (v:=int .u64 (shlI .u64 x2 4)) rfl rfl rfl ?_
    show G _ _ _ _ [_,_,_,_,_,_,_,_,_,_,_,_,_,_,_,_,_,_,_,_,_,_,_,_,_,_,_,_,_,_,_,_,_,_,_,_,_,_,_,_,_,_,_,_,_,_,_] _
    refine Qaa (v:=int .u8 (btS a1 x3)) rfl rfl rfl ?_
    refine Qaa (v:=int .u8 (u8w ((btS a1 x3) - 48))) rfl rfl rfl ?_
    refine Qaa (v:=int .u64 (u64w (u8w ((btS a1 x3) - 48)))) rfl rfl rfl ?_
    refine Qaa (v:=int .u64 (bOr .u64 (shlI .u64 x2 4) (u64w (u8w ((btS a1 x3) - 48))))) rfl rfl rfl ?_
    refine Qaa (v:=int .u64 (bOr .u64 (shlI .u64 x2 4) (u64w (u8w ((btS a1 x3) - 48))))) rfl rfl rfl ?_
    show G _ _ _ _ [_,_,_,_,_,_,_,_,_,_,_,_,_,_,_,_,_,_,_,_,_,_,_,_,_,_,_,_,_,_,_,_,_,_,_,_,_,_,_,_,_,_,_,_,_,_,_] _
    refine Qab ?_
    refine QaD ?_
    have hs:St _ [] _:=St.take (Γ':=[]) hs
    exact ha _ _ ⟨bOr .u64 (shlI .u64 x2 4) (u64w (u8w ((btS a1 x3) - 48))),H,rfl,hs⟩
   intro hb
   rw [if_neg (b_dec_f hb)] at H
   refine Qaa (v:=bool false) rfl rfl rfl (Qab (Qad rfl (Qac (Qaj [0,1,2,3,4,5,6] rfl ?_))))
   refine Qaa (v:=int .u8 (btS a1 x3)) rfl rfl rfl ?_
   refine Qas (B:=decide ((btS a1 x3)≥97)) rfl rfl rfl ?_ ?_
   ·
    intro hb
    rw [if_pos (b_dec_t hb)] at H
    show G _ _ _ _ [_,_,_,_,_,_,_,_,_,_,_,_,_,_,_,_,_,_,_,_,_,_,_,_,_,_,_,_,_,_,_,_,_,_,_,_,_,_,_,_,_,_,_,_,_,_,_] _
    refine Qaa (v:=bool true) rfl rfl rfl ?_
    refine Qaa (v:=int .u8 (btS a1 x3)) rfl rfl rfl ?_
    refine Qaa (v:=bool (decide ((btS a1 x3)≤102))) rfl rfl rfl ?_
    refine Qas (B:=decide ((btS a1 x3)≤102)) rfl rfl rfl ?_ ?_
    ·
     intro hb
     rw [if_pos (b_dec_t hb)] at H
     show G _ _ _ _ [_,_,_,_,_,_,_,_,_,_,_,_,_,_,_,_,_,_,_,_,_,_,_,_,_,_,_,_,_,_,_,_,_,_,_,_,_,_,_,_,_,_,_,_,_,_,_] _
     refine Qaa (v:=bool true) rfl rfl rfl (Qab (Qak rfl (Qaj [0,1,2,3,4,5,6,7] rfl ?_)))
     refine Qaa (v:=int .u64 x2) rfl rfl rfl ?_
     refine Qaa (v:=int .u64 (shlI .u64 x2 4)) rfl rfl rfl ?_
     refine Qaa (v:=int .u8 (btS a1 x3)) rfl rfl rfl ?_
     refine Qaa (v:=int .u8 (u8w ((btS a1 x3) - 97))) rfl rfl rfl ?_
     show G _ _ _ _ [_,_,_,_,_,_,_,_,_,_,_,_,_,_,_,_,_,_,_,_,_,_,_,_,_,_,_,_,_,_,_,_,_,_,_,_,_,_,_,_,_,_,_,_,_,_,_] _
     refine Qaa (v:=int .u64 (u64w (u8w ((btS a1 x3) - 97)))) rfl rfl rfl ?_
     refine Qaa (v:=int .u64 (bOr .u64 (shlI .u64 x2 4) (u64w (u8w ((btS a1 x3) - 97))))) rfl rfl rfl ?_
     refine Qaa (v:=int .u64 (u64w ((bOr .u64 (shlI .u64 x2 4) (u64w (u8w ((btS a1 x3) - 97))))+10))) rfl rfl rfl ?_
     refine Qaa (v:=int .u64 (u64w ((bOr .u64 (shlI .u64 x2 4) (u64w (u8w ((btS a1 x3) - 97))))+10))) rfl rfl rfl ?_
     show G _ _ _ _ [_,_,_,_,_,_,_,_,_,_,_,_,_,_,_,_,_,_,_,_,_,_,_,_,_,_,_,_,_,_,_,_,_,_,_,_,_,_,_,_,_,_,_,_,_,_,_] _
     refine Qab ?_
     refine QaD ?_
     have hs:St _ [] _:=St.take (Γ':=[]) hs
     exact ha _ _ ⟨u64w ((bOr .u64 (shlI .u64 x2 4) (u64w (u8w ((btS a1 x3) - 97))))+10),H,rfl,hs⟩
    intro hb
    rw [if_neg (b_dec_f hb)] at H
    refine Qaa (v:=bool false) rfl rfl rfl ?_
    show G _ _ _ _ [_,_,_,_,_,_,_,_,_,_,_,_,_,_,_,_,_,_,_,_,_,_,_,_,_,_,_,_,_,_,_,_,_,_,_,_,_,_,_,_,_,_,_,_,_,_,_] _
    refine Qab (Qad rfl (Qac (Qaj [0,1] rfl ?_)))
    refine Qaa (v:=int .u64 0) rfl rfl rfl ?_
    refine Qaa (v:=bool false) rfl rfl rfl (Qab ?_)
    obtain rfl:=QsJ H
    subst Hx1_
    have H:=QsJ Hr1_
    subst H
    refine Qau Tryd.func28 (v:=tuple #[int .u64 0,bool false]) (resN (l:=Tryd.f28.results.toList) (vs:=[int .u64 0,bool false]) rfl ⟨rfl,rfl,trivial⟩ (by simp)) ?_
    have hs:St _ [] _:=St.take (Γ':=[]) hs
    exact ⟨_,rfl,rfl,hs⟩
   intro hb
   rw [if_neg (b_dec_f hb)] at H
   show G _ _ _ _ [_,_,_,_,_,_,_,_,_,_,_,_,_,_,_,_,_,_,_,_,_,_,_,_,_,_,_,_,_,_,_,_,_,_,_,_,_,_,_,_,_,_,_,_,_,_,_] _
   refine Qaa (v:=bool false) rfl rfl rfl (Qag rfl rfl (Qag rfl rfl ?_))
   refine Qaa (v:=bool false) rfl rfl rfl ?_
   refine Qaa (v:=bool false) rfl rfl rfl ?_
   show G _ _ _ _ [_,_,_,_,_,_,_,_,_,_,_,_,_,_,_,_,_,_,_,_,_,_,_,_,_,_,_,_,_,_,_,_,_,_,_,_,_,_,_,_,_,_,_,_,_,_,_] _
   refine Qab (Qad rfl (Qac (Qaj [0,1] rfl ?_)))
   refine Qaa (v:=int .u64 0) rfl rfl rfl ?_
   refine Qaa (v:=bool false) rfl rfl rfl (Qab ?_)
   obtain rfl:=QsJ H
   subst Hx1_
   have H:=QsJ Hr1_
   subst H
   refine Qau Tryd.func28 (v:=tuple #[int .u64 0,bool false]) (resN (l:=Tryd.f28.results.toList) (vs:=[int .u64 0,bool false]) rfl ⟨rfl,rfl,trivial⟩ (by simp)) ?_
   have hs:St _ [] _:=St.take (Γ':=[]) hs
   exact ⟨_,rfl,rfl,hs⟩
  intro hb
  rw [if_neg (b_dec_f hb)] at H
  show G _ _ _ _ [_,_,_,_,_,_,_,_,_,_,_,_,_,_,_,_,_,_,_,_,_,_,_,_,_,_,_,_,_,_,_,_,_,_,_,_,_,_,_,_,_,_,_,_,_,_,_] _
  refine Qaa (v:=bool false) rfl rfl rfl (Qag rfl rfl (Qag rfl rfl ?_))
  refine Qaa (v:=bool false) rfl rfl rfl ?_
  refine Qaa (v:=bool false) rfl rfl rfl ?_
  show G _ _ _ _ [_,_,_,_,_,_,_,_,_,_,_,_,_,_,_,_,_,_,_,_,_,_,_,_,_,_,_,_,_,_,_,_,_,_,_,_,_,_,_,_,_,_,_,_,_,_,_] _
  refine Qab (Qad rfl (Qac (Qaj [0,1,2,3,4,5,6] rfl ?_)))
  refine Qaa (v:=int .u8 (btS a1 x3)) rfl rfl rfl ?_
  refine Qas (B:=decide ((btS a1 x3)≥97)) rfl rfl rfl ?_ ?_
  ·
   intro hb
   rw [if_pos (b_dec_t hb)] at H
   refine Qaa (v:=bool true) rfl rfl rfl ?_
   refine Qaa (v:=int .u8 (btS a1 x3)) rfl rfl rfl ?_
   refine Qaa (v:=bool (decide ((btS a1 x3)≤102))) rfl rfl rfl ?_
   refine Qas (B:=decide ((btS a1 x3)≤102)) rfl rfl rfl ?_ ?_
   ·
    intro hb
    rw [if_pos (b_dec_t hb)] at H
    refine Qaa (v:=bool true) rfl rfl rfl (Qab (Qak rfl (Qaj [0,1,2,3,4,5,6,7] rfl ?_)))
    refine Qaa (v:=int .u64 x2) rfl rfl rfl ?_
    refine Qaa (v:=int .u64 (shlI .u64 x2 4)) rfl rfl rfl ?_
    show G _ _ _ _ [_,_,_,_,_,_,_,_,_,_,_,_,_,_,_,_,_,_,_,_,_,_,_,_,_,_,_,_,_,_,_,_,_,_,_,_,_,_,_,_,_,_,_,_,_,_,_] _
    refine Qaa (v:=int .u8 (btS a1 x3)) rfl rfl rfl ?_
    refine Qaa (v:=int .u8 (u8w ((btS a1 x3) - 97))) rfl rfl rfl ?_
    refine Qaa (v:=int .u64 (u64w (u8w ((btS a1 x3) - 97)))) rfl rfl rfl ?_
    refine Qaa (v:=int .u64 (bOr .u64 (shlI .u64 x2 4) (u64w (u8w ((btS a1 x3) - 97))))) rfl rfl rfl ?_
    refine Qaa (v:=int .u64 (u64w ((bOr .u64 (shlI .u64 x2 4) (u64w (u8w ((btS a1 x3) - 97))))+10))) rfl rfl rfl ?_
    show G _ _ _ _ [_,_,_,_,_,_,_,_,_,_,_,_,_,_,_,_,_,_,_,_,_,_,_,_,_,_,_,_,_,_,_,_,_,_,_,_,_,_,_,_,_,_,_,_,_,_,_] _
    refine Qaa (v:=int .u64 (u64w ((bOr .u64 (shlI .u64 x2 4) (u64w (u8w ((btS a1 x3) - 97))))+10))) rfl rfl rfl (Qab ?_)
    refine QaD ?_
    have hs:St _ [] _:=St.take (Γ':=[]) hs
    exact ha _ _ ⟨u64w ((bOr .u64 (shlI .u64 x2 4) (u64w (u8w ((btS a1 x3) - 97))))+10),H,rfl,hs⟩
   intro hb
   rw [if_neg (b_dec_f hb)] at H
   show G _ _ _ _ [_,_,_,_,_,_,_,_,_,_,_,_,_,_,_,_,_,_,_,_,_,_,_,_,_,_,_,_,_,_,_,_,_,_,_,_,_,_,_,_,_,_,_,_,_,_,_] _
   refine Qaa (v:=bool false) rfl rfl rfl (Qab (Qad rfl (Qac (Qaj [0,1] rfl ?_))))
   refine Qaa (v:=int .u64 0) rfl rfl rfl ?_
   refine Qaa (v:=bool false) rfl rfl rfl ?_
   show G _ _ _ _ [_,_,_,_,_,_,_,_,_,_,_,_,_,_,_,_,_,_,_,_,_,_,_,_,_,_,_,_,_,_,_,_,_,_,_,_,_,_,_,_,_,_,_,_,_,_,_] _
   refine Qab ?_
   obtain rfl:=QsJ H
   subst Hx1_
   have H:=QsJ Hr1_
   subst H
   refine Qau Tryd.func28 (v:=tuple #[int .u64 0,bool false]) (resN (l:=Tryd.f28.results.toList) (vs:=[int .u64 0,bool false]) rfl ⟨rfl,rfl,trivial⟩ (by simp)) ?_
   have hs:St _ [] _:=St.take (Γ':=[]) hs
   exact ⟨_,rfl,rfl,hs⟩
  intro hb
  rw [if_neg (b_dec_f hb)] at H
  refine Qaa (v:=bool false) rfl rfl rfl (Qag rfl rfl (Qag rfl rfl ?_))
  refine Qaa (v:=bool false) rfl rfl rfl ?_
  show G _ _ _ _ [_,_,_,_,_,_,_,_,_,_,_,_,_,_,_,_,_,_,_,_,_,_,_,_,_,_,_,_,_,_,_,_,_,_,_,_,_,_,_,_,_,_,_,_,_,_,_] _
  refine Qaa (v:=bool false) rfl rfl rfl (Qab (Qad rfl (Qac (Qaj [0,1] rfl ?_))))
  refine Qaa (v:=int .u64 0) rfl rfl rfl ?_
  refine Qaa (v:=bool false) rfl rfl rfl ?_
  show G _ _ _ _ [_,_,_,_,_,_,_,_,_,_,_,_,_,_,_,_,_,_,_,_,_,_,_,_,_,_,_,_,_,_,_,_,_,_,_,_,_,_,_,_,_,_,_,_,_,_,_] _
  refine Qab ?_
  obtain rfl:=QsJ H
  subst Hx1_
  have H:=QsJ Hr1_
  subst H
  refine Qau Tryd.func28 (v:=tuple #[int .u64 0,bool false]) (resN (l:=Tryd.f28.results.toList) (vs:=[int .u64 0,bool false]) rfl ⟨rfl,rfl,trivial⟩ (by simp)) ?_
  have hs:St _ [] _:=St.take (Γ':=[]) hs
  exact ⟨_,rfl,rfl,hs⟩
 intro hb
 rw [if_neg (b_dec_f hb)] at H
 refine Qab (Qad rfl ?_)
 obtain rfl:=QsJ H
 subst Hx1_
 have hs:St _ [] _:=St.take (Γ':=[]) hs
 refine Qbi rfl ?_
 exact ha1_ _ _ ⟨x2,Hr1_,rfl,hs⟩
def Qbc.post (w0:World) (r:Int) (v:Value) (w:World):Prop:=v=int .u64 r∧St w0 [] w
theorem Qbc.calls {N:Nat} {a1:Int} {w0:World} {r:Int} (H:Qbc.f N a1=some r):
 Calls Tryd.prog 35 #[int .i64 a1] w0 fun e w=>∃ v,e= .returned v∧Qbc.post w0 r v w:=by
 unfold Qbc.f at H
 have hs:St w0 [] w0:=St.refl w0
 refine calls_of_g (n:=6) Tryd.func35 rfl rfl ?_
 show G _ _ _ _ [_,_,_,_,_,_,_] _
 refine Qac (Qaj [0] rfl ?_)
 refine Qaa (v:=int .u64 0) rfl rfl rfl ?_
 show G _ _ _ _ [_,_,_,_,_,_,_] _
 refine Qab (Qac (Qaj [0,1,2,3,4] rfl ?_))
 refine Qaa (v:=int .i64 a1) rfl rfl rfl ?_
 refine Qaa (v:=int .i64 (i64w (64 - a1))) rfl rfl rfl ?_
 refine Qaa (v:=int .u64 (u64w (i64w (64 - a1)))) rfl rfl rfl ?_
 show G _ _ _ _ [_,_,_,_,_,_,_] _
 obtain ⟨g1,H⟩:=ite_get H
 refine Qaa (v:=int .u64 (shrI .u64 18446744073709551615 (u64w (i64w (64 - a1))))) rfl rfl (QbY rfl rfl rfl g1) ?_
 refine Qaa (v:=int .u64 (shrI .u64 18446744073709551615 (u64w (i64w (64 - a1))))) rfl rfl rfl (Qab ?_)
 obtain rfl:=QsJ H
 refine Qau Tryd.func35 (v:=int .u64 (shrI .u64 18446744073709551615 (u64w (i64w (64 - a1))))) (res1 rfl rfl) ?_
 have hs:St _ [] _:=St.take (Γ':=[]) hs
 exact ⟨_,rfl,rfl,hs⟩
def QaU.post (w0:World) (r:Bool) (v:Value) (w:World):Prop:=v=bool r∧St w0 [] w
theorem QaU.calls {N:Nat} {a1:Qao} {b2:Nat} {v3:Value} {w0:World} {r:Bool} (hr4:RdRow Qav w0 v3 a1.Qap) (hp0:w0.heap[b2]?=some (.cells ((([int .i8 a1.Qai,int .i8 a1.Qaq,v3]:List Value)):List Value).toArray 30 (0,0))) (H:QaU.f N a1=some r):
 Calls Tryd.prog 15 #[pointer (some ⟨b2,0,none⟩)] w0 fun e w=>∃ v,e= .returned v∧QaU.post w0 r v w:=by
 unfold QaU.f at H
 have hs:St w0 [] w0:=St.refl w0
 refine calls_of_g (n:=48) Tryd.func15 rfl rfl ?_
 show G _ _ _ _ [_,_,_,_,_,_,_,_,_,_,_,_,_,_,_,_,_,_,_,_,_,_,_,_,_,_,_,_,_,_,_,_,_,_,_,_,_,_,_,_,_,_,_,_,_,_,_,_,_] _
 refine Qac (Qaj [0] rfl ?_)
 refine Qaa (v:=bool false) rfl rfl rfl ?_
 show G _ _ _ _ [_,_,_,_,_,_,_,_,_,_,_,_,_,_,_,_,_,_,_,_,_,_,_,_,_,_,_,_,_,_,_,_,_,_,_,_,_,_,_,_,_,_,_,_,_,_,_,_,_] _
 refine Qab (Qac (Qac ?_))
 refine QbI (n:=20) rfl [0,1,2,3,4,5,6,7,8,9,10,11,12,13,14,15,16,17,18,19] [0,1,2,3,4,5,6,7,8,9,10,11,12,13,14,15,16,17,18,19] rfl rfl ?_
 intro rest w hh hbw hO
 have hs:=hs.samew hh hbw
 show G _ _ _ _ [_,_,_,_,_,_,_,_,_,_,_,_,_,_,_,_,_,_,_,_,_,_,_,_,_,_,_,_,_,_,_,_,_,_,_,_,_,_,_,_,_,_,_,_,_,_,_,_,_] _
 refine Qbt ?_
 intro T hT
 refine Qbz (m0:=0) hO rfl 1023 [0,1,2,3,4,5,6,7,8,9] [0,1,3,7,15,0,32,96,224,480,1023,2047,4095,8191,16383,32767,65535,131071,262143,524287] (by decide+kernel) (fun D t w=>∃ O:Nat→Value,t=[pointer (some ⟨b2,0,none⟩),O 1,bool false,O 3,cnd (D 0) (pointer (some ⟨b2,0,none⟩)) (O 4),cnd (D 1) (pointer (some ⟨b2,0,none⟩)) (O 5),cnd (D 2) (pointer (some ⟨b2,0,none⟩)) (O 6),cnd (D 3) (int .i8 a1.Qai) (O 7),cnd (D 4) (int .i64 (i64w a1.Qai)) (O 8),cnd (D 5) (pointer (some ⟨b2,0,none⟩)) (O 9),cnd (D 6) (pointer (some ⟨b2,0,none⟩)) (O 10),cnd (D 7) (pointer (some ⟨b2,1,none⟩)) (O 11),cnd (D 8) (int .i8 a1.Qaq) (O 12),cnd (D 9) (int .i64 (i64w a1.Qaq)) (O 13),O 14,O 15,O 16,O 17,O 18,O 19,O 20,O 21,O 22,O 23,O 24,O 25,O 26,O 27,O 28,O 29,O 30,O 31,O 32,O 33,O 34,O 35,O 36,O 37,O 38,O 39,O 40,O 41,O 42,O 43,O 44,O 45,O 46,O 47,O 48]∧St w0 [] w) ?_ ⟨?_,⟨?_,⟨?_,⟨?_,⟨?_,⟨?_,⟨?_,⟨?_,⟨?_,⟨?_,trivial⟩⟩⟩⟩⟩⟩⟩⟩⟩⟩ ?_
 ·exact ⟨fun i=>T.getD i undef,(by subst hT;rfl),hs⟩
 ·
  rintro D t w hD hp hcl ⟨O,ht,hs⟩ rest hk
  have hp:AllDone D []:=hp
  have q1_:=ny hcl 1 0 hD
  have q2_:=ny hcl 2 0 q1_
  have q3_:=ny hcl 3 0 q2_
  have q4_:=ny hcl 4 0 q3_
  simp only [hD,q1_,q2_,q3_,q4_,cq,oT] at ht hs
  subst ht
  refine Qaa (v:=pointer (some ⟨b2,0,none⟩)) rfl rfl rfl ?_
  show G _ _ _ _ [_,_,_,_,_,_,_,_,_,_,_,_,_,_,_,_,_,_,_,_,_,_,_,_,_,_,_,_,_,_,_,_,_,_,_,_,_,_,_,_,_,_,_,_,_,_,_,_,_] _
  refine hk _ _ ⟨O,?_,hs.cast ?_⟩<;>simp only [oT,lq,cq,Nat.reduceBEq,q1_,q2_,q3_,q4_]
 ·
  rintro D t w hD hp hcl ⟨O,ht,hs⟩ rest hk
  have hp:AllDone D [0]:=hp
  obtain ⟨p0_,_⟩:=hp
  have q2_:=ny hcl 2 0 hD
  have q3_:=ny hcl 3 0 q2_
  have q4_:=ny hcl 4 0 q3_
  simp only [hD,p0_,q2_,q3_,q4_,cq,oT] at ht hs
  subst ht
  refine Qaa (v:=pointer (some ⟨b2,0,none⟩)) rfl rfl rfl ?_
  show G _ _ _ _ [_,_,_,_,_,_,_,_,_,_,_,_,_,_,_,_,_,_,_,_,_,_,_,_,_,_,_,_,_,_,_,_,_,_,_,_,_,_,_,_,_,_,_,_,_,_,_,_,_] _
  refine hk _ _ ⟨O,?_,hs.cast ?_⟩<;>simp only [oT,lq,cq,Nat.reduceBEq,p0_,q2_,q3_,q4_]
 ·
  rintro D t w hD hp hcl ⟨O,ht,hs⟩ rest hk
  have hp:AllDone D [1]:=hp
  obtain ⟨p1_,_⟩:=hp
  obtain ⟨p0_,_⟩:=(show D 1=true→AllDone D [0] from hcl 1 (by decide)) p1_
  have q3_:=ny hcl 3 0 hD
  have q4_:=ny hcl 4 0 q3_
  simp only [hD,p0_,p1_,q3_,q4_,cq,oT] at ht hs
  subst ht
  refine Qaa (v:=pointer (some ⟨b2,0,none⟩)) rfl rfl rfl ?_
  show G _ _ _ _ [_,_,_,_,_,_,_,_,_,_,_,_,_,_,_,_,_,_,_,_,_,_,_,_,_,_,_,_,_,_,_,_,_,_,_,_,_,_,_,_,_,_,_,_,_,_,_,_,_] _
  refine hk _ _ ⟨O,?_,hs.cast ?_⟩<;>simp only [oT,lq,cq,Nat.reduceBEq,p0_,p1_,q3_,q4_]
 ·
  rintro D t w hD hp hcl ⟨O,ht,hs⟩ rest hk
  have hp:AllDone D [2]:=hp
  obtain ⟨p2_,_⟩:=hp
  obtain ⟨p1_,_⟩:=(show D 2=true→AllDone D [1] from hcl 2 (by decide)) p2_
  obtain ⟨p0_,_⟩:=(show D 1=true→AllDone D [0] from hcl 1 (by decide)) p1_
  have q4_:=ny hcl 4 0 hD
  simp only [hD,p0_,p1_,p2_,q4_,cq,oT] at ht hs
  subst ht
  refine QaI rfl rfl (v:=int .i8 a1.Qai) rfl rfl (fun _=>rfl) (cells_load (hs.box hp0) 0 1 rfl) ?_
  show G _ _ _ _ [_,_,_,_,_,_,_,_,_,_,_,_,_,_,_,_,_,_,_,_,_,_,_,_,_,_,_,_,_,_,_,_,_,_,_,_,_,_,_,_,_,_,_,_,_,_,_,_,_] _
  refine hk _ _ ⟨O,?_,hs.cast ?_⟩<;>simp only [oT,lq,cq,Nat.reduceBEq,p0_,p1_,p2_,q4_]
 ·
  rintro D t w hD hp hcl ⟨O,ht,hs⟩ rest hk
  have hp:AllDone D [3]:=hp
  obtain ⟨p3_,_⟩:=hp
  obtain ⟨p2_,_⟩:=(show D 3=true→AllDone D [2] from hcl 3 (by decide)) p3_
  obtain ⟨p1_,_⟩:=(show D 2=true→AllDone D [1] from hcl 2 (by decide)) p2_
  obtain ⟨p0_,_⟩:=(show D 1=true→AllDone D [0] from hcl 1 (by decide)) p1_
  simp only [hD,p0_,p1_,p2_,p3_,cq,oT] at ht hs
  subst ht
  refine Qaa (v:=int .i64 (i64w a1.Qai)) rfl rfl rfl ?_
  show G _ _ _ _ [_,_,_,_,_,_,_,_,_,_,_,_,_,_,_,_,_,_,_,_,_,_,_,_,_,_,_,_,_,_,_,_,_,_,_,_,_,_,_,_,_,_,_,_,_,_,_,_,_] _
  refine hk _ _ ⟨O,?_,hs.cast ?_⟩<;>simp only [oT,lq,cq,Nat.reduceBEq,p0_,p1_,p2_,p3_]
 ·
  rintro D t w hD hp hcl ⟨O,ht,hs⟩ rest hk
  have hp:AllDone D []:=hp
  have q6_:=ny hcl 6 0 hD
  have q7_:=ny hcl 7 0 q6_
  have q8_:=ny hcl 8 0 q7_
  have q9_:=ny hcl 9 0 q8_
  simp only [hD,q6_,q7_,q8_,q9_,cq,oT] at ht hs
  subst ht
  refine Qaa (v:=pointer (some ⟨b2,0,none⟩)) rfl rfl rfl ?_
  show G _ _ _ _ [_,_,_,_,_,_,_,_,_,_,_,_,_,_,_,_,_,_,_,_,_,_,_,_,_,_,_,_,_,_,_,_,_,_,_,_,_,_,_,_,_,_,_,_,_,_,_,_,_] _
  refine hk _ _ ⟨O,?_,hs.cast ?_⟩<;>simp only [oT,lq,cq,Nat.reduceBEq,q6_,q7_,q8_,q9_]
 ·
  rintro D t w hD hp hcl ⟨O,ht,hs⟩ rest hk
  have hp:AllDone D [5]:=hp
  obtain ⟨p5_,_⟩:=hp
  have q7_:=ny hcl 7 0 hD
  have q8_:=ny hcl 8 0 q7_
  have q9_:=ny hcl 9 0 q8_
  simp only [hD,p5_,q7_,q8_,q9_,cq,oT] at ht hs
  subst ht
  refine Qaa (v:=pointer (some ⟨b2,0,none⟩)) rfl rfl rfl ?_
  show G _ _ _ _ [_,_,_,_,_,_,_,_,_,_,_,_,_,_,_,_,_,_,_,_,_,_,_,_,_,_,_,_,_,_,_,_,_,_,_,_,_,_,_,_,_,_,_,_,_,_,_,_,_] _
  refine hk _ _ ⟨O,?_,hs.cast ?_⟩<;>simp only [oT,lq,cq,Nat.reduceBEq,p5_,q7_,q8_,q9_]
 ·
  rintro D t w hD hp hcl ⟨O,ht,hs⟩ rest hk
  have hp:AllDone D [6]:=hp
  obtain ⟨p6_,_⟩:=hp
  obtain ⟨p5_,_⟩:=(show D 6=true→AllDone D [5] from hcl 6 (by decide)) p6_
  have q8_:=ny hcl 8 0 hD
  have q9_:=ny hcl 9 0 q8_
  simp only [hD,p5_,p6_,q8_,q9_,cq,oT] at ht hs
  subst ht
  refine Qaa (v:=pointer (some ⟨b2,1,none⟩)) rfl rfl rfl ?_
  show G _ _ _ _ [_,_,_,_,_,_,_,_,_,_,_,_,_,_,_,_,_,_,_,_,_,_,_,_,_,_,_,_,_,_,_,_,_,_,_,_,_,_,_,_,_,_,_,_,_,_,_,_,_] _
  refine hk _ _ ⟨O,?_,hs.cast ?_⟩<;>simp only [oT,lq,cq,Nat.reduceBEq,p5_,p6_,q8_,q9_]
 ·
  rintro D t w hD hp hcl ⟨O,ht,hs⟩ rest hk
  have hp:AllDone D [7]:=hp
  obtain ⟨p7_,_⟩:=hp
  obtain ⟨p6_,_⟩:=(show D 7=true→AllDone D [6] from hcl 7 (by decide)) p7_
  obtain ⟨p5_,_⟩:=(show D 6=true→AllDone D [5] from hcl 6 (by decide)) p6_
  have q9_:=ny hcl 9 0 hD
  simp only [hD,p5_,p6_,p7_,q9_,cq,oT] at ht hs
  subst ht
  refine QaI rfl rfl (v:=int .i8 a1.Qaq) rfl rfl (fun _=>rfl) (cells_load (hs.box hp0) 1 1 rfl) ?_
  show G _ _ _ _ [_,_,_,_,_,_,_,_,_,_,_,_,_,_,_,_,_,_,_,_,_,_,_,_,_,_,_,_,_,_,_,_,_,_,_,_,_,_,_,_,_,_,_,_,_,_,_,_,_] _
  refine hk _ _ ⟨O,?_,hs.cast ?_⟩<;>simp only [oT,lq,cq,Nat.reduceBEq,p5_,p6_,p7_,q9_]
 ·
  rintro D t w hD hp hcl ⟨O,ht,hs⟩ rest hk
  have hp:AllDone D [8]:=hp
  obtain ⟨p8_,_⟩:=hp
  obtain ⟨p7_,_⟩:=(show D 8=true→AllDone D [7] from hcl 8 (by decide)) p8_
  obtain ⟨p6_,_⟩:=(show D 7=true→AllDone D [6] from hcl 7 (by decide)) p7_
  obtain ⟨p5_,_⟩:=(show D 6=true→AllDone D [5] from hcl 6 (by decide)) p6_
  simp only [hD,p5_,p6_,p7_,p8_,cq,oT] at ht hs
  subst ht
  refine Qaa (v:=int .i64 (i64w a1.Qaq)) rfl rfl rfl ?_
  show G _ _ _ _ [_,_,_,_,_,_,_,_,_,_,_,_,_,_,_,_,_,_,_,_,_,_,_,_,_,_,_,_,_,_,_,_,_,_,_,_,_,_,_,_,_,_,_,_,_,_,_,_,_] _
  refine hk _ _ ⟨O,?_,hs.cast ?_⟩<;>simp only [oT,lq,cq,Nat.reduceBEq,p5_,p6_,p7_,p8_]
 intro D t w rest hall hO1_ hI
 obtain ⟨O,ht,hs⟩:=hI
 have p0_:=hall 0 (by decide) rfl
 have p1_:=hall 1 (by decide) rfl
 have p2_:=hall 2 (by decide) rfl
 have p3_:=hall 3 (by decide) rfl
 have p4_:=hall 4 (by decide) rfl
 have p5_:=hall 5 (by decide) rfl
 have p6_:=hall 6 (by decide) rfl
 have p7_:=hall 7 (by decide) rfl
 have p8_:=hall 8 (by decide) rfl
 have p9_:=hall 9 (by decide) rfl
 simp only [p0_,p1_,p2_,p3_,p4_,p5_,p6_,p7_,p8_,p9_,cq,oT] at ht hs
 subst ht
 obtain ⟨rest,rfl,hO2_⟩:=ord_one (m:=1023) hO1_ rfl 10 (m':=2047) (by decide+kernel) rfl
 clear hO1_
 obtain ⟨r6,Hr6,H⟩:=bind_get H
 refine QaA (args:=[int .i64 (i64w a1.Qai),int .i64 (i64w a1.Qaq)]) rfl rfl (Qax rfl (callFunc_enter Tryd.func27 rfl rfl) rfl) (QaZ.calls (a1:=i64w a1.Qai) (a2:=i64w a1.Qaq) Hr6) ?_
 rintro _ w ⟨rfl,hs2⟩
 have hs:St _ [] _:=hs.call hs2
 cases r6 with
 |true=>
  rw [if_pos rfl] at H
  show G _ _ _ _ [_,_,_,_,_,_,_,_,_,_,_,_,_,_,_,_,_,_,_,_,_,_,_,_,_,_,_,_,_,_,_,_,_,_,_,_,_,_,_,_,_,_,_,_,_,_,_,_,_] _
  obtain ⟨rest,rfl,hO3_⟩:=ord_one (m:=2047) hO2_ rfl 11 (m':=4095) (by decide+kernel) rfl
  clear hO2_
  refine Qaa (v:=bool false) rfl rfl rfl ?_
  obtain ⟨rest,rfl,hO4_⟩:=ord_one (m:=4095) hO3_ rfl 12 (m':=8191) (by decide+kernel) rfl
  clear hO3_
  refine Qaa (v:=bool false) rfl rfl rfl ?_
  obtain ⟨rest,rfl,hO5_⟩:=ord_one (m:=8191) hO4_ rfl 13 (m':=16383) (by decide+kernel) rfl
  clear hO4_
  refine Qaa (v:=pointer (some ⟨b2,0,none⟩)) rfl rfl rfl ?_
  obtain ⟨rest,rfl,hO6_⟩:=ord_one (m:=16383) hO5_ rfl 14 (m':=32767) (by decide+kernel) rfl
  clear hO5_
  refine Qaa (v:=pointer (some ⟨b2,0,none⟩)) rfl rfl rfl ?_
  obtain ⟨rest,rfl,hO7_⟩:=ord_one (m:=32767) hO6_ rfl 15 (m':=65535) (by decide+kernel) rfl
  clear hO6_
  refine Qaa (v:=pointer (some ⟨b2,2,none⟩)) rfl rfl rfl ?_
  obtain ⟨rest,rfl,hO8_⟩:=ord_one (m:=65535) hO7_ rfl 16 (m':=131071) (by decide+kernel) rfl
  clear hO7_
  refine QaI rfl rfl (v:=v3) rfl rfl (fun _=>rfl) (cells_load (hs.box hp0) 2 1 rfl) ?_
  obtain ⟨rest,rfl,hO9_⟩:=ord_one (m:=131071) hO8_ rfl 17 (m':=262143) (by decide+kernel) rfl
  clear hO8_
  refine Qbn (hs.rd hr4) rfl rfl rfl rfl rfl ?_
  show G _ _ _ _ [_,_,_,_,_,_,_,_,_,_,_,_,_,_,_,_,_,_,_,_,_,_,_,_,_,_,_,_,_,_,_,_,_,_,_,_,_,_,_,_,_,_,_,_,_,_,_,_,_] _
  obtain ⟨rest,rfl,hO10_⟩:=ord_one (m:=262143) hO9_ rfl 18 (m':=524287) (by decide+kernel) rfl
  clear hO9_
  refine Qas (B:=decide ((a1.Qap.length:Int)>60)) rfl rfl rfl ?_ ?_
  ·
   intro hb
   rw [if_pos (b_dec_t hb)] at H
   obtain ⟨rest,rfl,hO11_⟩:=ord_one (m:=524287) hO10_ rfl 19 (m':=1048575) (by decide+kernel) rfl
   clear hO10_
   refine Qaa (v:=bool true) rfl rfl rfl ?_
   show G _ _ _ _ [_,_,_,_,_,_,_,_,_,_,_,_,_,_,_,_,_,_,_,_,_,_,_,_,_,_,_,_,_,_,_,_,_,_,_,_,_,_,_,_,_,_,_,_,_,_,_,_,_] _
   obtain rfl:=ord_end hO11_ rfl (by decide+kernel)
   refine Qab (Qak rfl (Qac (Qaj [0] rfl ?_)))
   refine Qaa (v:=bool false) rfl rfl rfl (Qab ?_)
   obtain rfl:=QsJ H
   refine Qau Tryd.func15 (v:=bool false) (res1 rfl rfl) ?_
   have hs:St _ [] _:=St.take (Γ':=[]) hs
   exact ⟨_,rfl,rfl,hs⟩
  intro hb
  rw [if_neg (b_dec_f hb)] at H
  obtain ⟨rest,rfl,hO12_⟩:=ord_one (m:=524287) hO10_ rfl 19 (m':=1048575) (by decide+kernel) rfl
  clear hO10_
  refine Qaa (v:=bool false) rfl rfl rfl ?_
  obtain rfl:=ord_end hO12_ rfl (by decide+kernel)
  refine Qab (Qad rfl (Qaw (Qac (Qac (Qaj [0] rfl ?_)))))
  refine Qaa (v:=int .i64 0) rfl rfl rfl ?_
  show G _ _ _ _ [_,_,_,_,_,_,_,_,_,_,_,_,_,_,_,_,_,_,_,_,_,_,_,_,_,_,_,_,_,_,_,_,_,_,_,_,_,_,_,_,_,_,_,_,_,_,_,_,_] _
  refine Qab ?_
  obtain ⟨o1_,Ho,Hr1_⟩:=bind_get H
  refine QaR (J:=fun t w=>QaU.a0 N=some r∧Fr t (fun O=>([O 0,O 1,O 2,O 3,O 4,O 5,O 6,O 7,O 8,O 9,O 10,O 11,O 12,O 13,O 14,O 15,O 16,O 17,O 18,O 19,O 20,O 21,O 22,O 23,O 24,O 25,O 26,O 27,O 28,O 29,O 30,O 31,O 32,O 33,O 34,O 35,O 36,O 37,O 38,O 39,O 40,O 41,O 42,O 43,O 44,O 45,O 46,O 47,O 48]:List Value))∧St w0 [] w) ?_ ?_
  ·
   rintro t w ⟨H,hf,hs⟩
   obtain ⟨O,rfl⟩:=hf.open
   show G _ _ _ _ [_,_,_,_,_,_,_,_,_,_,_,_,_,_,_,_,_,_,_,_,_,_,_,_,_,_,_,_,_,_,_,_,_,_,_,_,_,_,_,_,_,_,_,_,_,_,_,_,_] _
   unfold QaU.a0 at H
   refine Qac (Qaj [0] rfl ?_)
   refine Qaa (v:=bool true) rfl rfl rfl (Qab ?_)
   obtain rfl:=QsJ H
   refine Qau Tryd.func15 (v:=bool true) (res1 rfl rfl) ?_
   have hs:St _ [] _:=St.take (Γ':=[]) hs
   exact ⟨_,rfl,rfl,hs⟩
  intro ha1_
  have hs:St _ [] _:=St.take (Γ':=[]) hs
  refine QaY (I:=fun n_ t w=>∃ x7:Int,rounds (fun s=>QaU.b0 N a1 s) n_ x7=some o1_∧Fr t (fun O=>([pointer (some ⟨b2,0,none⟩),O 1,O 2,int .i64 x7,O 4,O 5,O 6,O 7,O 8,O 9,O 10,O 11,O 12,O 13,O 14,O 15,O 16,O 17,O 18,O 19,O 20,O 21,O 22,O 23,O 24,O 25,O 26,O 27,O 28,O 29,O 30,O 31,O 32,O 33,O 34,O 35,O 36,O 37,O 38,O 39,O 40,O 41,O 42,O 43,O 44,O 45,O 46,O 47,O 48]:List Value))∧St w0 [] w) N ⟨0,Ho,rfl,hs⟩ ?_ ?_
  ·
   rintro _ _ ⟨x7,h,_⟩
   exact rounds_zero h
  intro n_ ih1_
  rintro t w ⟨x7,Ho,hf,hs⟩
  obtain ⟨O,rfl⟩:=hf.open
  show G _ _ _ _ [_,_,_,_,_,_,_,_,_,_,_,_,_,_,_,_,_,_,_,_,_,_,_,_,_,_,_,_,_,_,_,_,_,_,_,_,_,_,_,_,_,_,_,_,_,_,_,_,_] _
  obtain ⟨x18_,H,Hx1_⟩:=rounds_succ Ho
  have H:QaU.b0 N a1 x7=some x18_:=H
  unfold QaU.b0 at H
  refine Qac (Qac (Qaj [0,1,2,3,4,5,6] rfl ?_))
  refine Qaa (v:=int .i64 x7) rfl rfl rfl ?_
  refine Qaa (v:=pointer (some ⟨b2,0,none⟩)) rfl rfl rfl ?_
  refine Qaa (v:=pointer (some ⟨b2,0,none⟩)) rfl rfl rfl ?_
  refine Qaa (v:=pointer (some ⟨b2,2,none⟩)) rfl rfl rfl ?_
  refine QaI rfl rfl (v:=v3) rfl rfl (fun _=>rfl) (cells_load (hs.box hp0) 2 1 rfl) ?_
  refine Qbn (hs.rd hr4) rfl rfl rfl rfl rfl ?_
  refine Qas (B:=decide (x7< (a1.Qap.length:Int))) rfl rfl rfl ?_ ?_
  ·
   intro hb
   rw [if_pos (b_dec_t hb)] at H
   refine Qab (Qak rfl (Qaw (Qac ?_)))
   refine Qbd (Qac ?_)
   refine QbI (n:=16) rfl [0,1,2,3,4,5,6,7,8,9,10,11,12,13,14,15] [0,1,2,3,4,5,6,7,8,9,10,11,12,13,14,15] rfl rfl ?_
   intro rest w hh hbw hO
   have hs:=hs.samew hh hbw
   show G _ _ _ _ [_,_,_,_,_,_,_,_,_,_,_,_,_,_,_,_,_,_,_,_,_,_,_,_,_,_,_,_,_,_,_,_,_,_,_,_,_,_,_,_,_,_,_,_,_,_,_,_,_] _
   obtain ⟨gd14,H⟩:=ite_get H
   obtain ⟨ad15_,ad15_N,ad15_C,had15_⟩:=sl_at (hs.rd hr4) gd14.1 gd14.2
   obtain ⟨r8,Hr8,H⟩:=bind_get H
   refine Qbt ?_
   intro T hT
   refine Qbz (m0:=0) hO rfl 16383 [0,1,2,3,4,5,6,7,8,9,10,11,12,13] [0,1,3,7,0,31,63,127,0,256,768,1792,3840,7936,16383,32767] (by decide+kernel) (fun D t w=>∃ O:Nat→Value,t=[pointer (some ⟨b2,0,none⟩),O 1,O 2,int .i64 x7,O 4,O 5,O 6,O 7,O 8,O 9,O 10,O 11,O 12,O 13,O 14,O 15,O 16,O 17,O 18,O 19,O 20,O 21,O 22,O 23,int .i64 x7,pointer (some ⟨b2,0,none⟩),pointer (some ⟨b2,0,none⟩),pointer (some ⟨b2,2,none⟩),v3,int .i64 (a1.Qap.length:Int),bool true,O 31,O 32,cnd (D 0) (pointer (some ⟨b2,0,none⟩)) (O 33),cnd (D 1) (pointer (some ⟨b2,0,none⟩)) (O 34),cnd (D 2) (pointer (some ⟨b2,2,none⟩)) (O 35),cnd (D 3) v3 (O 36),cnd (D 4) (int .i64 x7) (O 37),cnd (D 5) (pointer (some (ad15_.add (x7.toNat*2)))) (O 38),cnd (D 6) (pointer (some ((ad15_.add (x7.toNat*2)).add 0))) (O 39),cnd (D 7) (int .u64 ((rdL a1.Qap x7 Qat).QaO)) (O 40),cnd (D 8) (pointer (some ⟨b2,0,none⟩)) (O 41),cnd (D 9) (pointer (some ⟨b2,0,none⟩)) (O 42),cnd (D 10) (pointer (some ⟨b2,0,none⟩)) (O 43),cnd (D 11) (int .i8 a1.Qai) (O 44),cnd (D 12) (int .i64 (i64w a1.Qai)) (O 45),cnd (D 13) (int .u64 r8) (O 46),O 47,O 48]∧St w0 [] w) ?_ ⟨?_,⟨?_,⟨?_,⟨?_,⟨?_,⟨?_,⟨?_,⟨?_,⟨?_,⟨?_,⟨?_,⟨?_,⟨?_,⟨?_,trivial⟩⟩⟩⟩⟩⟩⟩⟩⟩⟩⟩⟩⟩⟩ ?_
   ·exact ⟨fun i=>T.getD i undef,(by subst hT;rfl),hs⟩
   ·
    rintro D t w hD hp hcl ⟨O,ht,hs⟩ rest hk
    have hp:AllDone D []:=hp
    have q1_:=ny hcl 1 0 hD
    have q2_:=ny hcl 2 0 q1_
    have q3_:=ny hcl 3 0 q2_
    have q5_:=ny hcl 5 0 q3_
    have q6_:=ny hcl 6 0 q5_
    have q7_:=ny hcl 7 0 q6_
    simp only [hD,q1_,q2_,q3_,q5_,q6_,q7_,cq,oT] at ht hs
    subst ht
    refine Qaa (v:=pointer (some ⟨b2,0,none⟩)) rfl rfl rfl ?_
    show G _ _ _ _ [_,_,_,_,_,_,_,_,_,_,_,_,_,_,_,_,_,_,_,_,_,_,_,_,_,_,_,_,_,_,_,_,_,_,_,_,_,_,_,_,_,_,_,_,_,_,_,_,_] _
    refine hk _ _ ⟨O,?_,hs.cast ?_⟩<;>simp only [oT,lq,cq,Nat.reduceBEq,q1_,q2_,q3_,q5_,q6_,q7_]
   ·
    rintro D t w hD hp hcl ⟨O,ht,hs⟩ rest hk
    have hp:AllDone D [0]:=hp
    obtain ⟨p0_,_⟩:=hp
    have q2_:=ny hcl 2 0 hD
    have q3_:=ny hcl 3 0 q2_
    have q5_:=ny hcl 5 0 q3_
    have q6_:=ny hcl 6 0 q5_
    have q7_:=ny hcl 7 0 q6_
    simp only [hD,p0_,q2_,q3_,q5_,q6_,q7_,cq,oT] at ht hs
    subst ht
    refine Qaa (v:=pointer (some ⟨b2,0,none⟩)) rfl rfl rfl ?_
    show G _ _ _ _ [_,_,_,_,_,_,_,_,_,_,_,_,_,_,_,_,_,_,_,_,_,_,_,_,_,_,_,_,_,_,_,_,_,_,_,_,_,_,_,_,_,_,_,_,_,_,_,_,_] _
    refine hk _ _ ⟨O,?_,hs.cast ?_⟩<;>simp only [oT,lq,cq,Nat.reduceBEq,p0_,q2_,q3_,q5_,q6_,q7_]
   ·
    rintro D t w hD hp hcl ⟨O,ht,hs⟩ rest hk
    have hp:AllDone D [1]:=hp
    obtain ⟨p1_,_⟩:=hp
    obtain ⟨p0_,_⟩:=(show D 1=true→AllDone D [0] from hcl 1 (by decide)) p1_
    have q3_:=ny hcl 3 0 hD
    have q5_:=ny hcl 5 0 q3_
    have q6_:=ny hcl 6 0 q5_
    have q7_:=ny hcl 7 0 q6_
    simp only [hD,p0_,p1_,q3_,q5_,q6_,q7_,cq,oT] at ht hs
    subst ht
    refine Qaa (v:=pointer (some ⟨b2,2,none⟩)) rfl rfl rfl ?_
    show G _ _ _ _ [_,_,_,_,_,_,_,_,_,_,_,_,_,_,_,_,_,_,_,_,_,_,_,_,_,_,_,_,_,_,_,_,_,_,_,_,_,_,_,_,_,_,_,_,_,_,_,_,_] _
    refine hk _ _ ⟨O,?_,hs.cast ?_⟩<;>simp only [oT,lq,cq,Nat.reduceBEq,p0_,p1_,q3_,q5_,q6_,q7_]
   ·
    rintro D t w hD hp hcl ⟨O,ht,hs⟩ rest hk
    have hp:AllDone D [2]:=hp
    obtain ⟨p2_,_⟩:=hp
    obtain ⟨p1_,_⟩:=(show D 2=true→AllDone D [1] from hcl 2 (by decide)) p2_
    obtain ⟨p0_,_⟩:=(show D 1=true→AllDone D [0] from hcl 1 (by decide)) p1_
    have q5_:=ny hcl 5 0 hD
    have q6_:=ny hcl 6 0 q5_
    have q7_:=ny hcl 7 0 q6_
    simp only [hD,p0_,p1_,p2_,q5_,q6_,q7_,cq,oT] at ht hs
    subst ht
    refine QaI rfl rfl (v:=v3) rfl rfl (fun _=>rfl) (cells_load (hs.box hp0) 2 1 rfl) ?_
    show G _ _ _ _ [_,_,_,_,_,_,_,_,_,_,_,_,_,_,_,_,_,_,_,_,_,_,_,_,_,_,_,_,_,_,_,_,_,_,_,_,_,_,_,_,_,_,_,_,_,_,_,_,_] _
    refine hk _ _ ⟨O,?_,hs.cast ?_⟩<;>simp only [oT,lq,cq,Nat.reduceBEq,p0_,p1_,p2_,q5_,q6_,q7_]
   ·
    rintro D t w hD hp hcl ⟨O,ht,hs⟩ rest hk
    have hp:AllDone D []:=hp
    have q5_:=ny hcl 5 1 hD
    have q6_:=ny hcl 6 0 q5_
    have q7_:=ny hcl 7 0 q6_
    simp only [hD,q5_,q6_,q7_,cq,oT] at ht hs
    subst ht
    refine Qaa (v:=int .i64 x7) rfl rfl rfl ?_
    show G _ _ _ _ [_,_,_,_,_,_,_,_,_,_,_,_,_,_,_,_,_,_,_,_,_,_,_,_,_,_,_,_,_,_,_,_,_,_,_,_,_,_,_,_,_,_,_,_,_,_,_,_,_] _
    refine hk _ _ ⟨O,?_,hs.cast ?_⟩<;>simp only [oT,lq,cq,Nat.reduceBEq,q5_,q6_,q7_]
   ·
    rintro D t w hD hp hcl ⟨O,ht,hs⟩ rest hk
    have hp:AllDone D [3,4]:=hp
    obtain ⟨p3_,p4_,_⟩:=hp
    obtain ⟨p2_,_⟩:=(show D 3=true→AllDone D [2] from hcl 3 (by decide)) p3_
    obtain ⟨p1_,_⟩:=(show D 2=true→AllDone D [1] from hcl 2 (by decide)) p2_
    obtain ⟨p0_,_⟩:=(show D 1=true→AllDone D [0] from hcl 1 (by decide)) p1_
    have q6_:=ny hcl 6 0 hD
    have q7_:=ny hcl 7 0 q6_
    simp only [hD,p0_,p1_,p2_,p3_,p4_,q6_,q7_,cq,oT] at ht hs
    subst ht
    refine QbC (κ:=Qav) (m:=2) rfl (hs.rd hr4) rfl (fun _=>rfl) gd14.1 gd14.2 had15_ rfl rfl rfl rfl rfl ?_
    show G _ _ _ _ [_,_,_,_,_,_,_,_,_,_,_,_,_,_,_,_,_,_,_,_,_,_,_,_,_,_,_,_,_,_,_,_,_,_,_,_,_,_,_,_,_,_,_,_,_,_,_,_,_] _
    refine hk _ _ ⟨O,?_,hs.cast ?_⟩<;>simp only [oT,lq,cq,Nat.reduceBEq,p0_,p1_,p2_,p3_,p4_,q6_,q7_]
   ·
    rintro D t w hD hp hcl ⟨O,ht,hs⟩ rest hk
    have hp:AllDone D [5]:=hp
    obtain ⟨p5_,_⟩:=hp
    obtain ⟨p3_,p4_,_⟩:=(show D 5=true→AllDone D [3,4] from hcl 5 (by decide)) p5_
    obtain ⟨p2_,_⟩:=(show D 3=true→AllDone D [2] from hcl 3 (by decide)) p3_
    obtain ⟨p1_,_⟩:=(show D 2=true→AllDone D [1] from hcl 2 (by decide)) p2_
    obtain ⟨p0_,_⟩:=(show D 1=true→AllDone D [0] from hcl 1 (by decide)) p1_
    have q7_:=ny hcl 7 0 hD
    simp only [hD,p0_,p1_,p2_,p3_,p4_,p5_,q7_,cq,oT] at ht hs
    subst ht
    refine Qaa (v:=pointer (some ((ad15_.add (x7.toNat*2)).add 0))) rfl rfl (Qbq rfl rfl rfl rfl rfl (m:=1) (fun _=>rfl) (by decide)) ?_
    show G _ _ _ _ [_,_,_,_,_,_,_,_,_,_,_,_,_,_,_,_,_,_,_,_,_,_,_,_,_,_,_,_,_,_,_,_,_,_,_,_,_,_,_,_,_,_,_,_,_,_,_,_,_] _
    refine hk _ _ ⟨O,?_,hs.cast ?_⟩<;>simp only [oT,lq,cq,Nat.reduceBEq,p0_,p1_,p2_,p3_,p4_,p5_,q7_]
   ·
    rintro D t w hD hp hcl ⟨O,ht,hs⟩ rest hk
    have hp:AllDone D [6]:=hp
    obtain ⟨p6_,_⟩:=hp
    obtain ⟨p5_,_⟩:=(show D 6=true→AllDone D [5] from hcl 6 (by decide)) p6_
    obtain ⟨p3_,p4_,_⟩:=(show D 5=true→AllDone D [3,4] from hcl 5 (by decide)) p5_
    obtain ⟨p2_,_⟩:=(show D 3=true→AllDone D [2] from hcl 3 (by decide)) p3_
    obtain ⟨p1_,_⟩:=(show D 2=true→AllDone D [1] from hcl 2 (by decide)) p2_
    obtain ⟨p0_,_⟩:=(show D 1=true→AllDone D [0] from hcl 1 (by decide)) p1_
    simp only [hD,p0_,p1_,p2_,p3_,p4_,p5_,p6_,cq,oT] at ht hs
    subst ht
    refine QaI rfl rfl (v:=int .u64 ((rdL a1.Qap x7 Qat).QaO)) rfl rfl (fun _=>rfl) (CellsAt.sub (cellsAt_of QaL Qat (hs.rd hr4) had15_ gd14.1 gd14.2) 0 1 (by first|rfl|(simp [Qay,List.drop_append,List.take_append,encAI_len,encAB_len,encA_len,List.take_of_length_le,List.drop_eq_nil_of_le]))) ?_
    show G _ _ _ _ [_,_,_,_,_,_,_,_,_,_,_,_,_,_,_,_,_,_,_,_,_,_,_,_,_,_,_,_,_,_,_,_,_,_,_,_,_,_,_,_,_,_,_,_,_,_,_,_,_] _
    refine hk _ _ ⟨O,?_,hs.cast ?_⟩<;>simp only [oT,lq,cq,Nat.reduceBEq,p0_,p1_,p2_,p3_,p4_,p5_,p6_]
   ·
    rintro D t w hD hp hcl ⟨O,ht,hs⟩ rest hk
    have hp:AllDone D []:=hp
    have q9_:=ny hcl 9 0 hD
    have q10_:=ny hcl 10 0 q9_
    have q11_:=ny hcl 11 0 q10_
    have q12_:=ny hcl 12 0 q11_
    have q13_:=ny hcl 13 0 q12_
    simp only [hD,q9_,q10_,q11_,q12_,q13_,cq,oT] at ht hs
    subst ht
    refine Qaa (v:=pointer (some ⟨b2,0,none⟩)) rfl rfl rfl ?_
    show G _ _ _ _ [_,_,_,_,_,_,_,_,_,_,_,_,_,_,_,_,_,_,_,_,_,_,_,_,_,_,_,_,_,_,_,_,_,_,_,_,_,_,_,_,_,_,_,_,_,_,_,_,_] _
    refine hk _ _ ⟨O,?_,hs.cast ?_⟩<;>simp only [oT,lq,cq,Nat.reduceBEq,q9_,q10_,q11_,q12_,q13_]
   ·
    rintro D t w hD hp hcl ⟨O,ht,hs⟩ rest hk
    have hp:AllDone D [8]:=hp
    obtain ⟨p8_,_⟩:=hp
    have q10_:=ny hcl 10 0 hD
    have q11_:=ny hcl 11 0 q10_
    have q12_:=ny hcl 12 0 q11_
    have q13_:=ny hcl 13 0 q12_
    simp only [hD,p8_,q10_,q11_,q12_,q13_,cq,oT] at ht hs
    subst ht
    refine Qaa (v:=pointer (some ⟨b2,0,none⟩)) rfl rfl rfl ?_
    show G _ _ _ _ [_,_,_,_,_,_,_,_,_,_,_,_,_,_,_,_,_,_,_,_,_,_,_,_,_,_,_,_,_,_,_,_,_,_,_,_,_,_,_,_,_,_,_,_,_,_,_,_,_] _
    refine hk _ _ ⟨O,?_,hs.cast ?_⟩<;>simp only [oT,lq,cq,Nat.reduceBEq,p8_,q10_,q11_,q12_,q13_]
   ·
    rintro D t w hD hp hcl ⟨O,ht,hs⟩ rest hk
    have hp:AllDone D [9]:=hp
    obtain ⟨p9_,_⟩:=hp
    obtain ⟨p8_,_⟩:=(show D 9=true→AllDone D [8] from hcl 9 (by decide)) p9_
    have q11_:=ny hcl 11 0 hD
    have q12_:=ny hcl 12 0 q11_
    have q13_:=ny hcl 13 0 q12_
    simp only [hD,p8_,p9_,q11_,q12_,q13_,cq,oT] at ht hs
    subst ht
    refine Qaa (v:=pointer (some ⟨b2,0,none⟩)) rfl rfl rfl ?_
    show G _ _ _ _ [_,_,_,_,_,_,_,_,_,_,_,_,_,_,_,_,_,_,_,_,_,_,_,_,_,_,_,_,_,_,_,_,_,_,_,_,_,_,_,_,_,_,_,_,_,_,_,_,_] _
    refine hk _ _ ⟨O,?_,hs.cast ?_⟩<;>simp only [oT,lq,cq,Nat.reduceBEq,p8_,p9_,q11_,q12_,q13_]
   ·
    rintro D t w hD hp hcl ⟨O,ht,hs⟩ rest hk
    have hp:AllDone D [10]:=hp
    obtain ⟨p10_,_⟩:=hp
    obtain ⟨p9_,_⟩:=(show D 10=true→AllDone D [9] from hcl 10 (by decide)) p10_
    obtain ⟨p8_,_⟩:=(show D 9=true→AllDone D [8] from hcl 9 (by decide)) p9_
    have q12_:=ny hcl 12 0 hD
    have q13_:=ny hcl 13 0 q12_
    simp only [hD,p8_,p9_,p10_,q12_,q13_,cq,oT] at ht hs
    subst ht
    refine QaI rfl rfl (v:=int .i8 a1.Qai) rfl rfl (fun _=>rfl) (cells_load (hs.box hp0) 0 1 rfl) ?_
    show G _ _ _ _ [_,_,_,_,_,_,_,_,_,_,_,_,_,_,_,_,_,_,_,_,_,_,_,_,_,_,_,_,_,_,_,_,_,_,_,_,_,_,_,_,_,_,_,_,_,_,_,_,_] _
    refine hk _ _ ⟨O,?_,hs.cast ?_⟩<;>simp only [oT,lq,cq,Nat.reduceBEq,p8_,p9_,p10_,q12_,q13_]
   ·
    rintro D t w hD hp hcl ⟨O,ht,hs⟩ rest hk
    have hp:AllDone D [11]:=hp
    obtain ⟨p11_,_⟩:=hp
    obtain ⟨p10_,_⟩:=(show D 11=true→AllDone D [10] from hcl 11 (by decide)) p11_
    obtain ⟨p9_,_⟩:=(show D 10=true→AllDone D [9] from hcl 10 (by decide)) p10_
    obtain ⟨p8_,_⟩:=(show D 9=true→AllDone D [8] from hcl 9 (by decide)) p9_
    have q13_:=ny hcl 13 0 hD
    simp only [hD,p8_,p9_,p10_,p11_,q13_,cq,oT] at ht hs
    subst ht
    refine Qaa (v:=int .i64 (i64w a1.Qai)) rfl rfl rfl ?_
    show G _ _ _ _ [_,_,_,_,_,_,_,_,_,_,_,_,_,_,_,_,_,_,_,_,_,_,_,_,_,_,_,_,_,_,_,_,_,_,_,_,_,_,_,_,_,_,_,_,_,_,_,_,_] _
    refine hk _ _ ⟨O,?_,hs.cast ?_⟩<;>simp only [oT,lq,cq,Nat.reduceBEq,p8_,p9_,p10_,p11_,q13_]
   ·
    rintro D t w hD hp hcl ⟨O,ht,hs⟩ rest hk
    have hp:AllDone D [12]:=hp
    obtain ⟨p12_,_⟩:=hp
    obtain ⟨p11_,_⟩:=(show D 12=true→AllDone D [11] from hcl 12 (by decide)) p12_
    obtain ⟨p10_,_⟩:=(show D 11=true→AllDone D [10] from hcl 11 (by decide)) p11_
    obtain ⟨p9_,_⟩:=(show D 10=true→AllDone D [9] from hcl 10 (by decide)) p10_
    obtain ⟨p8_,_⟩:=(show D 9=true→AllDone D [8] from hcl 9 (by decide)) p9_
    simp only [hD,p8_,p9_,p10_,p11_,p12_,cq,oT] at ht hs
    subst ht
    refine QaA (args:=[int .i64 (i64w a1.Qai)]) rfl rfl (Qax rfl (callFunc_enter Tryd.func35 rfl rfl) rfl) (Qbc.calls (a1:=i64w a1.Qai) Hr8) ?_
    rintro _ w ⟨rfl,hs2⟩
    have hs:St _ [] _:=hs.call hs2
    show G _ _ _ _ [_,_,_,_,_,_,_,_,_,_,_,_,_,_,_,_,_,_,_,_,_,_,_,_,_,_,_,_,_,_,_,_,_,_,_,_,_,_,_,_,_,_,_,_,_,_,_,_,_] _
    refine hk _ _ ⟨O,?_,hs.cast ?_⟩<;>simp only [oT,lq,cq,Nat.reduceBEq,p8_,p9_,p10_,p11_,p12_]
   intro D t w rest hall hO13_ hI
   obtain ⟨O,ht,hs⟩:=hI
   have p0_:=hall 0 (by decide) rfl
   have p1_:=hall 1 (by decide) rfl
   have p2_:=hall 2 (by decide) rfl
   have p3_:=hall 3 (by decide) rfl
   have p4_:=hall 4 (by decide) rfl
   have p5_:=hall 5 (by decide) rfl
   have p6_:=hall 6 (by decide) rfl
   have p7_:=hall 7 (by decide) rfl
   have p8_:=hall 8 (by decide) rfl
   have p9_:=hall 9 (by decide) rfl
   have p10_:=hall 10 (by decide) rfl
   have p11_:=hall 11 (by decide) rfl
   have p12_:=hall 12 (by decide) rfl
   have p13_:=hall 13 (by decide) rfl
   simp only [p0_,p1_,p2_,p3_,p4_,p5_,p6_,p7_,p8_,p9_,p10_,p11_,p12_,p13_,cq,oT] at ht hs
   subst ht
   obtain ⟨rest,rfl,hO16_⟩:=ord_one (m:=16383) hO13_ rfl 14 (m':=32767) (by decide+kernel) rfl
   clear hO13_
   refine Qaa (v:=int .u64 (bAndNot .u64 ((rdL a1.Qap x7 Qat).QaO) r8)) rfl rfl rfl ?_
   obtain ⟨rest,rfl,hO17_⟩:=ord_one (m:=32767) hO16_ rfl 15 (m':=65535) (by decide+kernel) rfl
   clear hO16_
   refine Qas (B:=(bAndNot .u64 ((rdL a1.Qap x7 Qat).QaO) r8) !=0) rfl rfl rfl ?_ ?_
   ·
    intro hb
    rw [if_neg (b_bne_t hb)] at H
    show G _ _ _ _ [_,_,_,_,_,_,_,_,_,_,_,_,_,_,_,_,_,_,_,_,_,_,_,_,_,_,_,_,_,_,_,_,_,_,_,_,_,_,_,_,_,_,_,_,_,_,_,_,_] _
    obtain rfl:=ord_end hO17_ rfl (by decide+kernel)
    refine Qab (Qak rfl (Qac (Qaj [0] rfl ?_)))
    refine Qaa (v:=bool false) rfl rfl rfl (Qab ?_)
    obtain rfl:=QsJ H
    subst Hx1_
    have H:=QsJ Hr1_
    subst H
    refine Qau Tryd.func15 (v:=bool false) (res1 rfl rfl) ?_
    have hs:St _ [] _:=St.take (Γ':=[]) hs
    exact ⟨_,rfl,rfl,hs⟩
   intro hb
   rw [if_pos (b_bne_f hb)] at H
   show G _ _ _ _ [_,_,_,_,_,_,_,_,_,_,_,_,_,_,_,_,_,_,_,_,_,_,_,_,_,_,_,_,_,_,_,_,_,_,_,_,_,_,_,_,_,_,_,_,_,_,_,_,_] _
   obtain rfl:=ord_end hO17_ rfl (by decide+kernel)
   refine Qab (Qad rfl (Qaw ?_))
   refine QaD (Qaj [0,1,2] rfl ?_)
   refine Qaa (v:=int .i64 x7) rfl rfl rfl ?_
   refine Qaa (v:=int .i64 (i64w (x7+1))) rfl rfl rfl ?_
   refine Qaa (v:=int .i64 (i64w (x7+1))) rfl rfl rfl (Qab ?_)
   obtain rfl:=QsJ H
   have hs:St _ [] _:=St.take (Γ':=[]) hs
   exact ih1_ _ _ ⟨i64w (x7+1),Hx1_,rfl,hs⟩
  intro hb
  rw [if_neg (b_dec_f hb)] at H
  show G _ _ _ _ [_,_,_,_,_,_,_,_,_,_,_,_,_,_,_,_,_,_,_,_,_,_,_,_,_,_,_,_,_,_,_,_,_,_,_,_,_,_,_,_,_,_,_,_,_,_,_,_,_] _
  refine Qab (Qad rfl ?_)
  obtain rfl:=QsJ H
  subst Hx1_
  have hs:St _ [] _:=St.take (Γ':=[]) hs
  refine Qbi rfl ?_
  exact ha1_ _ _ ⟨Hr1_,rfl,hs⟩
 |false=>
  rw [if_neg Bool.false_ne_true] at H
  obtain ⟨rest,rfl,hO19_⟩:=ord_one (m:=2047) hO2_ rfl 11 (m':=4095) (by decide+kernel) rfl
  clear hO2_
  refine Qaa (v:=bool true) rfl rfl rfl ?_
  obtain ⟨rest,rfl,hO20_⟩:=ord_one (m:=4095) hO19_ rfl 12 (m':=8191) (by decide+kernel) rfl
  clear hO19_
  refine Qaa (v:=bool true) rfl rfl rfl ?_
  obtain ⟨rest,rfl,hO21_⟩:=ord_one (m:=8191) hO20_ rfl 13 (m':=16383) (by decide+kernel) rfl
  clear hO20_
  refine Qag rfl rfl ?_
  obtain ⟨rest,rfl,hO22_⟩:=ord_one (m:=16383) hO21_ rfl 14 (m':=32767) (by decide+kernel) rfl
  clear hO21_
  refine Qag rfl rfl ?_
  obtain ⟨rest,rfl,hO23_⟩:=ord_one (m:=32767) hO22_ rfl 15 (m':=65535) (by decide+kernel) rfl
  clear hO22_
  refine Qag rfl rfl ?_
  obtain ⟨rest,rfl,hO24_⟩:=ord_one (m:=65535) hO23_ rfl 16 (m':=131071) (by decide+kernel) rfl
  clear hO23_
  refine Qag rfl rfl ?_
  show G _ _ _ _ [_,_,_,_,_,_,_,_,_,_,_,_,_,_,_,_,_,_,_,_,_,_,_,_,_,_,_,_,_,_,_,_,_,_,_,_,_,_,_,_,_,_,_,_,_,_,_,_,_] _
  obtain ⟨rest,rfl,hO25_⟩:=ord_one (m:=131071) hO24_ rfl 17 (m':=262143) (by decide+kernel) rfl
  clear hO24_
  refine Qag rfl rfl ?_
  obtain ⟨rest,rfl,hO26_⟩:=ord_one (m:=262143) hO25_ rfl 18 (m':=524287) (by decide+kernel) rfl
  clear hO25_
  refine Qag rfl rfl ?_
  obtain ⟨rest,rfl,hO27_⟩:=ord_one (m:=524287) hO26_ rfl 19 (m':=1048575) (by decide+kernel) rfl
  clear hO26_
  refine Qaa (v:=bool true) rfl rfl rfl ?_
  show G _ _ _ _ [_,_,_,_,_,_,_,_,_,_,_,_,_,_,_,_,_,_,_,_,_,_,_,_,_,_,_,_,_,_,_,_,_,_,_,_,_,_,_,_,_,_,_,_,_,_,_,_,_] _
  obtain rfl:=ord_end hO27_ rfl (by decide+kernel)
  refine Qab (Qak rfl (Qac (Qaj [0] rfl ?_)))
  refine Qaa (v:=bool false) rfl rfl rfl (Qab ?_)
  obtain rfl:=QsJ H
  refine Qau Tryd.func15 (v:=bool false) (res1 rfl rfl) ?_
  have hs:St _ [] _:=St.take (Γ':=[]) hs
  exact ⟨_,rfl,rfl,hs⟩
end Go.Proofs.YtljkpeeabpdalaaDoorX
