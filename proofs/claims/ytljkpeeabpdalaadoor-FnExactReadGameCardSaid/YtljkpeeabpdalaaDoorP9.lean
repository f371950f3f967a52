import Derived.Test.YtljkpeeabpdalaaDoorP8
namespace Go.Proofs.YtljkpeeabpdalaaDoorX
open Go Go.RowKit Go.Proofs
open Go.Value (int pointer bool agg slice string tuple)
set_option maxHeartbeats 40000000
set_option maxRecDepth 100000
set_option linter.unusedVariables false
set_option linter.unusedSimpArgs false
def Qan.post (w0:World) (r:ByteArray) (v:Value) (w:World):Prop:=v=string r∧St w0 [] w
theorem Qan.calls {N:Nat} {a1:ByteArray} {a2:Int} {w0:World} {r:ByteArray} (H:Qan.f N a1 a2=some r):
 Calls Tryd.prog 22 #[string a1,int .i64 a2] w0 fun e w=>∃ v,e= .returned v∧Qan.post w0 r v w:=by
 unfold Qan.f at H
 have hs:St w0 [] w0:=St.refl w0
 refine calls_of_g (n:=123) Tryd.func22 rfl rfl ?_
 show G _ _ _ _ (_::_::_::_::_::_::_::_::_::_::_::_::_::_::_::_::_::_::_::_::_::_::_::_::_::_::_::_::_::_::_::_::_::_::_::_::_::_::_::_::_::_::_::_::_::_::_::_::_::_::_::_::_::_::_::_::_::_::_::_::_::_::_::_::_::_::_::_::_::_::_::_::_::_::_::_::_::_::_::_::_::_::_::_::_::_::_::_::_::_::_::_::_::_::_::_::_::_::_::_::_::_::_::_::_::_::_::_::_::_::_::_::_::_::_::_::_::_::_::_::_::_::_::_::_::[]) _
 refine Qac (Qaj [0] rfl ?_)
 refine Qaa (v:=string (⟨#[]⟩:ByteArray)) rfl rfl rfl (g_d rfl ?_)
 try dsimp only [Qae,Qaf]
 refine Qab (Qac (Qac (Qaj [0] rfl ?_)))
 refine Qaa (v:=int .i64 a2) rfl rfl rfl (g_d rfl (Qab ?_))
 refine Qbd (Qac (Qaj [0,1] rfl ?_))
 refine Qas (B:=a2==0) rfl rfl rfl ?_ ?_
 ·
  intro hb
  rw [if_pos (b_beq_t hb)] at H
  refine g_d rfl ?_
  refine Qaa (v:=bool true) rfl rfl rfl (g_d rfl ?_)
  try dsimp only [Qae,Qaf]
  refine Qab (Qak rfl (Qac (Qaj [0] rfl ?_)))
  refine Qaa (v:=string (⟨#[]⟩:ByteArray)) rfl rfl rfl (g_d rfl (Qab ?_))
  obtain rfl:=QsJ H
  refine Qau Tryd.func22 (v:=string (⟨#[]⟩:ByteArray)) (res1 rfl rfl) ?_
  have hs:St _ [] _:=St.take (Γ':=[]) hs
  exact ⟨_,rfl,rfl,hs⟩
 intro hb
 rw [if_neg (b_beq_f hb)] at H
 refine g_d rfl ?_
 refine Qaa (v:=bool false) rfl rfl rfl (g_d rfl ?_)
 try dsimp only [Qae,Qaf]
 refine Qab (Qad rfl (Qac (Qaj [0,1] rfl ?_)))
 refine Qas (B:=a2==1) rfl rfl rfl ?_ ?_
 ·
  intro hb
  rw [if_pos (b_beq_t hb)] at H
  refine g_d rfl ?_
  try dsimp only [Qae,Qaf]
  refine Qaa (v:=bool true) rfl rfl rfl (g_d rfl (Qab (Qak rfl (Qac (Qaj [0,1] rfl ?_)))))
  refine Qaa (v:=string a1) rfl rfl rfl (g_d rfl ?_)
  refine Qaa (v:=string a1) rfl rfl rfl (g_d rfl ?_)
  try dsimp only [Qae,Qaf]
  refine Qab ?_
  obtain rfl:=QsJ H
  refine Qau Tryd.func22 (v:=string a1) (res1 rfl rfl) ?_
  have hs:St _ [] _:=St.take (Γ':=[]) hs
  exact ⟨_,rfl,rfl,hs⟩
 intro hb
 rw [if_neg (b_beq_f hb)] at H
 refine g_d rfl ?_
 refine Qaa (v:=bool false) rfl rfl rfl (g_d rfl ?_)
 try dsimp only [Qae,Qaf]
 refine Qab (Qad rfl (Qaw ?_))
 refine QaD (Qac (Qac (Qaj [0,1] rfl ?_)))
 refine Qaa (v:=int .i64 a2) rfl rfl rfl (g_d rfl ?_)
 refine Qas (B:=decide (a2< 0)) rfl rfl rfl ?_ ?_
 ·
  intro hb
  rw [if_pos (b_dec_t hb)] at H
  refine g_d rfl (Qab (Qak rfl ?_))
  cases H
 intro hb
 rw [if_neg (b_dec_f hb)] at H
 refine g_d rfl (Qab (Qad rfl (Qaw (Qac (Qaj [0,1,2,3,4,5,6,7,8,9,10] rfl ?_)))))
 refine Qaa (v:=string a1) rfl rfl rfl (g_d rfl ?_)
 refine Qaa (v:=int .i64 (a1.size:Int)) rfl rfl (Qbf rfl rfl rfl) (g_d rfl ?_)
 try dsimp only [Qae,Qaf]
 refine Qaa (v:=int .u64 (u64w (a1.size:Int))) rfl rfl rfl (g_d rfl ?_)
 refine Qaa (v:=int .i64 a2) rfl rfl rfl (g_d rfl ?_)
 refine Qaa (v:=int .u64 (u64w a2)) rfl rfl rfl (g_d rfl ?_)
 obtain ⟨r3,Hr3,H⟩:=bind_get H
 refine QaA (args:=[int .u64 (u64w (a1.size:Int)),int .u64 (u64w a2)]) rfl rfl (Qax rfl (callFunc_enter Tryd.func46 rfl rfl) rfl) (bits_Mul.calls (a1:=u64w (a1.size:Int)) (a2:=u64w a2) Hr3) ?_
 rintro _ w ⟨rfl,hs2⟩
 have hs:St _ [] _:=hs.call hs2
 refine g_d rfl ?_
 refine Qaa (v:=tuple #[int .u64 r3.1,int .u64 r3.2]) rfl rfl rfl (g_d rfl ?_)
 refine Qaa (v:=int .u64 r3.1) rfl rfl rfl (g_d rfl ?_)
 refine Qaa (v:=int .u64 r3.2) rfl rfl rfl (g_d rfl ?_)
 refine Qaa (v:=int .u64 r3.1) rfl rfl rfl (g_d rfl ?_)
 try dsimp only [Qae,Qaf]
 refine Qaa (v:=int .u64 r3.2) rfl rfl rfl (g_d rfl (Qab (Qac (Qac (Qaj [0,1,2,3,4,5] rfl ?_)))))
 refine Qaa (v:=int .u64 r3.1) rfl rfl rfl (g_d rfl ?_)
 refine Qas (B:=decide (r3.1>0)) rfl rfl rfl ?_ ?_
 ·
  intro hb
  rw [if_pos (b_dec_t hb)] at H
  refine g_d rfl ?_
  try dsimp only [Qae,Qaf]
  refine Qaa (v:=bool true) rfl rfl rfl (g_d rfl (Qag rfl rfl (g_d rfl (Qag rfl rfl (g_d rfl ?_)))))
  refine Qaa (v:=bool true) rfl rfl rfl (g_d rfl ?_)
  try dsimp only [Qae,Qaf]
  refine Qab (Qak rfl ?_)
  cases H
 intro hb
 rw [if_neg (b_dec_f hb)] at H
 refine g_d rfl ?_
 try dsimp only [Qae,Qaf]
 refine Qaa (v:=bool false) rfl rfl rfl (g_d rfl ?_)
 refine Qaa (v:=int .u64 r3.2) rfl rfl rfl (g_d rfl ?_)
 refine Qas (B:=decide (r3.2>9223372036854775807)) rfl rfl rfl ?_ ?_
 ·
  intro hb
  rw [if_pos (b_dec_t hb)] at H
  refine g_d rfl ?_
  try dsimp only [Qae,Qaf]
  refine Qaa (v:=bool true) rfl rfl rfl (g_d rfl (Qab (Qak rfl ?_)))
  cases H
 intro hb
 rw [if_neg (b_dec_f hb)] at H
 refine g_d rfl ?_
 refine Qaa (v:=bool false) rfl rfl rfl (g_d rfl ?_)
 try dsimp only [Qae,Qaf]
 refine Qab (Qad rfl (Qaw (Qac (Qaj [0,1,2] rfl ?_))))
 refine Qaa (v:=int .u64 r3.2) rfl rfl rfl (g_d rfl ?_)
 refine Qaa (v:=int .i64 (i64w r3.2)) rfl rfl rfl (g_d rfl ?_)
 refine Qaa (v:=int .i64 (i64w r3.2)) rfl rfl rfl (g_d rfl (Qab (Qac (Qac (Qaj [0,1,2] rfl ?_)))))
 refine Qaa (v:=string a1) rfl rfl rfl (g_d rfl ?_)
 refine Qaa (v:=int .i64 (a1.size:Int)) rfl rfl (Qbf rfl rfl rfl) (g_d rfl ?_)
 try dsimp only [Qae,Qaf]
 refine Qas (B:=(a1.size:Int)==0) rfl rfl rfl ?_ ?_
 ·
  intro hb
  rw [if_pos (b_beq_t hb)] at H
  refine g_d rfl ?_
  try dsimp only [Qae,Qaf]
  refine Qab (Qak rfl (Qac (Qaj [0] rfl ?_)))
  refine Qaa (v:=string (⟨#[]⟩:ByteArray)) rfl rfl rfl (g_d rfl (Qab ?_))
  obtain rfl:=QsJ H
  refine Qau Tryd.func22 (v:=string (⟨#[]⟩:ByteArray)) (res1 rfl rfl) ?_
  have hs:St _ [] _:=St.take (Γ':=[]) hs
  exact ⟨_,rfl,rfl,hs⟩
 intro hb
 rw [if_neg (b_beq_f hb)] at H
 refine g_d rfl (Qab (Qad rfl (Qaw (Qac (Qac (Qaj [0,1] rfl ?_))))))
 refine Qaa (v:=string a1) rfl rfl rfl (g_d rfl ?_)
 obtain ⟨g1,H⟩:=ite_get H
 refine Qaa (v:=int .u8 (btS a1 0)) rfl rfl (Qbh rfl rfl rfl rfl g1.1 g1.2) (g_d rfl ?_)
 try dsimp only [Qae,Qaf]
 refine Qab ?_
 refine QaR (J:=(fun t w=>Qan.j0 N r3 a1=some r∧Fr t (fun O=>(string a1::O 1::O 2::O 3::O 4::O 5::O 6::int .i64 (i64w r3.2)::O 8::O 9::oT O 1 (oT O 2 (oT O 3 (oT O 4 (oT O 5 (oT O 6 (oT O 7 (oT O 8 (oT O 9 (oT O 10 (oT O 11 (O 120::O 121::O 122::O 123::O 124::[]))))))))))):List Value))∧St w0 [] w)) ?_ ?_
 · as_aux_lemma =>
  rintro t w ⟨H,hf,hs⟩
  obtain ⟨O,rfl⟩:=hf.open
  try dsimp only [oT]
  unfold Qan.j0 at H
  refine Qac (Qaj [0,1] rfl ?_)
  refine Qaa (v:=int .i64 (i64w r3.2)) rfl rfl rfl (g_d rfl ?_)
  refine Qaa (v:=int .i64 (i64w r3.2)) rfl rfl rfl (g_d rfl (Qab (Qac (Qac ?_))))
  refine Qbr (J:=(fun t w=>∃ x36:Int,Qan.j1 N r3 a1 x36=some r∧Fr t (fun O=>(string a1::O 1::O 2::O 3::O 4::O 5::O 6::int .i64 (i64w r3.2)::int .i64 x36::O 9::oT O 1 (oT O 2 (oT O 3 (oT O 4 (oT O 5 (oT O 6 (oT O 7 (oT O 8 (oT O 9 (oT O 10 (oT O 11 (O 120::O 121::O 122::O 123::O 124::[]))))))))))):List Value))∧St w0 [] w)) ?_ ?_
  ·
   rintro t w ⟨x36,H,hf,hs⟩
   obtain ⟨O,rfl⟩:=hf.open
   try dsimp only [oT]
   unfold Qan.j1 at H
   refine Qac (Qaj [0] rfl ?_)
   refine Qbm hs rfl rfl (z:=(agg #[pointer none,slice none 0 0])) (cs:=[pointer none,slice none 0 0]) rfl (fun _=>rfl) rfl ?_
   intro b37 w hs
   refine g_d rfl (Qab (Qac (Qaj [0,1] rfl ?_)))
   refine Qaa (v:=int .i64 (i64w r3.2)) rfl rfl rfl (g_d rfl ?_)
   obtain ⟨g,H⟩:=ite_get H
   refine QbZ (e:=5) Tryd.Builder_Grow_fresh hs rfl rfl (Qax rfl (callFunc_enter Tryd.func48 rfl rfl) rfl) g ?_
   intro w hs
   refine g_d rfl ?_
   try dsimp only [Qae,Qaf]
   refine Qab (Qac (Qaj [0,1] rfl ?_))
   refine Qaa (v:=string a1) rfl rfl rfl (g_d rfl ?_)
   obtain ⟨g,H⟩:=ite_get H
   refine Qbv (x:=a1) bld_write not8_nil hs rfl rfl (Qax rfl (callFunc_enter Tryd.func19 rfl rfl) rfl) g ?_
   intro w hs
   refine g_d rfl (Qab (Qac ?_))
   obtain ⟨o1_,Ho,Hr1_⟩:=bind_get H
   refine QaR (J:=fun t w=>∃ x40:ByteArray,Qan.a2 N x40=some r∧Fr t (fun O=>(O 0::O 1::O 2::O 3::O 4::O 5::O 6::O 7::O 8::pointer (some ⟨b37,0,none⟩)::oT O 1 (oT O 2 (oT O 3 (oT O 4 (oT O 5 (oT O 6 (oT O 7 (oT O 8 (oT O 9 (oT O 10 (oT O 11 (O 120::O 121::O 122::O 123::O 124::[]))))))))))):List Value))∧St w0 [Bld 47 5 b37 x40] w) ?_ ?_
   ·
    rintro t w ⟨x40,H,hf,hs⟩
    obtain ⟨O,rfl⟩:=hf.open
    try dsimp only [oT]
    unfold Qan.a2 at H
    refine Qac (Qaj [0,1] rfl ?_)
    refine Qby Tryd.Builder_String_any_k not8_nil hs rfl rfl (Qax rfl (callFunc_enter Tryd.func23 rfl rfl) rfl) ?_
    intro w hs
    refine g_d rfl ?_
    refine Qaa (v:=string x40) rfl rfl rfl (g_d rfl ?_)
    try dsimp only [Qae,Qaf]
    refine Qab ?_
    obtain rfl:=QsJ H
    refine Qau Tryd.func22 (v:=string x40) (res1 rfl rfl) ?_
    have hs:St _ [] _:=St.take (Γ':=[_]) hs
    exact ⟨_,rfl,rfl,hs⟩
   intro ha1_
   have hs:=hs.pull 0 rfl
   have hs:St _ [_] _:=St.take (Γ':=[]) hs
   refine QaY (I:=fun n_ t w=>∃ x39:ByteArray,rounds (fun s=>Qan.b2 N r3 x36 s) n_ x39=some o1_∧Fr t (fun O=>(O 0::O 1::O 2::O 3::O 4::O 5::O 6::int .i64 (i64w r3.2)::int .i64 x36::pointer (some ⟨b37,0,none⟩)::oT O 1 (oT O 2 (oT O 3 (oT O 4 (oT O 5 (oT O 6 (oT O 7 (oT O 8 (oT O 9 (oT O 10 (oT O 11 (O 120::O 121::O 122::O 123::O 124::[]))))))))))):List Value))∧St w0 [Bld 47 5 b37 x39] w) N ⟨(⟨#[]⟩:ByteArray)++a1,Ho,rfl,hs⟩ ?_ ?_
   ·
    rintro _ _ ⟨x39,h,_⟩
    exact rounds_zero h
   intro n_ ih1_
   rintro t w ⟨x39,Ho,hf,hs⟩
   obtain ⟨O,rfl⟩:=hf.open
   try dsimp only [oT]
   obtain ⟨x3_,H,Hx1_⟩:=rounds_succ Ho
   have H:Qan.b2 N r3 x36 x39=some x3_:=H
   unfold Qan.b2 at H
   refine Qac (Qac (Qaj [0,1,2] rfl ?_))
   refine QbJ Tryd.Builder_Len_f hs rfl rfl (Qax rfl (callFunc_enter Tryd.func49 rfl rfl) rfl) (g_d rfl ?_)
   try dsimp only [Qae,Qaf]
   refine Qaa (v:=int .i64 (i64w r3.2)) rfl rfl rfl (g_d rfl ?_)
   refine Qas (B:=decide ((x39.size:Int)< (i64w r3.2))) rfl rfl rfl ?_ ?_
   ·
    intro hb
    rw [if_pos (b_dec_t hb)] at H
    refine g_d rfl ?_
    try dsimp only [Qae,Qaf]
    refine Qab (Qak rfl (Qaw ?_))
    refine Qbd (Qac (Qaj [0,1,2,3,4,5,6] rfl ?_))
    refine Qaa (v:=int .i64 (i64w r3.2)) rfl rfl rfl (g_d rfl ?_)
    refine QbJ Tryd.Builder_Len_f hs rfl rfl (Qax rfl (callFunc_enter Tryd.func49 rfl rfl) rfl) (g_d rfl ?_)
    refine Qaa (v:=int .i64 (i64w ((i64w r3.2) - (x39.size:Int)))) rfl rfl rfl (g_d rfl ?_)
    try dsimp only [Qae,Qaf]
    refine QbJ Tryd.Builder_Len_f hs rfl rfl (Qax rfl (callFunc_enter Tryd.func49 rfl rfl) rfl) (g_d rfl ?_)
    refine Qaa (v:=int .i64 x36) rfl rfl rfl (g_d rfl ?_)
    refine Qaa (v:=int .i64 (mnI (mnI (i64w ((i64w r3.2) - (x39.size:Int))) (x39.size:Int)) x36)) rfl rfl (Qb6 rfl rfl rfl rfl) (g_d rfl ?_)
    try dsimp only [Qae,Qaf]
    refine Qaa (v:=int .i64 (mnI (mnI (i64w ((i64w r3.2) - (x39.size:Int))) (x39.size:Int)) x36)) rfl rfl rfl (g_d rfl (Qab (Qaj [0,1,2,3] rfl ?_)))
    refine Qby Tryd.Builder_String_any_k not8_nil hs rfl rfl (Qax rfl (callFunc_enter Tryd.func23 rfl rfl) rfl) ?_
    intro w hs
    refine g_d rfl ?_
    try dsimp only [Qae,Qaf]
    refine Qaa (v:=int .i64 (mnI (mnI (i64w ((i64w r3.2) - (x39.size:Int))) (x39.size:Int)) x36)) rfl rfl rfl (g_d rfl ?_)
    obtain ⟨g,H⟩:=ite_get H
    refine Qaa (v:=string (subS x39 0 (mnI (mnI (i64w ((i64w r3.2) - (x39.size:Int))) (x39.size:Int)) x36))) rfl rfl (QaM rfl rfl rfl (.inl ⟨rfl,rfl⟩) (.inr ⟨_,_,rfl,rfl⟩) g.1 g.2.1 g.2.2) (g_d rfl ?_)
    obtain ⟨g,H⟩:=ite_get H
    refine Qbv (x:=subS x39 0 (mnI (mnI (i64w ((i64w r3.2) - (x39.size:Int))) (x39.size:Int)) x36)) bld_write not8_nil hs rfl rfl (Qax rfl (callFunc_enter Tryd.func19 rfl rfl) rfl) g ?_
    intro w hs
    refine g_d rfl ?_
    try dsimp only [Qae,Qaf]
    refine Qab ?_
    refine QaD ?_
    obtain rfl:=QsJ H
    have hs:=hs.pull 0 rfl
    have hs:St _ [_] _:=St.take (Γ':=[]) hs
    exact ih1_ _ _ ⟨x39++(subS x39 0 (mnI (mnI (i64w ((i64w r3.2) - (x39.size:Int))) (x39.size:Int)) x36)),Hx1_,rfl,hs⟩
   intro hb
   rw [if_neg (b_dec_f hb)] at H
   refine g_d rfl (Qab (Qad rfl ?_))
   obtain rfl:=QsJ H
   subst Hx1_
   have hs:=hs.pull 0 rfl
   have hs:St _ [_] _:=St.take (Γ':=[]) hs
   refine Qbi rfl ?_
   exact ha1_ _ _ ⟨x39,Hr1_,rfl,hs⟩
  intro ha
  refine Qaj [0,1] rfl ?_
  refine Qaa (v:=int .i64 (i64w r3.2)) rfl rfl rfl (g_d rfl ?_)
  refine Qas (B:=decide ((i64w r3.2)>8192)) rfl rfl rfl ?_ ?_
  ·
   intro hb
   rw [if_pos (b_dec_t hb)] at H
   refine g_d rfl (Qab (Qak rfl (Qac (Qaj [0,1,2,3,4,5,6] rfl ?_))))
   refine Qaa (v:=string a1) rfl rfl rfl (g_d rfl ?_)
   refine Qaa (v:=int .i64 (a1.size:Int)) rfl rfl (Qbf rfl rfl rfl) (g_d rfl ?_)
   try dsimp only [Qae,Qaf]
   obtain ⟨g2,H⟩:=ite_get H
   refine Qaa (v:=int .i64 (i64w ((8192:Int).tdiv (a1.size:Int)))) rfl rfl (QbK rfl rfl rfl g2) (g_d rfl ?_)
   refine Qaa (v:=string a1) rfl rfl rfl (g_d rfl ?_)
   refine Qaa (v:=int .i64 (a1.size:Int)) rfl rfl (Qbf rfl rfl rfl) (g_d rfl ?_)
   try dsimp only [Qae,Qaf]
   refine Qaa (v:=int .i64 (i64w ((i64w ((8192:Int).tdiv (a1.size:Int)))*(a1.size:Int)))) rfl rfl rfl (g_d rfl ?_)
   refine Qaa (v:=int .i64 (i64w ((i64w ((8192:Int).tdiv (a1.size:Int)))*(a1.size:Int)))) rfl rfl rfl (g_d rfl ?_)
   try dsimp only [Qae,Qaf]
   refine Qab (Qac (Qaj [0,1] rfl ?_))
   refine Qaa (v:=int .i64 (i64w ((i64w ((8192:Int).tdiv (a1.size:Int)))*(a1.size:Int)))) rfl rfl rfl (g_d rfl ?_)
   refine Qas (B:=(i64w ((i64w ((8192:Int).tdiv (a1.size:Int)))*(a1.size:Int)))==0) rfl rfl rfl ?_ ?_
   ·
    intro hb
    rw [if_pos (b_beq_t hb)] at H
    refine g_d rfl ?_
    try dsimp only [Qae,Qaf]
    refine Qab (Qak rfl (Qaj [0,1,2] rfl ?_))
    refine Qaa (v:=string a1) rfl rfl rfl (g_d rfl ?_)
    refine Qaa (v:=int .i64 (a1.size:Int)) rfl rfl (Qbf rfl rfl rfl) (g_d rfl ?_)
    refine Qaa (v:=int .i64 (a1.size:Int)) rfl rfl rfl (g_d rfl ?_)
    try dsimp only [Qae,Qaf]
    refine Qab ?_
    have hs:St _ [] _:=St.take (Γ':=[]) hs
    exact ha _ _ ⟨(a1.size:Int),H,rfl,hs⟩
   intro hb
   rw [if_neg (b_beq_f hb)] at H
   refine g_d rfl (Qab (Qad rfl (Qaw ?_)))
   have hs:St _ [] _:=St.take (Γ':=[]) hs
   exact ha _ _ ⟨i64w ((i64w ((8192:Int).tdiv (a1.size:Int)))*(a1.size:Int)),H,rfl,hs⟩
  intro hb
  rw [if_neg (b_dec_f hb)] at H
  refine g_d rfl ?_
  try dsimp only [Qae,Qaf]
  refine Qab (Qad rfl (Qaw ?_))
  have hs:St _ [] _:=St.take (Γ':=[]) hs
  exact ha _ _ ⟨i64w r3.2,H,rfl,hs⟩
 intro ha
 refine Qac (Qac ?_)
 refine Qbr (J:=(fun t w=>∃ x4:Bool,Qan.j4 N r3 a1 x4=some r∧Fr t (fun O=>(string a1::O 1::O 2::O 3::O 4::O 5::O 6::int .i64 (i64w r3.2)::O 8::O 9::oT O 1 (oT O 2 (oT O 3 (O 40::O 41::O 42::bool x4::O 44::O 45::O 46::O 47::O 48::O 49::oT O 5 (oT O 6 (oT O 7 (oT O 8 (oT O 9 (oT O 10 (oT O 11 (O 120::O 121::O 122::O 123::O 124::[])))))))))):List Value))∧St w0 [] w)) ?_ ?_
 ·
  rintro t w ⟨x4,H,hf,hs⟩
  obtain ⟨O,rfl⟩:=hf.open
  try dsimp only [oT]
  unfold Qan.j4 at H
  refine QbT (b:=x4) rfl ?_ ?_
  · as_aux_lemma =>
   intro hb
   rw [if_pos (b_var_t hb)] at H
   refine QaR (J:=(fun t w=>Qan.j5 N r3 a1=some r∧Fr t (fun O=>(string a1::O 1::O 2::O 3::O 4::O 5::O 6::int .i64 (i64w r3.2)::O 8::O 9::oT O 1 (oT O 2 (oT O 3 (oT O 4 (oT O 5 (oT O 6 (oT O 7 (oT O 8 (oT O 9 (oT O 10 (oT O 11 (O 120::O 121::O 122::O 123::O 124::[]))))))))))):List Value))∧St w0 [] w)) ?_ ?_
   ·
    rintro t w ⟨H,hf,hs⟩
    obtain ⟨O,rfl⟩:=hf.open
    try dsimp only [oT]
    unfold Qan.j5 at H
    refine QaD ?_
    have hs:St _ [] _:=St.take (Γ':=[]) hs
    exact ha _ _ ⟨H,rfl,hs⟩
   intro ha
   refine Qac (Qaj [0,1,2,3,4,5,6] rfl ?_)
   refine Qaa (v:=int .i64 (i64w r3.2)) rfl rfl rfl (g_d rfl ?_)
   refine Qas (B:=decide ((i64w r3.2)≤128)) rfl rfl rfl ?_ ?_
   · as_aux_lemma =>
    intro hb
    rw [if_pos (b_dec_t hb)] at H
    refine g_d rfl ?_
    refine Qaa (v:=bool true) rfl rfl rfl (g_d rfl ?_)
    refine Qaa (v:=string a1) rfl rfl rfl (g_d rfl ?_)
    obtain ⟨r5,Hr5,H⟩:=bind_get H
    refine QaA (args:=[string (⟨#[32,32,32,32,32,32,32,32,32,32,32,32,32,32,32,32,32,32,32,32,32,32,32,32,32,32,32,32,32,32,32,32,32,32,32,32,32,32,32,32,32,32,32,32,32,32,32,32,32,32,32,32,32,32,32,32,32,32,32,32,32,32,32,32,32,32,32,32,32,32,32,32,32,32,32,32,32,32,32,32,32,32,32,32,32,32,32,32,32,32,32,32,32,32,32,32,32,32,32,32,32,32,32,32,32,32,32,32,32,32,32,32,32,32,32,32,32,32,32,32,32,32,32,32,32,32,32,32]⟩:ByteArray),string a1]) rfl rfl (Qax rfl (callFunc_enter Tryd.func47 rfl rfl) rfl) (Qam.calls (a1:=(⟨#[32,32,32,32,32,32,32,32,32,32,32,32,32,32,32,32,32,32,32,32,32,32,32,32,32,32,32,32,32,32,32,32,32,32,32,32,32,32,32,32,32,32,32,32,32,32,32,32,32,32,32,32,32,32,32,32,32,32,32,32,32,32,32,32,32,32,32,32,32,32,32,32,32,32,32,32,32,32,32,32,32,32,32,32,32,32,32,32,32,32,32,32,32,32,32,32,32,32,32,32,32,32,32,32,32,32,32,32,32,32,32,32,32,32,32,32,32,32,32,32,32,32,32,32,32,32,32,32]⟩:ByteArray)) (a2:=a1) Hr5) ?_
    rintro _ w ⟨rfl,hs2⟩
    have hs:St _ [] _:=hs.call hs2
    refine g_d rfl ?_
    try dsimp only [Qae,Qaf]
    refine Qas (B:=r5) rfl rfl rfl ?_ ?_
    ·
     intro hb
     rw [if_pos (b_var_t hb)] at H
     refine g_d rfl ?_
     refine Qaa (v:=bool true) rfl rfl rfl (g_d rfl ?_)
     try dsimp only [Qae,Qaf]
     refine Qab (Qak rfl (Qac (Qaj [0,1,2] rfl ?_)))
     refine Qaa (v:=int .i64 (i64w r3.2)) rfl rfl rfl (g_d rfl ?_)
     obtain ⟨g,H⟩:=ite_get H
     refine Qaa (v:=string (subS (⟨#[32,32,32,32,32,32,32,32,32,32,32,32,32,32,32,32,32,32,32,32,32,32,32,32,32,32,32,32,32,32,32,32,32,32,32,32,32,32,32,32,32,32,32,32,32,32,32,32,32,32,32,32,32,32,32,32,32,32,32,32,32,32,32,32,32,32,32,32,32,32,32,32,32,32,32,32,32,32,32,32,32,32,32,32,32,32,32,32,32,32,32,32,32,32,32,32,32,32,32,32,32,32,32,32,32,32,32,32,32,32,32,32,32,32,32,32,32,32,32,32,32,32,32,32,32,32,32,32]⟩:ByteArray) 0 (i64w r3.2))) rfl rfl (QaM rfl rfl rfl (.inl ⟨rfl,rfl⟩) (.inr ⟨_,_,rfl,rfl⟩) g.1 g.2.1 g.2.2) ?_
     refine g_d rfl ?_
     refine Qaa (v:=string (subS (⟨#[32,32,32,32,32,32,32,32,32,32,32,32,32,32,32,32,32,32,32,32,32,32,32,32,32,32,32,32,32,32,32,32,32,32,32,32,32,32,32,32,32,32,32,32,32,32,32,32,32,32,32,32,32,32,32,32,32,32,32,32,32,32,32,32,32,32,32,32,32,32,32,32,32,32,32,32,32,32,32,32,32,32,32,32,32,32,32,32,32,32,32,32,32,32,32,32,32,32,32,32,32,32,32,32,32,32,32,32,32,32,32,32,32,32,32,32,32,32,32,32,32,32,32,32,32,32,32,32]⟩:ByteArray) 0 (i64w r3.2))) rfl rfl rfl ?_
     refine g_d rfl ?_
     try dsimp only [Qae,Qaf]
     refine Qab ?_
     obtain rfl:=QsJ H
     refine Qau Tryd.func22 (v:=string (subS (⟨#[32,32,32,32,32,32,32,32,32,32,32,32,32,32,32,32,32,32,32,32,32,32,32,32,32,32,32,32,32,32,32,32,32,32,32,32,32,32,32,32,32,32,32,32,32,32,32,32,32,32,32,32,32,32,32,32,32,32,32,32,32,32,32,32,32,32,32,32,32,32,32,32,32,32,32,32,32,32,32,32,32,32,32,32,32,32,32,32,32,32,32,32,32,32,32,32,32,32,32,32,32,32,32,32,32,32,32,32,32,32,32,32,32,32,32,32,32,32,32,32,32,32,32,32,32,32,32,32]⟩:ByteArray) 0 (i64w r3.2))) (res1 rfl rfl) ?_
     have hs:St _ [] _:=St.take (Γ':=[]) hs
     exact ⟨_,rfl,rfl,hs⟩
    intro hb
    rw [if_neg (b_var_f hb)] at H
    refine g_d rfl ?_
    refine Qaa (v:=bool false) rfl rfl rfl (g_d rfl ?_)
    try dsimp only [Qae,Qaf]
    refine Qab (Qad rfl (Qac (Qaj [0,1,2,3,4,5,6] rfl ?_)))
    refine Qaa (v:=int .i64 (i64w r3.2)) rfl rfl rfl (g_d rfl ?_)
    refine Qas (B:=decide ((i64w r3.2)≤128)) rfl rfl rfl ?_ ?_
    · as_aux_lemma =>
     intro hb
     rw [if_pos (b_dec_t hb)] at H
     refine g_d rfl ?_
     refine Qaa (v:=bool true) rfl rfl rfl (g_d rfl ?_)
     refine Qaa (v:=string a1) rfl rfl rfl (g_d rfl ?_)
     obtain ⟨r6,Hr6,H⟩:=bind_get H
     refine QaA (args:=[string (⟨#[45,45,45,45,45,45,45,45,45,45,45,45,45,45,45,45,45,45,45,45,45,45,45,45,45,45,45,45,45,45,45,45,45,45,45,45,45,45,45,45,45,45,45,45,45,45,45,45,45,45,45,45,45,45,45,45,45,45,45,45,45,45,45,45,45,45,45,45,45,45,45,45,45,45,45,45,45,45,45,45,45,45,45,45,45,45,45,45,45,45,45,45,45,45,45,45,45,45,45,45,45,45,45,45,45,45,45,45,45,45,45,45,45,45,45,45,45,45,45,45,45,45,45,45,45,45,45,45]⟩:ByteArray),string a1]) rfl rfl (Qax rfl (callFunc_enter Tryd.func47 rfl rfl) rfl) (Qam.calls (a1:=(⟨#[45,45,45,45,45,45,45,45,45,45,45,45,45,45,45,45,45,45,45,45,45,45,45,45,45,45,45,45,45,45,45,45,45,45,45,45,45,45,45,45,45,45,45,45,45,45,45,45,45,45,45,45,45,45,45,45,45,45,45,45,45,45,45,45,45,45,45,45,45,45,45,45,45,45,45,45,45,45,45,45,45,45,45,45,45,45,45,45,45,45,45,45,45,45,45,45,45,45,45,45,45,45,45,45,45,45,45,45,45,45,45,45,45,45,45,45,45,45,45,45,45,45,45,45,45,45,45,45]⟩:ByteArray)) (a2:=a1) Hr6) ?_
     rintro _ w ⟨rfl,hs2⟩
     have hs:St _ [] _:=hs.call hs2
     refine g_d rfl ?_
     try dsimp only [Qae,Qaf]
     refine Qas (B:=r6) rfl rfl rfl ?_ ?_
     ·
      intro hb
      rw [if_pos (b_var_t hb)] at H
      refine g_d rfl ?_
      refine Qaa (v:=bool true) rfl rfl rfl (g_d rfl ?_)
      try dsimp only [Qae,Qaf]
      refine Qab (Qak rfl (Qac (Qaj [0,1,2] rfl ?_)))
      refine Qaa (v:=int .i64 (i64w r3.2)) rfl rfl rfl (g_d rfl ?_)
      obtain ⟨g,H⟩:=ite_get H
      refine Qaa (v:=string (subS (⟨#[45,45,45,45,45,45,45,45,45,45,45,45,45,45,45,45,45,45,45,45,45,45,45,45,45,45,45,45,45,45,45,45,45,45,45,45,45,45,45,45,45,45,45,45,45,45,45,45,45,45,45,45,45,45,45,45,45,45,45,45,45,45,45,45,45,45,45,45,45,45,45,45,45,45,45,45,45,45,45,45,45,45,45,45,45,45,45,45,45,45,45,45,45,45,45,45,45,45,45,45,45,45,45,45,45,45,45,45,45,45,45,45,45,45,45,45,45,45,45,45,45,45,45,45,45,45,45,45]⟩:ByteArray) 0 (i64w r3.2))) rfl rfl (QaM rfl rfl rfl (.inl ⟨rfl,rfl⟩) (.inr ⟨_,_,rfl,rfl⟩) g.1 g.2.1 g.2.2) ?_
      refine g_d rfl ?_
      refine Qaa (v:=string (subS (⟨#[45,45,45,45,45,45,45,45,45,45,45,45,45,45,45,45,45,45,45,45,45,45,45,45,45,45,45,45,45,45,45,45,45,45,45,45,45,45,45,45,45,45,45,45,45,45,45,45,45,45,45,45,45,45,45,45,45,45,45,45,45,45,45,45,45,45,45,45,45,45,45,45,45,45,45,45,45,45,45,45,45,45,45,45,45,45,45,45,45,45,45,45,45,45,45,45,45,45,45,45,45,45,45,45,45,45,45,45,45,45,45,45,45,45,45,45,45,45,45,45,45,45,45,45,45,45,45,45]⟩:ByteArray) 0 (i64w r3.2))) rfl rfl rfl ?_
      refine g_d rfl ?_
      try dsimp only [Qae,Qaf]
      refine Qab ?_
      obtain rfl:=QsJ H
      refine Qau Tryd.func22 (v:=string (subS (⟨#[45,45,45,45,45,45,45,45,45,45,45,45,45,45,45,45,45,45,45,45,45,45,45,45,45,45,45,45,45,45,45,45,45,45,45,45,45,45,45,45,45,45,45,45,45,45,45,45,45,45,45,45,45,45,45,45,45,45,45,45,45,45,45,45,45,45,45,45,45,45,45,45,45,45,45,45,45,45,45,45,45,45,45,45,45,45,45,45,45,45,45,45,45,45,45,45,45,45,45,45,45,45,45,45,45,45,45,45,45,45,45,45,45,45,45,45,45,45,45,45,45,45,45,45,45,45,45,45]⟩:ByteArray) 0 (i64w r3.2))) (res1 rfl rfl) ?_
      have hs:St _ [] _:=St.take (Γ':=[]) hs
      exact ⟨_,rfl,rfl,hs⟩
     intro hb
     rw [if_neg (b_var_f hb)] at H
     refine g_d rfl ?_
     refine Qaa (v:=bool false) rfl rfl rfl (g_d rfl ?_)
     try dsimp only [Qae,Qaf]
     refine Qab (Qad rfl (Qac (Qaj [0,1,2,3,4,5,6] rfl ?_)))
     refine Qaa (v:=int .i64 (i64w r3.2)) rfl rfl rfl (g_d rfl ?_)
     refine Qas (B:=decide ((i64w r3.2)≤64)) rfl rfl rfl ?_ ?_
     · as_aux_lemma =>
      intro hb
      rw [if_pos (b_dec_t hb)] at H
      refine g_d rfl ?_
      refine Qaa (v:=bool true) rfl rfl rfl (g_d rfl ?_)
      refine Qaa (v:=string a1) rfl rfl rfl (g_d rfl ?_)
      obtain ⟨r7,Hr7,H⟩:=bind_get H
      refine QaA (args:=[string (⟨#[48,48,48,48,48,48,48,48,48,48,48,48,48,48,48,48,48,48,48,48,48,48,48,48,48,48,48,48,48,48,48,48,48,48,48,48,48,48,48,48,48,48,48,48,48,48,48,48,48,48,48,48,48,48,48,48,48,48,48,48,48,48,48,48]⟩:ByteArray),string a1]) rfl rfl (Qax rfl (callFunc_enter Tryd.func47 rfl rfl) rfl) (Qam.calls (a1:=(⟨#[48,48,48,48,48,48,48,48,48,48,48,48,48,48,48,48,48,48,48,48,48,48,48,48,48,48,48,48,48,48,48,48,48,48,48,48,48,48,48,48,48,48,48,48,48,48,48,48,48,48,48,48,48,48,48,48,48,48,48,48,48,48,48,48]⟩:ByteArray)) (a2:=a1) Hr7) ?_
      rintro _ w ⟨rfl,hs2⟩
      have hs:St _ [] _:=hs.call hs2
      refine g_d rfl ?_
      try dsimp only [Qae,Qaf]
      refine Qas (B:=r7) rfl rfl rfl ?_ ?_
      ·
       intro hb
       rw [if_pos (b_var_t hb)] at H
       refine g_d rfl ?_
       refine Qaa (v:=bool true) rfl rfl rfl (g_d rfl ?_)
       try dsimp only [Qae,Qaf]
       refine Qab (Qak rfl (Qac (Qaj [0,1,2] rfl ?_)))
       refine Qaa (v:=int .i64 (i64w r3.2)) rfl rfl rfl (g_d rfl ?_)
       obtain ⟨g,H⟩:=ite_get H
       refine Qaa (v:=string (subS (⟨#[48,48,48,48,48,48,48,48,48,48,48,48,48,48,48,48,48,48,48,48,48,48,48,48,48,48,48,48,48,48,48,48,48,48,48,48,48,48,48,48,48,48,48,48,48,48,48,48,48,48,48,48,48,48,48,48,48,48,48,48,48,48,48,48]⟩:ByteArray) 0 (i64w r3.2))) rfl rfl (QaM rfl rfl rfl (.inl ⟨rfl,rfl⟩) (.inr ⟨_,_,rfl,rfl⟩) g.1 g.2.1 g.2.2) ?_
       refine g_d rfl ?_
       refine Qaa (v:=string (subS (⟨#[48,48,48,48,48,48,48,48,48,48,48,48,48,48,48,48,48,48,48,48,48,48,48,48,48,48,48,48,48,48,48,48,48,48,48,48,48,48,48,48,48,48,48,48,48,48,48,48,48,48,48,48,48,48,48,48,48,48,48,48,48,48,48,48]⟩:ByteArray) 0 (i64w r3.2))) rfl rfl rfl (g_d rfl ?_)
       try dsimp only [Qae,Qaf]
       refine Qab ?_
       obtain rfl:=QsJ H
       refine Qau Tryd.func22 (v:=string (subS (⟨#[48,48,48,48,48,48,48,48,48,48,48,48,48,48,48,48,48,48,48,48,48,48,48,48,48,48,48,48,48,48,48,48,48,48,48,48,48,48,48,48,48,48,48,48,48,48,48,48,48,48,48,48,48,48,48,48,48,48,48,48,48,48,48,48]⟩:ByteArray) 0 (i64w r3.2))) (res1 rfl rfl) ?_
       have hs:St _ [] _:=St.take (Γ':=[]) hs
       exact ⟨_,rfl,rfl,hs⟩
      intro hb
      rw [if_neg (b_var_f hb)] at H
      refine g_d rfl ?_
      refine Qaa (v:=bool false) rfl rfl rfl (g_d rfl ?_)
      try dsimp only [Qae,Qaf]
      refine Qab (Qad rfl (Qac (Qaj [0,1,2,3,4,5,6] rfl ?_)))
      refine Qaa (v:=int .i64 (i64w r3.2)) rfl rfl rfl (g_d rfl ?_)
      refine Qas (B:=decide ((i64w r3.2)≤128)) rfl rfl rfl ?_ ?_
      ·
       intro hb
       rw [if_pos (b_dec_t hb)] at H
       refine g_d rfl ?_
       refine Qaa (v:=bool true) rfl rfl rfl (g_d rfl ?_)
       refine Qaa (v:=string a1) rfl rfl rfl (g_d rfl ?_)
       obtain ⟨r8,Hr8,H⟩:=bind_get H
       refine QaA (args:=[string (⟨#[61,61,61,61,61,61,61,61,61,61,61,61,61,61,61,61,61,61,61,61,61,61,61,61,61,61,61,61,61,61,61,61,61,61,61,61,61,61,61,61,61,61,61,61,61,61,61,61,61,61,61,61,61,61,61,61,61,61,61,61,61,61,61,61,61,61,61,61,61,61,61,61,61,61,61,61,61,61,61,61,61,61,61,61,61,61,61,61,61,61,61,61,61,61,61,61,61,61,61,61,61,61,61,61,61,61,61,61,61,61,61,61,61,61,61,61,61,61,61,61,61,61,61,61,61,61,61,61]⟩:ByteArray),string a1]) rfl rfl (Qax rfl (callFunc_enter Tryd.func47 rfl rfl) rfl) (Qam.calls (a1:=(⟨#[61,61,61,61,61,61,61,61,61,61,61,61,61,61,61,61,61,61,61,61,61,61,61,61,61,61,61,61,61,61,61,61,61,61,61,61,61,61,61,61,61,61,61,61,61,61,61,61,61,61,61,61,61,61,61,61,61,61,61,61,61,61,61,61,61,61,61,61,61,61,61,61,61,61,61,61,61,61,61,61,61,61,61,61,61,61,61,61,61,61,61,61,61,61,61,61,61,61,61,61,61,61,61,61,61,61,61,61,61,61,61,61,61,61,61,61,61,61,61,61,61,61,61,61,61,61,61,61]⟩:ByteArray)) (a2:=a1) Hr8) ?_
       rintro _ w ⟨rfl,hs2⟩
       have hs:St _ [] _:=hs.call hs2
       refine g_d rfl ?_
       try dsimp only [Qae,Qaf]
       refine Qas (B:=r8) rfl rfl rfl ?_ ?_
       ·
        intro hb
        rw [if_pos (b_var_t hb)] at H
        refine g_d rfl ?_
        refine Qaa (v:=bool true) rfl rfl rfl (g_d rfl ?_)
        try dsimp only [Qae,Qaf]
        refine Qab (Qak rfl (Qac (Qaj [0,1,2] rfl ?_)))
        refine Qaa (v:=int .i64 (i64w r3.2)) rfl rfl rfl (g_d rfl ?_)
        obtain ⟨g,H⟩:=ite_get H
        refine Qaa (v:=string (subS (⟨#[61,61,61,61,61,61,61,61,61,61,61,61,61,61,61,61,61,61,61,61,61,61,61,61,61,61,61,61,61,61,61,61,61,61,61,61,61,61,61,61,61,61,61,61,61,61,61,61,61,61,61,61,61,61,61,61,61,61,61,61,61,61,61,61,61,61,61,61,61,61,61,61,61,61,61,61,61,61,61,61,61,61,61,61,61,61,61,61,61,61,61,61,61,61,61,61,61,61,61,61,61,61,61,61,61,61,61,61,61,61,61,61,61,61,61,61,61,61,61,61,61,61,61,61,61,61,61,61]⟩:ByteArray) 0 (i64w r3.2))) rfl rfl (QaM rfl rfl rfl (.inl ⟨rfl,rfl⟩) (.inr ⟨_,_,rfl,rfl⟩) g.1 g.2.1 g.2.2) ?_
        refine g_d rfl ?_
        refine Qaa (v:=string (subS (⟨#[61,61,61,61,61,61,61,61,61,61,61,61,61,61,61,61,61,61,61,61,61,61,61,61,61,61,61,61,61,61,61,61,61,61,61,61,61,61,61,61,61,61,61,61,61,61,61,61,61,61,61,61,61,61,61,61,61,61,61,61,61,61,61,61,61,61,61,61,61,61,61,61,61,61,61,61,61,61,61,61,61,61,61,61,61,61,61,61,61,61,61,61,61,61,61,61,61,61,61,61,61,61,61,61,61,61,61,61,61,61,61,61,61,61,61,61,61,61,61,61,61,61,61,61,61,61,61,61]⟩:ByteArray) 0 (i64w r3.2))) rfl rfl rfl ?_
        refine g_d rfl ?_
        try dsimp only [Qae,Qaf]
        refine Qab ?_
        obtain rfl:=QsJ H
        refine Qau Tryd.func22 (v:=string (subS (⟨#[61,61,61,61,61,61,61,61,61,61,61,61,61,61,61,61,61,61,61,61,61,61,61,61,61,61,61,61,61,61,61,61,61,61,61,61,61,61,61,61,61,61,61,61,61,61,61,61,61,61,61,61,61,61,61,61,61,61,61,61,61,61,61,61,61,61,61,61,61,61,61,61,61,61,61,61,61,61,61,61,61,61,61,61,61,61,61,61,61,61,61,61,61,61,61,61,61,61,61,61,61,61,61,61,61,61,61,61,61,61,61,61,61,61,61,61,61,61,61,61,61,61,61,61,61,61,61,61]⟩:ByteArray) 0 (i64w r3.2))) (res1 rfl rfl) ?_
        have hs:St _ [] _:=St.take (Γ':=[]) hs
        exact ⟨_,rfl,rfl,hs⟩
       intro hb
       rw [if_neg (b_var_f hb)] at H
       refine g_d rfl ?_
       refine Qaa (v:=bool false) rfl rfl rfl (g_d rfl ?_)
       try dsimp only [Qae,Qaf]
       refine Qab (Qad rfl (Qac (Qaj [0,1,2,3,4,5,6] rfl ?_)))
       refine Qaa (v:=int .i64 (i64w r3.2)) rfl rfl rfl (g_d rfl ?_)
       refine Qas (B:=decide ((i64w r3.2)≤64)) rfl rfl rfl ?_ ?_
       ·
        intro hb
        rw [if_pos (b_dec_t hb)] at H
        refine g_d rfl ?_
        refine Qaa (v:=bool true) rfl rfl rfl (g_d rfl ?_)
        refine Qaa (v:=string a1) rfl rfl rfl (g_d rfl ?_)
        obtain ⟨r9,Hr9,H⟩:=bind_get H
        refine QaA (args:=[string (⟨#[9,9,9,9,9,9,9,9,9,9,9,9,9,9,9,9,9,9,9,9,9,9,9,9,9,9,9,9,9,9,9,9,9,9,9,9,9,9,9,9,9,9,9,9,9,9,9,9,9,9,9,9,9,9,9,9,9,9,9,9,9,9,9,9]⟩:ByteArray),string a1]) rfl rfl (Qax rfl (callFunc_enter Tryd.func47 rfl rfl) rfl) (Qam.calls (a1:=(⟨#[9,9,9,9,9,9,9,9,9,9,9,9,9,9,9,9,9,9,9,9,9,9,9,9,9,9,9,9,9,9,9,9,9,9,9,9,9,9,9,9,9,9,9,9,9,9,9,9,9,9,9,9,9,9,9,9,9,9,9,9,9,9,9,9]⟩:ByteArray)) (a2:=a1) Hr9) ?_
        rintro _ w ⟨rfl,hs2⟩
        have hs:St _ [] _:=hs.call hs2
        refine g_d rfl ?_
        try dsimp only [Qae,Qaf]
        refine Qas (B:=r9) rfl rfl rfl ?_ ?_
        ·
         intro hb
         rw [if_pos (b_var_t hb)] at H
         refine g_d rfl ?_
         refine Qaa (v:=bool true) rfl rfl rfl (g_d rfl ?_)
         try dsimp only [Qae,Qaf]
         refine Qab (Qak rfl (Qac (Qaj [0,1,2] rfl ?_)))
         refine Qaa (v:=int .i64 (i64w r3.2)) rfl rfl rfl (g_d rfl ?_)
         obtain ⟨g,H⟩:=ite_get H
         refine Qaa (v:=string (subS (⟨#[9,9,9,9,9,9,9,9,9,9,9,9,9,9,9,9,9,9,9,9,9,9,9,9,9,9,9,9,9,9,9,9,9,9,9,9,9,9,9,9,9,9,9,9,9,9,9,9,9,9,9,9,9,9,9,9,9,9,9,9,9,9,9,9]⟩:ByteArray) 0 (i64w r3.2))) rfl rfl (QaM rfl rfl rfl (.inl ⟨rfl,rfl⟩) (.inr ⟨_,_,rfl,rfl⟩) g.1 g.2.1 g.2.2) (g_d rfl ?_)
         refine Qaa (v:=string (subS (⟨#[9,9,9,9,9,9,9,9,9,9,9,9,9,9,9,9,9,9,9,9,9,9,9,9,9,9,9,9,9,9,9,9,9,9,9,9,9,9,9,9,9,9,9,9,9,9,9,9,9,9,9,9,9,9,9,9,9,9,9,9,9,9,9,9]⟩:ByteArray) 0 (i64w r3.2))) rfl rfl rfl (g_d rfl ?_)
         try dsimp only [Qae,Qaf]
         refine Qab ?_
         obtain rfl:=QsJ H
         refine Qau Tryd.func22 (v:=string (subS (⟨#[9,9,9,9,9,9,9,9,9,9,9,9,9,9,9,9,9,9,9,9,9,9,9,9,9,9,9,9,9,9,9,9,9,9,9,9,9,9,9,9,9,9,9,9,9,9,9,9,9,9,9,9,9,9,9,9,9,9,9,9,9,9,9,9]⟩:ByteArray) 0 (i64w r3.2))) (res1 rfl rfl) ?_
         have hs:St _ [] _:=St.take (Γ':=[]) hs
         exact ⟨_,rfl,rfl,hs⟩
        intro hb
        rw [if_neg (b_var_f hb)] at H
        refine g_d rfl ?_
        refine Qaa (v:=bool false) rfl rfl rfl (g_d rfl ?_)
        try dsimp only [Qae,Qaf]
        refine Qab (Qad rfl (Qaw ?_))
        refine QaD ?_
        have hs:St _ [] _:=St.take (Γ':=[]) hs
        exact ha _ _ ⟨H,rfl,hs⟩
       intro hb
       rw [if_neg (b_dec_f hb)] at H
       refine g_d rfl ?_
       refine Qaa (v:=bool false) rfl rfl rfl (g_d rfl (Qag rfl rfl (g_d rfl (Qag rfl rfl (g_d rfl ?_)))))
       try dsimp only [Qae,Qaf]
       refine Qaa (v:=bool false) rfl rfl rfl (g_d rfl ?_)
       refine Qaa (v:=bool false) rfl rfl rfl (g_d rfl ?_)
       try dsimp only [Qae,Qaf]
       refine Qab (Qad rfl (Qaw ?_))
       refine QaD ?_
       have hs:St _ [] _:=St.take (Γ':=[]) hs
       exact ha _ _ ⟨H,rfl,hs⟩
      intro hb
      rw [if_neg (b_dec_f hb)] at H
      refine g_d rfl ?_
      refine Qaa (v:=bool false) rfl rfl rfl (g_d rfl (Qag rfl rfl (g_d rfl (Qag rfl rfl (g_d rfl ?_)))))
      try dsimp only [Qae,Qaf]
      refine Qaa (v:=bool false) rfl rfl rfl (g_d rfl ?_)
      refine Qaa (v:=bool false) rfl rfl rfl (g_d rfl ?_)
      try dsimp only [Qae,Qaf]
      refine Qab (Qad rfl (Qac (Qaj [0,1,2,3,4,5,6] rfl ?_)))
      refine Qaa (v:=int .i64 (i64w r3.2)) rfl rfl rfl (g_d rfl ?_)
      refine Qas (B:=decide ((i64w r3.2)≤64)) rfl rfl rfl ?_ ?_
      ·
       intro hb
       rw [if_pos (b_dec_t hb)] at H
       refine g_d rfl ?_
       refine Qaa (v:=bool true) rfl rfl rfl (g_d rfl ?_)
       refine Qaa (v:=string a1) rfl rfl rfl (g_d rfl ?_)
       obtain ⟨r10,Hr10,H⟩:=bind_get H
       refine QaA (args:=[string (⟨#[9,9,9,9,9,9,9,9,9,9,9,9,9,9,9,9,9,9,9,9,9,9,9,9,9,9,9,9,9,9,9,9,9,9,9,9,9,9,9,9,9,9,9,9,9,9,9,9,9,9,9,9,9,9,9,9,9,9,9,9,9,9,9,9]⟩:ByteArray),string a1]) rfl rfl (Qax rfl (callFunc_enter Tryd.func47 rfl rfl) rfl) (Qam.calls (a1:=(⟨#[9,9,9,9,9,9,9,9,9,9,9,9,9,9,9,9,9,9,9,9,9,9,9,9,9,9,9,9,9,9,9,9,9,9,9,9,9,9,9,9,9,9,9,9,9,9,9,9,9,9,9,9,9,9,9,9,9,9,9,9,9,9,9,9]⟩:ByteArray)) (a2:=a1) Hr10) ?_
       rintro _ w ⟨rfl,hs2⟩
       have hs:St _ [] _:=hs.call hs2
       refine g_d rfl ?_
       try dsimp only [Qae,Qaf]
       refine Qas (B:=r10) rfl rfl rfl ?_ ?_
       ·
        intro hb
        rw [if_pos (b_var_t hb)] at H
        refine g_d rfl ?_
        refine Qaa (v:=bool true) rfl rfl rfl (g_d rfl ?_)
        try dsimp only [Qae,Qaf]
        refine Qab (Qak rfl (Qac (Qaj [0,1,2] rfl ?_)))
        refine Qaa (v:=int .i64 (i64w r3.2)) rfl rfl rfl (g_d rfl ?_)
        obtain ⟨g,H⟩:=ite_get H
        refine Qaa (v:=string (subS (⟨#[9,9,9,9,9,9,9,9,9,9,9,9,9,9,9,9,9,9,9,9,9,9,9,9,9,9,9,9,9,9,9,9,9,9,9,9,9,9,9,9,9,9,9,9,9,9,9,9,9,9,9,9,9,9,9,9,9,9,9,9,9,9,9,9]⟩:ByteArray) 0 (i64w r3.2))) rfl rfl (QaM rfl rfl rfl (.inl ⟨rfl,rfl⟩) (.inr ⟨_,_,rfl,rfl⟩) g.1 g.2.1 g.2.2) (g_d rfl ?_)
        refine Qaa (v:=string (subS (⟨#[9,9,9,9,9,9,9,9,9,9,9,9,9,9,9,9,9,9,9,9,9,9,9,9,9,9,9,9,9,9,9,9,9,9,9,9,9,9,9,9,9,9,9,9,9,9,9,9,9,9,9,9,9,9,9,9,9,9,9,9,9,9,9,9]⟩:ByteArray) 0 (i64w r3.2))) rfl rfl rfl (g_d rfl ?_)
        try dsimp only [Qae,Qaf]
        refine Qab ?_
        obtain rfl:=QsJ H
        refine Qau Tryd.func22 (v:=string (subS (⟨#[9,9,9,9,9,9,9,9,9,9,9,9,9,9,9,9,9,9,9,9,9,9,9,9,9,9,9,9,9,9,9,9,9,9,9,9,9,9,9,9,9,9,9,9,9,9,9,9,9,9,9,9,9,9,9,9,9,9,9,9,9,9,9,9]⟩:ByteArray) 0 (i64w r3.2))) (res1 rfl rfl) ?_
        have hs:St _ [] _:=St.take (Γ':=[]) hs
        exact ⟨_,rfl,rfl,hs⟩
       intro hb
       rw [if_neg (b_var_f hb)] at H
       refine g_d rfl ?_
       refine Qaa (v:=bool false) rfl rfl rfl (g_d rfl ?_)
       try dsimp only [Qae,Qaf]
       refine Qab (Qad rfl (Qaw ?_))
       refine QaD ?_
       have hs:St _ [] _:=St.take (Γ':=[]) hs
       exact ha _ _ ⟨H,rfl,hs⟩
      intro hb
      rw [if_neg (b_dec_f hb)] at H
      refine g_d rfl ?_
      refine Qaa (v:=bool false) rfl rfl rfl (g_d rfl (Qag rfl rfl (g_d rfl (Qag rfl rfl (g_d rfl ?_)))))
      try dsimp only [Qae,Qaf]
      refine Qaa (v:=bool false) rfl rfl rfl (g_d rfl ?_)
      refine Qaa (v:=bool false) rfl rfl rfl (g_d rfl ?_)
      try dsimp only [Qae,Qaf]
      refine Qab (Qad rfl (Qaw ?_))
      refine QaD ?_
      have hs:St _ [] _:=St.take (Γ':=[]) hs
      exact ha _ _ ⟨H,rfl,hs⟩
     intro hb
     rw [if_neg (b_dec_f hb)] at H
     refine g_d rfl ?_
     refine Qaa (v:=bool false) rfl rfl rfl (g_d rfl (Qag rfl rfl (g_d rfl (Qag rfl rfl (g_d rfl ?_)))))
     try dsimp only [Qae,Qaf]
     refine Qaa (v:=bool false) rfl rfl rfl (g_d rfl ?_)
     refine Qaa (v:=bool false) rfl rfl rfl (g_d rfl ?_)
     try dsimp only [Qae,Qaf]
     refine Qab (Qad rfl (Qac (Qaj [0,1,2,3,4,5,6] rfl ?_)))
     refine Qaa (v:=int .i64 (i64w r3.2)) rfl rfl rfl (g_d rfl ?_)
     refine Qas (B:=decide ((i64w r3.2)≤128)) rfl rfl rfl ?_ ?_
     ·
      intro hb
      rw [if_pos (b_dec_t hb)] at H
      refine g_d rfl ?_
      refine Qaa (v:=bool true) rfl rfl rfl (g_d rfl ?_)
      refine Qaa (v:=string a1) rfl rfl rfl (g_d rfl ?_)
      obtain ⟨r11,Hr11,H⟩:=bind_get H
      refine QaA (args:=[string (⟨#[61,61,61,61,61,61,61,61,61,61,61,61,61,61,61,61,61,61,61,61,61,61,61,61,61,61,61,61,61,61,61,61,61,61,61,61,61,61,61,61,61,61,61,61,61,61,61,61,61,61,61,61,61,61,61,61,61,61,61,61,61,61,61,61,61,61,61,61,61,61,61,61,61,61,61,61,61,61,61,61,61,61,61,61,61,61,61,61,61,61,61,61,61,61,61,61,61,61,61,61,61,61,61,61,61,61,61,61,61,61,61,61,61,61,61,61,61,61,61,61,61,61,61,61,61,61,61,61]⟩:ByteArray),string a1]) rfl rfl (Qax rfl (callFunc_enter Tryd.func47 rfl rfl) rfl) (Qam.calls (a1:=(⟨#[61,61,61,61,61,61,61,61,61,61,61,61,61,61,61,61,61,61,61,61,61,61,61,61,61,61,61,61,61,61,61,61,61,61,61,61,61,61,61,61,61,61,61,61,61,61,61,61,61,61,61,61,61,61,61,61,61,61,61,61,61,61,61,61,61,61,61,61,61,61,61,61,61,61,61,61,61,61,61,61,61,61,61,61,61,61,61,61,61,61,61,61,61,61,61,61,61,61,61,61,61,61,61,61,61,61,61,61,61,61,61,61,61,61,61,61,61,61,61,61,61,61,61,61,61,61,61,61]⟩:ByteArray)) (a2:=a1) Hr11) ?_
      rintro _ w ⟨rfl,hs2⟩
      have hs:St _ [] _:=hs.call hs2
      refine g_d rfl ?_
      try dsimp only [Qae,Qaf]
      refine Qas (B:=r11) rfl rfl rfl ?_ ?_
      ·
       intro hb
       rw [if_pos (b_var_t hb)] at H
       refine g_d rfl ?_
       refine Qaa (v:=bool true) rfl rfl rfl (g_d rfl ?_)
       try dsimp only [Qae,Qaf]
       refine Qab (Qak rfl (Qac (Qaj [0,1,2] rfl ?_)))
       refine Qaa (v:=int .i64 (i64w r3.2)) rfl rfl rfl (g_d rfl ?_)
       obtain ⟨g,H⟩:=ite_get H
       refine Qaa (v:=string (subS (⟨#[61,61,61,61,61,61,61,61,61,61,61,61,61,61,61,61,61,61,61,61,61,61,61,61,61,61,61,61,61,61,61,61,61,61,61,61,61,61,61,61,61,61,61,61,61,61,61,61,61,61,61,61,61,61,61,61,61,61,61,61,61,61,61,61,61,61,61,61,61,61,61,61,61,61,61,61,61,61,61,61,61,61,61,61,61,61,61,61,61,61,61,61,61,61,61,61,61,61,61,61,61,61,61,61,61,61,61,61,61,61,61,61,61,61,61,61,61,61,61,61,61,61,61,61,61,61,61,61]⟩:ByteArray) 0 (i64w r3.2))) rfl rfl (QaM rfl rfl rfl (.inl ⟨rfl,rfl⟩) (.inr ⟨_,_,rfl,rfl⟩) g.1 g.2.1 g.2.2) ?_
       refine g_d rfl ?_
       refine Qaa (v:=string (subS (⟨#[61,61,61,61,61,61,61,61,61,61,61,61,61,61,61,61,61,61,61,61,61,61,61,61,61,61,61,61,61,61,61,61,61,61,61,61,61,61,61,61,61,61,61,61,61,61,61,61,61,61,61,61,61,61,61,61,61,61,61,61,61,61,61,61,61,61,61,61,61,61,61,61,61,61,61,61,61,61,61,61,61,61,61,61,61,61,61,61,61,61,61,61,61,61,61,61,61,61,61,61,61,61,61,61,61,61,61,61,61,61,61,61,61,61,61,61,61,61,61,61,61,61,61,61,61,61,61,61]⟩:ByteArray) 0 (i64w r3.2))) rfl rfl rfl ?_
       refine g_d rfl ?_
       try dsimp only [Qae,Qaf]
       refine Qab ?_
       obtain rfl:=QsJ H
       refine Qau Tryd.func22 (v:=string (subS (⟨#[61,61,61,61,61,61,61,61,61,61,61,61,61,61,61,61,61,61,61,61,61,61,61,61,61,61,61,61,61,61,61,61,61,61,61,61,61,61,61,61,61,61,61,61,61,61,61,61,61,61,61,61,61,61,61,61,61,61,61,61,61,61,61,61,61,61,61,61,61,61,61,61,61,61,61,61,61,61,61,61,61,61,61,61,61,61,61,61,61,61,61,61,61,61,61,61,61,61,61,61,61,61,61,61,61,61,61,61,61,61,61,61,61,61,61,61,61,61,61,61,61,61,61,61,61,61,61,61]⟩:ByteArray) 0 (i64w r3.2))) (res1 rfl rfl) ?_
       have hs:St _ [] _:=St.take (Γ':=[]) hs
       exact ⟨_,rfl,rfl,hs⟩
      intro hb
      rw [if_neg (b_var_f hb)] at H
      refine g_d rfl ?_
      refine Qaa (v:=bool false) rfl rfl rfl (g_d rfl ?_)
      try dsimp only [Qae,Qaf]
      refine Qab (Qad rfl (Qac (Qaj [0,1,2,3,4,5,6] rfl ?_)))
      refine Qaa (v:=int .i64 (i64w r3.2)) rfl rfl rfl (g_d rfl ?_)
      refine Qas (B:=decide ((i64w r3.2)≤64)) rfl rfl rfl ?_ ?_
      ·
       intro hb
       rw [if_pos (b_dec_t hb)] at H
       refine g_d rfl ?_
       refine Qaa (v:=bool true) rfl rfl rfl (g_d rfl ?_)
       refine Qaa (v:=string a1) rfl rfl rfl (g_d rfl ?_)
       obtain ⟨r12,Hr12,H⟩:=bind_get H
       refine QaA (args:=[string (⟨#[9,9,9,9,9,9,9,9,9,9,9,9,9,9,9,9,9,9,9,9,9,9,9,9,9,9,9,9,9,9,9,9,9,9,9,9,9,9,9,9,9,9,9,9,9,9,9,9,9,9,9,9,9,9,9,9,9,9,9,9,9,9,9,9]⟩:ByteArray),string a1]) rfl rfl (Qax rfl (callFunc_enter Tryd.func47 rfl rfl) rfl) (Qam.calls (a1:=(⟨#[9,9,9,9,9,9,9,9,9,9,9,9,9,9,9,9,9,9,9,9,9,9,9,9,9,9,9,9,9,9,9,9,9,9,9,9,9,9,9,9,9,9,9,9,9,9,9,9,9,9,9,9,9,9,9,9,9,9,9,9,9,9,9,9]⟩:ByteArray)) (a2:=a1) Hr12) ?_
       rintro _ w ⟨rfl,hs2⟩
       have hs:St _ [] _:=hs.call hs2
       refine g_d rfl ?_
       try dsimp only [Qae,Qaf]
       refine Qas (B:=r12) rfl rfl rfl ?_ ?_
       ·
        intro hb
        rw [if_pos (b_var_t hb)] at H
        refine g_d rfl ?_
        refine Qaa (v:=bool true) rfl rfl rfl (g_d rfl ?_)
        try dsimp only [Qae,Qaf]
        refine Qab (Qak rfl (Qac (Qaj [0,1,2] rfl ?_)))
        refine Qaa (v:=int .i64 (i64w r3.2)) rfl rfl rfl (g_d rfl ?_)
        obtain ⟨g,H⟩:=ite_get H
        refine Qaa (v:=string (subS (⟨#[9,9,9,9,9,9,9,9,9,9,9,9,9,9,9,9,9,9,9,9,9,9,9,9,9,9,9,9,9,9,9,9,9,9,9,9,9,9,9,9,9,9,9,9,9,9,9,9,9,9,9,9,9,9,9,9,9,9,9,9,9,9,9,9]⟩:ByteArray) 0 (i64w r3.2))) rfl rfl (QaM rfl rfl rfl (.inl ⟨rfl,rfl⟩) (.inr ⟨_,_,rfl,rfl⟩) g.1 g.2.1 g.2.2) (g_d rfl ?_)
        refine Qaa (v:=string (subS (⟨#[9,9,9,9,9,9,9,9,9,9,9,9,9,9,9,9,9,9,9,9,9,9,9,9,9,9,9,9,9,9,9,9,9,9,9,9,9,9,9,9,9,9,9,9,9,9,9,9,9,9,9,9,9,9,9,9,9,9,9,9,9,9,9,9]⟩:ByteArray) 0 (i64w r3.2))) rfl rfl rfl (g_d rfl ?_)
        try dsimp only [Qae,Qaf]
        refine Qab ?_
        obtain rfl:=QsJ H
        refine Qau Tryd.func22 (v:=string (subS (⟨#[9,9,9,9,9,9,9,9,9,9,9,9,9,9,9,9,9,9,9,9,9,9,9,9,9,9,9,9,9,9,9,9,9,9,9,9,9,9,9,9,9,9,9,9,9,9,9,9,9,9,9,9,9,9,9,9,9,9,9,9,9,9,9,9]⟩:ByteArray) 0 (i64w r3.2))) (res1 rfl rfl) ?_
        have hs:St _ [] _:=St.take (Γ':=[]) hs
        exact ⟨_,rfl,rfl,hs⟩
       intro hb
       rw [if_neg (b_var_f hb)] at H
       refine g_d rfl ?_
       refine Qaa (v:=bool false) rfl rfl rfl (g_d rfl ?_)
       try dsimp only [Qae,Qaf]
       refine Qab (Qad rfl (Qaw ?_))
       refine QaD ?_
       have hs:St _ [] _:=St.take (Γ':=[]) hs
       exact ha _ _ ⟨H,rfl,hs⟩
      intro hb
      rw [if_neg (b_dec_f hb)] at H
      refine g_d rfl ?_
      refine Qaa (v:=bool false) rfl rfl rfl (g_d rfl (Qag rfl rfl (g_d rfl (Qag rfl rfl (g_d rfl ?_)))))
      try dsimp only [Qae,Qaf]
      refine Qaa (v:=bool false) rfl rfl rfl (g_d rfl ?_)
      refine Qaa (v:=bool false) rfl rfl rfl (g_d rfl ?_)
      try dsimp only [Qae,Qaf]
      refine Qab (Qad rfl (Qaw ?_))
      refine QaD ?_
      have hs:St _ [] _:=St.take (Γ':=[]) hs
      exact ha _ _ ⟨H,rfl,hs⟩
     intro hb
     rw [if_neg (b_dec_f hb)] at H
     refine g_d rfl ?_
     refine Qaa (v:=bool false) rfl rfl rfl (g_d rfl (Qag rfl rfl (g_d rfl (Qag rfl rfl (g_d rfl ?_)))))
     try dsimp only [Qae,Qaf]
     refine Qaa (v:=bool false) rfl rfl rfl (g_d rfl ?_)
     refine Qaa (v:=bool false) rfl rfl rfl (g_d rfl ?_)
     try dsimp only [Qae,Qaf]
     refine Qab (Qad rfl (Qac (Qaj [0,1,2,3,4,5,6] rfl ?_)))
     refine Qaa (v:=int .i64 (i64w r3.2)) rfl rfl rfl (g_d rfl ?_)
     refine Qas (B:=decide ((i64w r3.2)≤64)) rfl rfl rfl ?_ ?_
     ·
      intro hb
      rw [if_pos (b_dec_t hb)] at H
      refine g_d rfl ?_
      refine Qaa (v:=bool true) rfl rfl rfl (g_d rfl ?_)
      refine Qaa (v:=string a1) rfl rfl rfl (g_d rfl ?_)
      obtain ⟨r13,Hr13,H⟩:=bind_get H
      refine QaA (args:=[string (⟨#[9,9,9,9,9,9,9,9,9,9,9,9,9,9,9,9,9,9,9,9,9,9,9,9,9,9,9,9,9,9,9,9,9,9,9,9,9,9,9,9,9,9,9,9,9,9,9,9,9,9,9,9,9,9,9,9,9,9,9,9,9,9,9,9]⟩:ByteArray),string a1]) rfl rfl (Qax rfl (callFunc_enter Tryd.func47 rfl rfl) rfl) (Qam.calls (a1:=(⟨#[9,9,9,9,9,9,9,9,9,9,9,9,9,9,9,9,9,9,9,9,9,9,9,9,9,9,9,9,9,9,9,9,9,9,9,9,9,9,9,9,9,9,9,9,9,9,9,9,9,9,9,9,9,9,9,9,9,9,9,9,9,9,9,9]⟩:ByteArray)) (a2:=a1) Hr13) ?_
      rintro _ w ⟨rfl,hs2⟩
      have hs:St _ [] _:=hs.call hs2
      refine g_d rfl ?_
      try dsimp only [Qae,Qaf]
      refine Qas (B:=r13) rfl rfl rfl ?_ ?_
      ·
       intro hb
       rw [if_pos (b_var_t hb)] at H
       refine g_d rfl ?_
       refine Qaa (v:=bool true) rfl rfl rfl (g_d rfl ?_)
       try dsimp only [Qae,Qaf]
       refine Qab (Qak rfl (Qac (Qaj [0,1,2] rfl ?_)))
       refine Qaa (v:=int .i64 (i64w r3.2)) rfl rfl rfl (g_d rfl ?_)
       obtain ⟨g,H⟩:=ite_get H
       refine Qaa (v:=string (subS (⟨#[9,9,9,9,9,9,9,9,9,9,9,9,9,9,9,9,9,9,9,9,9,9,9,9,9,9,9,9,9,9,9,9,9,9,9,9,9,9,9,9,9,9,9,9,9,9,9,9,9,9,9,9,9,9,9,9,9,9,9,9,9,9,9,9]⟩:ByteArray) 0 (i64w r3.2))) rfl rfl (QaM rfl rfl rfl (.inl ⟨rfl,rfl⟩) (.inr ⟨_,_,rfl,rfl⟩) g.1 g.2.1 g.2.2) (g_d rfl ?_)
       refine Qaa (v:=string (subS (⟨#[9,9,9,9,9,9,9,9,9,9,9,9,9,9,9,9,9,9,9,9,9,9,9,9,9,9,9,9,9,9,9,9,9,9,9,9,9,9,9,9,9,9,9,9,9,9,9,9,9,9,9,9,9,9,9,9,9,9,9,9,9,9,9,9]⟩:ByteArray) 0 (i64w r3.2))) rfl rfl rfl (g_d rfl ?_)
       try dsimp only [Qae,Qaf]
       refine Qab ?_
       obtain rfl:=QsJ H
       refine Qau Tryd.func22 (v:=string (subS (⟨#[9,9,9,9,9,9,9,9,9,9,9,9,9,9,9,9,9,9,9,9,9,9,9,9,9,9,9,9,9,9,9,9,9,9,9,9,9,9,9,9,9,9,9,9,9,9,9,9,9,9,9,9,9,9,9,9,9,9,9,9,9,9,9,9]⟩:ByteArray) 0 (i64w r3.2))) (res1 rfl rfl) ?_
       have hs:St _ [] _:=St.take (Γ':=[]) hs
       exact ⟨_,rfl,rfl,hs⟩
      intro hb
      rw [if_neg (b_var_f hb)] at H
      refine g_d rfl ?_
      refine Qaa (v:=bool false) rfl rfl rfl (g_d rfl ?_)
      try dsimp only [Qae,Qaf]
      refine Qab (Qad rfl (Qaw ?_))
      refine QaD ?_
      have hs:St _ [] _:=St.take (Γ':=[]) hs
      exact ha _ _ ⟨H,rfl,hs⟩
     intro hb
     rw [if_neg (b_dec_f hb)] at H
     refine g_d rfl ?_
     refine Qaa (v:=bool false) rfl rfl rfl (g_d rfl (Qag rfl rfl (g_d rfl (Qag rfl rfl (g_d rfl ?_)))))
     try dsimp only [Qae,Qaf]
     refine Qaa (v:=bool false) rfl rfl rfl (g_d rfl ?_)
     refine Qaa (v:=bool false) rfl rfl rfl (g_d rfl ?_)
     try dsimp only [Qae,Qaf]
     refine Qab (Qad rfl (Qaw ?_))
     refine QaD ?_
     have hs:St _ [] _:=St.take (Γ':=[]) hs
     exact ha _ _ ⟨H,rfl,hs⟩
    intro hb
    rw [if_neg (b_dec_f hb)] at H
    refine g_d rfl ?_
    refine Qaa (v:=bool false) rfl rfl rfl (g_d rfl (Qag rfl rfl (g_d rfl (Qag rfl rfl (g_d rfl ?_)))))
    try dsimp only [Qae,Qaf]
    refine Qaa (v:=bool false) rfl rfl rfl (g_d rfl ?_)
    refine Qaa (v:=bool false) rfl rfl rfl (g_d rfl ?_)
    try dsimp only [Qae,Qaf]
    refine Qab (Qad rfl (Qac (Qaj [0,1,2,3,4,5,6] rfl ?_)))
    refine Qaa (v:=int .i64 (i64w r3.2)) rfl rfl rfl (g_d rfl ?_)
    refine Qas (B:=decide ((i64w r3.2)≤64)) rfl rfl rfl ?_ ?_
    · as_aux_lemma =>
     intro hb
     rw [if_pos (b_dec_t hb)] at H
     refine g_d rfl ?_
     refine Qaa (v:=bool true) rfl rfl rfl (g_d rfl ?_)
     refine Qaa (v:=string a1) rfl rfl rfl (g_d rfl ?_)
     obtain ⟨r14,Hr14,H⟩:=bind_get H
     refine QaA (args:=[string (⟨#[48,48,48,48,48,48,48,48,48,48,48,48,48,48,48,48,48,48,48,48,48,48,48,48,48,48,48,48,48,48,48,48,48,48,48,48,48,48,48,48,48,48,48,48,48,48,48,48,48,48,48,48,48,48,48,48,48,48,48,48,48,48,48,48]⟩:ByteArray),string a1]) rfl rfl (Qax rfl (callFunc_enter Tryd.func47 rfl rfl) rfl) (Qam.calls (a1:=(⟨#[48,48,48,48,48,48,48,48,48,48,48,48,48,48,48,48,48,48,48,48,48,48,48,48,48,48,48,48,48,48,48,48,48,48,48,48,48,48,48,48,48,48,48,48,48,48,48,48,48,48,48,48,48,48,48,48,48,48,48,48,48,48,48,48]⟩:ByteArray)) (a2:=a1) Hr14) ?_
     rintro _ w ⟨rfl,hs2⟩
     have hs:St _ [] _:=hs.call hs2
     refine g_d rfl ?_
     try dsimp only [Qae,Qaf]
     refine Qas (B:=r14) rfl rfl rfl ?_ ?_
     ·
      intro hb
      rw [if_pos (b_var_t hb)] at H
      refine g_d rfl ?_
      refine Qaa (v:=bool true) rfl rfl rfl (g_d rfl ?_)
      try dsimp only [Qae,Qaf]
      refine Qab (Qak rfl (Qac (Qaj [0,1,2] rfl ?_)))
      refine Qaa (v:=int .i64 (i64w r3.2)) rfl rfl rfl (g_d rfl ?_)
      obtain ⟨g,H⟩:=ite_get H
      refine Qaa (v:=string (subS (⟨#[48,48,48,48,48,48,48,48,48,48,48,48,48,48,48,48,48,48,48,48,48,48,48,48,48,48,48,48,48,48,48,48,48,48,48,48,48,48,48,48,48,48,48,48,48,48,48,48,48,48,48,48,48,48,48,48,48,48,48,48,48,48,48,48]⟩:ByteArray) 0 (i64w r3.2))) rfl rfl (QaM rfl rfl rfl (.inl ⟨rfl,rfl⟩) (.inr ⟨_,_,rfl,rfl⟩) g.1 g.2.1 g.2.2) ?_
      refine g_d rfl ?_
      refine Qaa (v:=string (subS (⟨#[48,48,48,48,48,48,48,48,48,48,48,48,48,48,48,48,48,48,48,48,48,48,48,48,48,48,48,48,48,48,48,48,48,48,48,48,48,48,48,48,48,48,48,48,48,48,48,48,48,48,48,48,48,48,48,48,48,48,48,48,48,48,48,48]⟩:ByteArray) 0 (i64w r3.2))) rfl rfl rfl (g_d rfl ?_)
      try dsimp only [Qae,Qaf]
      refine Qab ?_
      obtain rfl:=QsJ H
      refine Qau Tryd.func22 (v:=string (subS (⟨#[48,48,48,48,48,48,48,48,48,48,48,48,48,48,48,48,48,48,48,48,48,48,48,48,48,48,48,48,48,48,48,48,48,48,48,48,48,48,48,48,48,48,48,48,48,48,48,48,48,48,48,48,48,48,48,48,48,48,48,48,48,48,48,48]⟩:ByteArray) 0 (i64w r3.2))) (res1 rfl rfl) ?_
      have hs:St _ [] _:=St.take (Γ':=[]) hs
      exact ⟨_,rfl,rfl,hs⟩
     intro hb
     rw [if_neg (b_var_f hb)] at H
     refine g_d rfl ?_
     refine Qaa (v:=bool false) rfl rfl rfl (g_d rfl ?_)
     try dsimp only [Qae,Qaf]
     refine Qab (Qad rfl (Qac (Qaj [0,1,2,3,4,5,6] rfl ?_)))
     refine Qaa (v:=int .i64 (i64w r3.2)) rfl rfl rfl (g_d rfl ?_)
     refine Qas (B:=decide ((i64w r3.2)≤128)) rfl rfl rfl ?_ ?_
     ·
      intro hb
      rw [if_pos (b_dec_t hb)] at H
      refine g_d rfl ?_
      refine Qaa (v:=bool true) rfl rfl rfl (g_d rfl ?_)
      refine Qaa (v:=string a1) rfl rfl rfl (g_d rfl ?_)
      obtain ⟨r15,Hr15,H⟩:=bind_get H
      refine QaA (args:=[string (⟨#[61,61,61,61,61,61,61,61,61,61,61,61,61,61,61,61,61,61,61,61,61,61,61,61,61,61,61,61,61,61,61,61,61,61,61,61,61,61,61,61,61,61,61,61,61,61,61,61,61,61,61,61,61,61,61,61,61,61,61,61,61,61,61,61,61,61,61,61,61,61,61,61,61,61,61,61,61,61,61,61,61,61,61,61,61,61,61,61,61,61,61,61,61,61,61,61,61,61,61,61,61,61,61,61,61,61,61,61,61,61,61,61,61,61,61,61,61,61,61,61,61,61,61,61,61,61,61,61]⟩:ByteArray),string a1]) rfl rfl (Qax rfl (callFunc_enter Tryd.func47 rfl rfl) rfl) (Qam.calls (a1:=(⟨#[61,61,61,61,61,61,61,61,61,61,61,61,61,61,61,61,61,61,61,61,61,61,61,61,61,61,61,61,61,61,61,61,61,61,61,61,61,61,61,61,61,61,61,61,61,61,61,61,61,61,61,61,61,61,61,61,61,61,61,61,61,61,61,61,61,61,61,61,61,61,61,61,61,61,61,61,61,61,61,61,61,61,61,61,61,61,61,61,61,61,61,61,61,61,61,61,61,61,61,61,61,61,61,61,61,61,61,61,61,61,61,61,61,61,61,61,61,61,61,61,61,61,61,61,61,61,61,61]⟩:ByteArray)) (a2:=a1) Hr15) ?_
      rintro _ w ⟨rfl,hs2⟩
      have hs:St _ [] _:=hs.call hs2
      refine g_d rfl ?_
      try dsimp only [Qae,Qaf]
      refine Qas (B:=r15) rfl rfl rfl ?_ ?_
      ·
       intro hb
       rw [if_pos (b_var_t hb)] at H
       refine g_d rfl ?_
       refine Qaa (v:=bool true) rfl rfl rfl (g_d rfl ?_)
       try dsimp only [Qae,Qaf]
       refine Qab (Qak rfl (Qac (Qaj [0,1,2] rfl ?_)))
       refine Qaa (v:=int .i64 (i64w r3.2)) rfl rfl rfl (g_d rfl ?_)
       obtain ⟨g,H⟩:=ite_get H
       refine Qaa (v:=string (subS (⟨#[61,61,61,61,61,61,61,61,61,61,61,61,61,61,61,61,61,61,61,61,61,61,61,61,61,61,61,61,61,61,61,61,61,61,61,61,61,61,61,61,61,61,61,61,61,61,61,61,61,61,61,61,61,61,61,61,61,61,61,61,61,61,61,61,61,61,61,61,61,61,61,61,61,61,61,61,61,61,61,61,61,61,61,61,61,61,61,61,61,61,61,61,61,61,61,61,61,61,61,61,61,61,61,61,61,61,61,61,61,61,61,61,61,61,61,61,61,61,61,61,61,61,61,61,61,61,61,61]⟩:ByteArray) 0 (i64w r3.2))) rfl rfl (QaM rfl rfl rfl (.inl ⟨rfl,rfl⟩) (.inr ⟨_,_,rfl,rfl⟩) g.1 g.2.1 g.2.2) ?_
       refine g_d rfl ?_
       refine Qaa (v:=string (subS (⟨#[61,61,61,61,61,61,61,61,61,61,61,61,61,61,61,61,61,61,61,61,61,61,61,61,61,61,61,61,61,61,61,61,61,61,61,61,61,61,61,61,61,61,61,61,61,61,61,61,61,61,61,61,61,61,61,61,61,61,61,61,61,61,61,61,61,61,61,61,61,61,61,61,61,61,61,61,61,61,61,61,61,61,61,61,61,61,61,61,61,61,61,61,61,61,61,61,61,61,61,61,61,61,61,61,61,61,61,61,61,61,61,61,61,61,61,61,61,61,61,61,61,61,61,61,61,61,61,61]⟩:ByteArray) 0 (i64w r3.2))) rfl rfl rfl ?_
       refine g_d rfl ?_
       try dsimp only [Qae,Qaf]
       refine Qab ?_
       obtain rfl:=QsJ H
       refine Qau Tryd.func22 (v:=string (subS (⟨#[61,61,61,61,61,61,61,61,61,61,61,61,61,61,61,61,61,61,61,61,61,61,61,61,61,61,61,61,61,61,61,61,61,61,61,61,61,61,61,61,61,61,61,61,61,61,61,61,61,61,61,61,61,61,61,61,61,61,61,61,61,61,61,61,61,61,61,61,61,61,61,61,61,61,61,61,61,61,61,61,61,61,61,61,61,61,61,61,61,61,61,61,61,61,61,61,61,61,61,61,61,61,61,61,61,61,61,61,61,61,61,61,61,61,61,61,61,61,61,61,61,61,61,61,61,61,61,61]⟩:ByteArray) 0 (i64w r3.2))) (res1 rfl rfl) ?_
       have hs:St _ [] _:=St.take (Γ':=[]) hs
       exact ⟨_,rfl,rfl,hs⟩
      intro hb
      rw [if_neg (b_var_f hb)] at H
      refine g_d rfl ?_
      refine Qaa (v:=bool false) rfl rfl rfl (g_d rfl ?_)
      try dsimp only [Qae,Qaf]
      refine Qab (Qad rfl (Qac (Qaj [0,1,2,3,4,5,6] rfl ?_)))
      refine Qaa (v:=int .i64 (i64w r3.2)) rfl rfl rfl (g_d rfl ?_)
      refine Qas (B:=decide ((i64w r3.2)≤64)) rfl rfl rfl ?_ ?_
      ·
       intro hb
       rw [if_pos (b_dec_t hb)] at H
       refine g_d rfl ?_
       refine Qaa (v:=bool true) rfl rfl rfl (g_d rfl ?_)
       refine Qaa (v:=string a1) rfl rfl rfl (g_d rfl ?_)
       obtain ⟨r16,Hr16,H⟩:=bind_get H
       refine QaA (args:=[string (⟨#[9,9,9,9,9,9,9,9,9,9,9,9,9,9,9,9,9,9,9,9,9,9,9,9,9,9,9,9,9,9,9,9,9,9,9,9,9,9,9,9,9,9,9,9,9,9,9,9,9,9,9,9,9,9,9,9,9,9,9,9,9,9,9,9]⟩:ByteArray),string a1]) rfl rfl (Qax rfl (callFunc_enter Tryd.func47 rfl rfl) rfl) (Qam.calls (a1:=(⟨#[9,9,9,9,9,9,9,9,9,9,9,9,9,9,9,9,9,9,9,9,9,9,9,9,9,9,9,9,9,9,9,9,9,9,9,9,9,9,9,9,9,9,9,9,9,9,9,9,9,9,9,9,9,9,9,9,9,9,9,9,9,9,9,9]⟩:ByteArray)) (a2:=a1) Hr16) ?_
       rintro _ w ⟨rfl,hs2⟩
       have hs:St _ [] _:=hs.call hs2
       refine g_d rfl ?_
       try dsimp only [Qae,Qaf]
       refine Qas (B:=r16) rfl rfl rfl ?_ ?_
       ·
        intro hb
        rw [if_pos (b_var_t hb)] at H
        refine g_d rfl ?_
        refine Qaa (v:=bool true) rfl rfl rfl (g_d rfl ?_)
        try dsimp only [Qae,Qaf]
        refine Qab (Qak rfl (Qac (Qaj [0,1,2] rfl ?_)))
        refine Qaa (v:=int .i64 (i64w r3.2)) rfl rfl rfl (g_d rfl ?_)
        obtain ⟨g,H⟩:=ite_get H
        refine Qaa (v:=string (subS (⟨#[9,9,9,9,9,9,9,9,9,9,9,9,9,9,9,9,9,9,9,9,9,9,9,9,9,9,9,9,9,9,9,9,9,9,9,9,9,9,9,9,9,9,9,9,9,9,9,9,9,9,9,9,9,9,9,9,9,9,9,9,9,9,9,9]⟩:ByteArray) 0 (i64w r3.2))) rfl rfl (QaM rfl rfl rfl (.inl ⟨rfl,rfl⟩) (.inr ⟨_,_,rfl,rfl⟩) g.1 g.2.1 g.2.2) (g_d rfl ?_)
        refine Qaa (v:=string (subS (⟨#[9,9,9,9,9,9,9,9,9,9,9,9,9,9,9,9,9,9,9,9,9,9,9,9,9,9,9,9,9,9,9,9,9,9,9,9,9,9,9,9,9,9,9,9,9,9,9,9,9,9,9,9,9,9,9,9,9,9,9,9,9,9,9,9]⟩:ByteArray) 0 (i64w r3.2))) rfl rfl rfl (g_d rfl ?_)
        try dsimp only [Qae,Qaf]
        refine Qab ?_
        obtain rfl:=QsJ H
        refine Qau Tryd.func22 (v:=string (subS (⟨#[9,9,9,9,9,9,9,9,9,9,9,9,9,9,9,9,9,9,9,9,9,9,9,9,9,9,9,9,9,9,9,9,9,9,9,9,9,9,9,9,9,9,9,9,9,9,9,9,9,9,9,9,9,9,9,9,9,9,9,9,9,9,9,9]⟩:ByteArray) 0 (i64w r3.2))) (res1 rfl rfl) ?_
        have hs:St _ [] _:=St.take (Γ':=[]) hs
        exact ⟨_,rfl,rfl,hs⟩
       intro hb
       rw [if_neg (b_var_f hb)] at H
       refine g_d rfl ?_
       refine Qaa (v:=bool false) rfl rfl rfl (g_d rfl ?_)
       try dsimp only [Qae,Qaf]
       refine Qab (Qad rfl (Qaw ?_))
       refine QaD ?_
       have hs:St _ [] _:=St.take (Γ':=[]) hs
       exact ha _ _ ⟨H,rfl,hs⟩
      intro hb
      rw [if_neg (b_dec_f hb)] at H
      refine g_d rfl ?_
      refine Qaa (v:=bool false) rfl rfl rfl (g_d rfl (Qag rfl rfl (g_d rfl (Qag rfl rfl (g_d rfl ?_)))))
      try dsimp only [Qae,Qaf]
      refine Qaa (v:=bool false) rfl rfl rfl (g_d rfl ?_)
      refine Qaa (v:=bool false) rfl rfl rfl (g_d rfl ?_)
      try dsimp only [Qae,Qaf]
      refine Qab (Qad rfl (Qaw ?_))
      refine QaD ?_
      have hs:St _ [] _:=St.take (Γ':=[]) hs
      exact ha _ _ ⟨H,rfl,hs⟩
     intro hb
     rw [if_neg (b_dec_f hb)] at H
     refine g_d rfl ?_
     refine Qaa (v:=bool false) rfl rfl rfl (g_d rfl (Qag rfl rfl (g_d rfl (Qag rfl rfl (g_d rfl ?_)))))
     try dsimp only [Qae,Qaf]
     refine Qaa (v:=bool false) rfl rfl rfl (g_d rfl ?_)
     refine Qaa (v:=bool false) rfl rfl rfl (g_d rfl ?_)
     try dsimp only [Qae,Qaf]
     refine Qab (Qad rfl (Qac (Qaj [0,1,2,3,4,5,6] rfl ?_)))
     refine Qaa (v:=int .i64 (i64w r3.2)) rfl rfl rfl (g_d rfl ?_)
     refine Qas (B:=decide ((i64w r3.2)≤64)) rfl rfl rfl ?_ ?_
     ·
      intro hb
      rw [if_pos (b_dec_t hb)] at H
      refine g_d rfl ?_
      refine Qaa (v:=bool true) rfl rfl rfl (g_d rfl ?_)
      refine Qaa (v:=string a1) rfl rfl rfl (g_d rfl ?_)
      obtain ⟨r17,Hr17,H⟩:=bind_get H
      refine QaA (args:=[string (⟨#[9,9,9,9,9,9,9,9,9,9,9,9,9,9,9,9,9,9,9,9,9,9,9,9,9,9,9,9,9,9,9,9,9,9,9,9,9,9,9,9,9,9,9,9,9,9,9,9,9,9,9,9,9,9,9,9,9,9,9,9,9,9,9,9]⟩:ByteArray),string a1]) rfl rfl (Qax rfl (callFunc_enter Tryd.func47 rfl rfl) rfl) (Qam.calls (a1:=(⟨#[9,9,9,9,9,9,9,9,9,9,9,9,9,9,9,9,9,9,9,9,9,9,9,9,9,9,9,9,9,9,9,9,9,9,9,9,9,9,9,9,9,9,9,9,9,9,9,9,9,9,9,9,9,9,9,9,9,9,9,9,9,9,9,9]⟩:ByteArray)) (a2:=a1) Hr17) ?_
      rintro _ w ⟨rfl,hs2⟩
      have hs:St _ [] _:=hs.call hs2
      refine g_d rfl ?_
      try dsimp only [Qae,Qaf]
      refine Qas (B:=r17) rfl rfl rfl ?_ ?_
      ·
       intro hb
       rw [if_pos (b_var_t hb)] at H
       refine g_d rfl ?_
       refine Qaa (v:=bool true) rfl rfl rfl (g_d rfl ?_)
       try dsimp only [Qae,Qaf]
       refine Qab (Qak rfl (Qac (Qaj [0,1,2] rfl ?_)))
       refine Qaa (v:=int .i64 (i64w r3.2)) rfl rfl rfl (g_d rfl ?_)
       obtain ⟨g,H⟩:=ite_get H
       refine Qaa (v:=string (subS (⟨#[9,9,9,9,9,9,9,9,9,9,9,9,9,9,9,9,9,9,9,9,9,9,9,9,9,9,9,9,9,9,9,9,9,9,9,9,9,9,9,9,9,9,9,9,9,9,9,9,9,9,9,9,9,9,9,9,9,9,9,9,9,9,9,9]⟩:ByteArray) 0 (i64w r3.2))) rfl rfl (QaM rfl rfl rfl (.inl ⟨rfl,rfl⟩) (.inr ⟨_,_,rfl,rfl⟩) g.1 g.2.1 g.2.2) (g_d rfl ?_)
       refine Qaa (v:=string (subS (⟨#[9,9,9,9,9,9,9,9,9,9,9,9,9,9,9,9,9,9,9,9,9,9,9,9,9,9,9,9,9,9,9,9,9,9,9,9,9,9,9,9,9,9,9,9,9,9,9,9,9,9,9,9,9,9,9,9,9,9,9,9,9,9,9,9]⟩:ByteArray) 0 (i64w r3.2))) rfl rfl rfl (g_d rfl ?_)
       try dsimp only [Qae,Qaf]
       refine Qab ?_
       obtain rfl:=QsJ H
       refine Qau Tryd.func22 (v:=string (subS (⟨#[9,9,9,9,9,9,9,9,9,9,9,9,9,9,9,9,9,9,9,9,9,9,9,9,9,9,9,9,9,9,9,9,9,9,9,9,9,9,9,9,9,9,9,9,9,9,9,9,9,9,9,9,9,9,9,9,9,9,9,9,9,9,9,9]⟩:ByteArray) 0 (i64w r3.2))) (res1 rfl rfl) ?_
       have hs:St _ [] _:=St.take (Γ':=[]) hs
       exact ⟨_,rfl,rfl,hs⟩
      intro hb
      rw [if_neg (b_var_f hb)] at H
      refine g_d rfl ?_
      refine Qaa (v:=bool false) rfl rfl rfl (g_d rfl ?_)
      try dsimp only [Qae,Qaf]
      refine Qab (Qad rfl (Qaw ?_))
      refine QaD ?_
      have hs:St _ [] _:=St.take (Γ':=[]) hs
      exact ha _ _ ⟨H,rfl,hs⟩
     intro hb
     rw [if_neg (b_dec_f hb)] at H
     refine g_d rfl ?_
     refine Qaa (v:=bool false) rfl rfl rfl (g_d rfl (Qag rfl rfl (g_d rfl (Qag rfl rfl (g_d rfl ?_)))))
     try dsimp only [Qae,Qaf]
     refine Qaa (v:=bool false) rfl rfl rfl (g_d rfl ?_)
     refine Qaa (v:=bool false) rfl rfl rfl (g_d rfl ?_)
     try dsimp only [Qae,Qaf]
     refine Qab (Qad rfl (Qaw ?_))
     refine QaD ?_
     have hs:St _ [] _:=St.take (Γ':=[]) hs
     exact ha _ _ ⟨H,rfl,hs⟩
    intro hb
    rw [if_neg (b_dec_f hb)] at H
    refine g_d rfl ?_
    refine Qaa (v:=bool false) rfl rfl rfl (g_d rfl (Qag rfl rfl (g_d rfl (Qag rfl rfl (g_d rfl ?_)))))
    try dsimp only [Qae,Qaf]
    refine Qaa (v:=bool false) rfl rfl rfl (g_d rfl ?_)
    refine Qaa (v:=bool false) rfl rfl rfl (g_d rfl ?_)
    try dsimp only [Qae,Qaf]
    refine Qab (Qad rfl (Qac (Qaj [0,1,2,3,4,5,6] rfl ?_)))
    refine Qaa (v:=int .i64 (i64w r3.2)) rfl rfl rfl (g_d rfl ?_)
    refine Qas (B:=decide ((i64w r3.2)≤128)) rfl rfl rfl ?_ ?_
    ·
     intro hb
     rw [if_pos (b_dec_t hb)] at H
     refine g_d rfl ?_
     refine Qaa (v:=bool true) rfl rfl rfl (g_d rfl ?_)
     refine Qaa (v:=string a1) rfl rfl rfl (g_d rfl ?_)
     obtain ⟨r18,Hr18,H⟩:=bind_get H
     refine QaA (args:=[string (⟨#[61,61,61,61,61,61,61,61,61,61,61,61,61,61,61,61,61,61,61,61,61,61,61,61,61,61,61,61,61,61,61,61,61,61,61,61,61,61,61,61,61,61,61,61,61,61,61,61,61,61,61,61,61,61,61,61,61,61,61,61,61,61,61,61,61,61,61,61,61,61,61,61,61,61,61,61,61,61,61,61,61,61,61,61,61,61,61,61,61,61,61,61,61,61,61,61,61,61,61,61,61,61,61,61,61,61,61,61,61,61,61,61,61,61,61,61,61,61,61,61,61,61,61,61,61,61,61,61]⟩:ByteArray),string a1]) rfl rfl (Qax rfl (callFunc_enter Tryd.func47 rfl rfl) rfl) (Qam.calls (a1:=(⟨#[61,61,61,61,61,61,61,61,61,61,61,61,61,61,61,61,61,61,61,61,61,61,61,61,61,61,61,61,61,61,61,61,61,61,61,61,61,61,61,61,61,61,61,61,61,61,61,61,61,61,61,61,61,61,61,61,61,61,61,61,61,61,61,61,61,61,61,61,61,61,61,61,61,61,61,61,61,61,61,61,61,61,61,61,61,61,61,61,61,61,61,61,61,61,61,61,61,61,61,61,61,61,61,61,61,61,61,61,61,61,61,61,61,61,61,61,61,61,61,61,61,61,61,61,61,61,61,61]⟩:ByteArray)) (a2:=a1) Hr18) ?_
     rintro _ w ⟨rfl,hs2⟩
     have hs:St _ [] _:=hs.call hs2
     refine g_d rfl ?_
     try dsimp only [Qae,Qaf]
     refine Qas (B:=r18) rfl rfl rfl ?_ ?_
     ·
      intro hb
      rw [if_pos (b_var_t hb)] at H
      refine g_d rfl ?_
      refine Qaa (v:=bool true) rfl rfl rfl (g_d rfl ?_)
      try dsimp only [Qae,Qaf]
      refine Qab (Qak rfl (Qac (Qaj [0,1,2] rfl ?_)))
      refine Qaa (v:=int .i64 (i64w r3.2)) rfl rfl rfl (g_d rfl ?_)
      obtain ⟨g,H⟩:=ite_get H
      refine Qaa (v:=string (subS (⟨#[61,61,61,61,61,61,61,61,61,61,61,61,61,61,61,61,61,61,61,61,61,61,61,61,61,61,61,61,61,61,61,61,61,61,61,61,61,61,61,61,61,61,61,61,61,61,61,61,61,61,61,61,61,61,61,61,61,61,61,61,61,61,61,61,61,61,61,61,61,61,61,61,61,61,61,61,61,61,61,61,61,61,61,61,61,61,61,61,61,61,61,61,61,61,61,61,61,61,61,61,61,61,61,61,61,61,61,61,61,61,61,61,61,61,61,61,61,61,61,61,61,61,61,61,61,61,61,61]⟩:ByteArray) 0 (i64w r3.2))) rfl rfl (QaM rfl rfl rfl (.inl ⟨rfl,rfl⟩) (.inr ⟨_,_,rfl,rfl⟩) g.1 g.2.1 g.2.2) ?_
      refine g_d rfl ?_
      refine Qaa (v:=string (subS (⟨#[61,61,61,61,61,61,61,61,61,61,61,61,61,61,61,61,61,61,61,61,61,61,61,61,61,61,61,61,61,61,61,61,61,61,61,61,61,61,61,61,61,61,61,61,61,61,61,61,61,61,61,61,61,61,61,61,61,61,61,61,61,61,61,61,61,61,61,61,61,61,61,61,61,61,61,61,61,61,61,61,61,61,61,61,61,61,61,61,61,61,61,61,61,61,61,61,61,61,61,61,61,61,61,61,61,61,61,61,61,61,61,61,61,61,61,61,61,61,61,61,61,61,61,61,61,61,61,61]⟩:ByteArray) 0 (i64w r3.2))) rfl rfl rfl ?_
      refine g_d rfl ?_
      try dsimp only [Qae,Qaf]
      refine Qab ?_
      obtain rfl:=QsJ H
      refine Qau Tryd.func22 (v:=string (subS (⟨#[61,61,61,61,61,61,61,61,61,61,61,61,61,61,61,61,61,61,61,61,61,61,61,61,61,61,61,61,61,61,61,61,61,61,61,61,61,61,61,61,61,61,61,61,61,61,61,61,61,61,61,61,61,61,61,61,61,61,61,61,61,61,61,61,61,61,61,61,61,61,61,61,61,61,61,61,61,61,61,61,61,61,61,61,61,61,61,61,61,61,61,61,61,61,61,61,61,61,61,61,61,61,61,61,61,61,61,61,61,61,61,61,61,61,61,61,61,61,61,61,61,61,61,61,61,61,61,61]⟩:ByteArray) 0 (i64w r3.2))) (res1 rfl rfl) ?_
      have hs:St _ [] _:=St.take (Γ':=[]) hs
      exact ⟨_,rfl,rfl,hs⟩
     intro hb
     rw [if_neg (b_var_f hb)] at H
     refine g_d rfl ?_
     refine Qaa (v:=bool false) rfl rfl rfl (g_d rfl ?_)
     try dsimp only [Qae,Qaf]
     refine Qab (Qad rfl (Qac (Qaj [0,1,2,3,4,5,6] rfl ?_)))
     refine Qaa (v:=int .i64 (i64w r3.2)) rfl rfl rfl (g_d rfl ?_)
     refine Qas (B:=decide ((i64w r3.2)≤64)) rfl rfl rfl ?_ ?_
     ·
      intro hb
      rw [if_pos (b_dec_t hb)] at H
      refine g_d rfl ?_
      refine Qaa (v:=bool true) rfl rfl rfl (g_d rfl ?_)
      refine Qaa (v:=string a1) rfl rfl rfl (g_d rfl ?_)
      obtain ⟨r19,Hr19,H⟩:=bind_get H
      refine QaA (args:=[string (⟨#[9,9,9,9,9,9,9,9,9,9,9,9,9,9,9,9,9,9,9,9,9,9,9,9,9,9,9,9,9,9,9,9,9,9,9,9,9,9,9,9,9,9,9,9,9,9,9,9,9,9,9,9,9,9,9,9,9,9,9,9,9,9,9,9]⟩:ByteArray),string a1]) rfl rfl (Qax rfl (callFunc_enter Tryd.func47 rfl rfl) rfl) (Qam.calls (a1:=(⟨#[9,9,9,9,9,9,9,9,9,9,9,9,9,9,9,9,9,9,9,9,9,9,9,9,9,9,9,9,9,9,9,9,9,9,9,9,9,9,9,9,9,9,9,9,9,9,9,9,9,9,9,9,9,9,9,9,9,9,9,9,9,9,9,9]⟩:ByteArray)) (a2:=a1) Hr19) ?_
      rintro _ w ⟨rfl,hs2⟩
      have hs:St _ [] _:=hs.call hs2
      refine g_d rfl ?_
      try dsimp only [Qae,Qaf]
      refine Qas (B:=r19) rfl rfl rfl ?_ ?_
      ·
       intro hb
       rw [if_pos (b_var_t hb)] at H
       refine g_d rfl ?_
       refine Qaa (v:=bool true) rfl rfl rfl (g_d rfl ?_)
       try dsimp only [Qae,Qaf]
       refine Qab (Qak rfl (Qac (Qaj [0,1,2] rfl ?_)))
       refine Qaa (v:=int .i64 (i64w r3.2)) rfl rfl rfl (g_d rfl ?_)
       obtain ⟨g,H⟩:=ite_get H
       refine Qaa (v:=string (subS (⟨#[9,9,9,9,9,9,9,9,9,9,9,9,9,9,9,9,9,9,9,9,9,9,9,9,9,9,9,9,9,9,9,9,9,9,9,9,9,9,9,9,9,9,9,9,9,9,9,9,9,9,9,9,9,9,9,9,9,9,9,9,9,9,9,9]⟩:ByteArray) 0 (i64w r3.2))) rfl rfl (QaM rfl rfl rfl (.inl ⟨rfl,rfl⟩) (.inr ⟨_,_,rfl,rfl⟩) g.1 g.2.1 g.2.2) (g_d rfl ?_)
       refine Qaa (v:=string (subS (⟨#[9,9,9,9,9,9,9,9,9,9,9,9,9,9,9,9,9,9,9,9,9,9,9,9,9,9,9,9,9,9,9,9,9,9,9,9,9,9,9,9,9,9,9,9,9,9,9,9,9,9,9,9,9,9,9,9,9,9,9,9,9,9,9,9]⟩:ByteArray) 0 (i64w r3.2))) rfl rfl rfl (g_d rfl ?_)
       try dsimp only [Qae,Qaf]
       refine Qab ?_
       obtain rfl:=QsJ H
       refine Qau Tryd.func22 (v:=string (subS (⟨#[9,9,9,9,9,9,9,9,9,9,9,9,9,9,9,9,9,9,9,9,9,9,9,9,9,9,9,9,9,9,9,9,9,9,9,9,9,9,9,9,9,9,9,9,9,9,9,9,9,9,9,9,9,9,9,9,9,9,9,9,9,9,9,9]⟩:ByteArray) 0 (i64w r3.2))) (res1 rfl rfl) ?_
       have hs:St _ [] _:=St.take (Γ':=[]) hs
       exact ⟨_,rfl,rfl,hs⟩
      intro hb
      rw [if_neg (b_var_f hb)] at H
      refine g_d rfl ?_
      refine Qaa (v:=bool false) rfl rfl rfl (g_d rfl ?_)
      try dsimp only [Qae,Qaf]
      refine Qab (Qad rfl (Qaw ?_))
      refine QaD ?_
      have hs:St _ [] _:=St.take (Γ':=[]) hs
      exact ha _ _ ⟨H,rfl,hs⟩
     intro hb
     rw [if_neg (b_dec_f hb)] at H
     refine g_d rfl ?_
     refine Qaa (v:=bool false) rfl rfl rfl (g_d rfl (Qag rfl rfl (g_d rfl (Qag rfl rfl (g_d rfl ?_)))))
     try dsimp only [Qae,Qaf]
     refine Qaa (v:=bool false) rfl rfl rfl (g_d rfl ?_)
     refine Qaa (v:=bool false) rfl rfl rfl (g_d rfl ?_)
     try dsimp only [Qae,Qaf]
     refine Qab (Qad rfl (Qaw ?_))
     refine QaD ?_
     have hs:St _ [] _:=St.take (Γ':=[]) hs
     exact ha _ _ ⟨H,rfl,hs⟩
    intro hb
    rw [if_neg (b_dec_f hb)] at H
    refine g_d rfl ?_
    refine Qaa (v:=bool false) rfl rfl rfl (g_d rfl (Qag rfl rfl (g_d rfl (Qag rfl rfl (g_d rfl ?_)))))
    try dsimp only [Qae,Qaf]
    refine Qaa (v:=bool false) rfl rfl rfl (g_d rfl ?_)
    refine Qaa (v:=bool false) rfl rfl rfl (g_d rfl ?_)
    try dsimp only [Qae,Qaf]
    refine Qab (Qad rfl (Qac (Qaj [0,1,2,3,4,5,6] rfl ?_)))
    refine Qaa (v:=int .i64 (i64w r3.2)) rfl rfl rfl (g_d rfl ?_)
    refine Qas (B:=decide ((i64w r3.2)≤64)) rfl rfl rfl ?_ ?_
    ·
     intro hb
     rw [if_pos (b_dec_t hb)] at H
     refine g_d rfl ?_
     refine Qaa (v:=bool true) rfl rfl rfl (g_d rfl ?_)
     refine Qaa (v:=string a1) rfl rfl rfl (g_d rfl ?_)
     obtain ⟨r20,Hr20,H⟩:=bind_get H
     refine QaA (args:=[string (⟨#[9,9,9,9,9,9,9,9,9,9,9,9,9,9,9,9,9,9,9,9,9,9,9,9,9,9,9,9,9,9,9,9,9,9,9,9,9,9,9,9,9,9,9,9,9,9,9,9,9,9,9,9,9,9,9,9,9,9,9,9,9,9,9,9]⟩:ByteArray),string a1]) rfl rfl (Qax rfl (callFunc_enter Tryd.func47 rfl rfl) rfl) (Qam.calls (a1:=(⟨#[9,9,9,9,9,9,9,9,9,9,9,9,9,9,9,9,9,9,9,9,9,9,9,9,9,9,9,9,9,9,9,9,9,9,9,9,9,9,9,9,9,9,9,9,9,9,9,9,9,9,9,9,9,9,9,9,9,9,9,9,9,9,9,9]⟩:ByteArray)) (a2:=a1) Hr20) ?_
     rintro _ w ⟨rfl,hs2⟩
     have hs:St _ [] _:=hs.call hs2
     refine g_d rfl ?_
     try dsimp only [Qae,Qaf]
     refine Qas (B:=r20) rfl rfl rfl ?_ ?_
     ·
      intro hb
      rw [if_pos (b_var_t hb)] at H
      refine g_d rfl ?_
      refine Qaa (v:=bool true) rfl rfl rfl (g_d rfl ?_)
      try dsimp only [Qae,Qaf]
      refine Qab (Qak rfl (Qac (Qaj [0,1,2] rfl ?_)))
      refine Qaa (v:=int .i64 (i64w r3.2)) rfl rfl rfl (g_d rfl ?_)
      obtain ⟨g,H⟩:=ite_get H
      refine Qaa (v:=string (subS (⟨#[9,9,9,9,9,9,9,9,9,9,9,9,9,9,9,9,9,9,9,9,9,9,9,9,9,9,9,9,9,9,9,9,9,9,9,9,9,9,9,9,9,9,9,9,9,9,9,9,9,9,9,9,9,9,9,9,9,9,9,9,9,9,9,9]⟩:ByteArray) 0 (i64w r3.2))) rfl rfl (QaM rfl rfl rfl (.inl ⟨rfl,rfl⟩) (.inr ⟨_,_,rfl,rfl⟩) g.1 g.2.1 g.2.2) (g_d rfl ?_)
      refine Qaa (v:=string (subS (⟨#[9,9,9,9,9,9,9,9,9,9,9,9,9,9,9,9,9,9,9,9,9,9,9,9,9,9,9,9,9,9,9,9,9,9,9,9,9,9,9,9,9,9,9,9,9,9,9,9,9,9,9,9,9,9,9,9,9,9,9,9,9,9,9,9]⟩:ByteArray) 0 (i64w r3.2))) rfl rfl rfl (g_d rfl ?_)
      try dsimp only [Qae,Qaf]
      refine Qab ?_
      obtain rfl:=QsJ H
      refine Qau Tryd.func22 (v:=string (subS (⟨#[9,9,9,9,9,9,9,9,9,9,9,9,9,9,9,9,9,9,9,9,9,9,9,9,9,9,9,9,9,9,9,9,9,9,9,9,9,9,9,9,9,9,9,9,9,9,9,9,9,9,9,9,9,9,9,9,9,9,9,9,9,9,9,9]⟩:ByteArray) 0 (i64w r3.2))) (res1 rfl rfl) ?_
      have hs:St _ [] _:=St.take (Γ':=[]) hs
      exact ⟨_,rfl,rfl,hs⟩
     intro hb
     rw [if_neg (b_var_f hb)] at H
     refine g_d rfl ?_
     refine Qaa (v:=bool false) rfl rfl rfl (g_d rfl ?_)
     try dsimp only [Qae,Qaf]
     refine Qab (Qad rfl (Qaw ?_))
     refine QaD ?_
     have hs:St _ [] _:=St.take (Γ':=[]) hs
     exact ha _ _ ⟨H,rfl,hs⟩
    intro hb
    rw [if_neg (b_dec_f hb)] at H
    refine g_d rfl ?_
    refine Qaa (v:=bool false) rfl rfl rfl (g_d rfl (Qag rfl rfl (g_d rfl (Qag rfl rfl (g_d rfl ?_)))))
    try dsimp only [Qae,Qaf]
    refine Qaa (v:=bool false) rfl rfl rfl (g_d rfl ?_)
    refine Qaa (v:=bool false) rfl rfl rfl (g_d rfl ?_)
    try dsimp only [Qae,Qaf]
    refine Qab (Qad rfl (Qaw ?_))
    refine QaD ?_
    have hs:St _ [] _:=St.take (Γ':=[]) hs
    exact ha _ _ ⟨H,rfl,hs⟩
   intro hb
   rw [if_neg (b_dec_f hb)] at H
   refine g_d rfl ?_
   refine Qaa (v:=bool false) rfl rfl rfl (g_d rfl (Qag rfl rfl (g_d rfl (Qag rfl rfl (g_d rfl ?_)))))
   try dsimp only [Qae,Qaf]
   refine Qaa (v:=bool false) rfl rfl rfl (g_d rfl ?_)
   refine Qaa (v:=bool false) rfl rfl rfl (g_d rfl ?_)
   try dsimp only [Qae,Qaf]
   refine Qab (Qad rfl (Qac (Qaj [0,1,2,3,4,5,6] rfl ?_)))
   refine Qaa (v:=int .i64 (i64w r3.2)) rfl rfl rfl (g_d rfl ?_)
   refine Qas (B:=decide ((i64w r3.2)≤128)) rfl rfl rfl ?_ ?_
   · as_aux_lemma =>
    intro hb
    rw [if_pos (b_dec_t hb)] at H
    refine g_d rfl ?_
    refine Qaa (v:=bool true) rfl rfl rfl (g_d rfl ?_)
    refine Qaa (v:=string a1) rfl rfl rfl (g_d rfl ?_)
    obtain ⟨r21,Hr21,H⟩:=bind_get H
    refine QaA (args:=[string (⟨#[45,45,45,45,45,45,45,45,45,45,45,45,45,45,45,45,45,45,45,45,45,45,45,45,45,45,45,45,45,45,45,45,45,45,45,45,45,45,45,45,45,45,45,45,45,45,45,45,45,45,45,45,45,45,45,45,45,45,45,45,45,45,45,45,45,45,45,45,45,45,45,45,45,45,45,45,45,45,45,45,45,45,45,45,45,45,45,45,45,45,45,45,45,45,45,45,45,45,45,45,45,45,45,45,45,45,45,45,45,45,45,45,45,45,45,45,45,45,45,45,45,45,45,45,45,45,45,45]⟩:ByteArray),string a1]) rfl rfl (Qax rfl (callFunc_enter Tryd.func47 rfl rfl) rfl) (Qam.calls (a1:=(⟨#[45,45,45,45,45,45,45,45,45,45,45,45,45,45,45,45,45,45,45,45,45,45,45,45,45,45,45,45,45,45,45,45,45,45,45,45,45,45,45,45,45,45,45,45,45,45,45,45,45,45,45,45,45,45,45,45,45,45,45,45,45,45,45,45,45,45,45,45,45,45,45,45,45,45,45,45,45,45,45,45,45,45,45,45,45,45,45,45,45,45,45,45,45,45,45,45,45,45,45,45,45,45,45,45,45,45,45,45,45,45,45,45,45,45,45,45,45,45,45,45,45,45,45,45,45,45,45,45]⟩:ByteArray)) (a2:=a1) Hr21) ?_
    rintro _ w ⟨rfl,hs2⟩
    have hs:St _ [] _:=hs.call hs2
    refine g_d rfl ?_
    try dsimp only [Qae,Qaf]
    refine Qas (B:=r21) rfl rfl rfl ?_ ?_
    ·
     intro hb
     rw [if_pos (b_var_t hb)] at H
     refine g_d rfl ?_
     refine Qaa (v:=bool true) rfl rfl rfl (g_d rfl ?_)
     try dsimp only [Qae,Qaf]
     refine Qab (Qak rfl (Qac (Qaj [0,1,2] rfl ?_)))
     refine Qaa (v:=int .i64 (i64w r3.2)) rfl rfl rfl (g_d rfl ?_)
     obtain ⟨g,H⟩:=ite_get H
     refine Qaa (v:=string (subS (⟨#[45,45,45,45,45,45,45,45,45,45,45,45,45,45,45,45,45,45,45,45,45,45,45,45,45,45,45,45,45,45,45,45,45,45,45,45,45,45,45,45,45,45,45,45,45,45,45,45,45,45,45,45,45,45,45,45,45,45,45,45,45,45,45,45,45,45,45,45,45,45,45,45,45,45,45,45,45,45,45,45,45,45,45,45,45,45,45,45,45,45,45,45,45,45,45,45,45,45,45,45,45,45,45,45,45,45,45,45,45,45,45,45,45,45,45,45,45,45,45,45,45,45,45,45,45,45,45,45]⟩:ByteArray) 0 (i64w r3.2))) rfl rfl (QaM rfl rfl rfl (.inl ⟨rfl,rfl⟩) (.inr ⟨_,_,rfl,rfl⟩) g.1 g.2.1 g.2.2) ?_
     refine g_d rfl ?_
     refine Qaa (v:=string (subS (⟨#[45,45,45,45,45,45,45,45,45,45,45,45,45,45,45,45,45,45,45,45,45,45,45,45,45,45,45,45,45,45,45,45,45,45,45,45,45,45,45,45,45,45,45,45,45,45,45,45,45,45,45,45,45,45,45,45,45,45,45,45,45,45,45,45,45,45,45,45,45,45,45,45,45,45,45,45,45,45,45,45,45,45,45,45,45,45,45,45,45,45,45,45,45,45,45,45,45,45,45,45,45,45,45,45,45,45,45,45,45,45,45,45,45,45,45,45,45,45,45,45,45,45,45,45,45,45,45,45]⟩:ByteArray) 0 (i64w r3.2))) rfl rfl rfl ?_
     refine g_d rfl ?_
     try dsimp only [Qae,Qaf]
     refine Qab ?_
     obtain rfl:=QsJ H
     refine Qau Tryd.func22 (v:=string (subS (⟨#[45,45,45,45,45,45,45,45,45,45,45,45,45,45,45,45,45,45,45,45,45,45,45,45,45,45,45,45,45,45,45,45,45,45,45,45,45,45,45,45,45,45,45,45,45,45,45,45,45,45,45,45,45,45,45,45,45,45,45,45,45,45,45,45,45,45,45,45,45,45,45,45,45,45,45,45,45,45,45,45,45,45,45,45,45,45,45,45,45,45,45,45,45,45,45,45,45,45,45,45,45,45,45,45,45,45,45,45,45,45,45,45,45,45,45,45,45,45,45,45,45,45,45,45,45,45,45,45]⟩:ByteArray) 0 (i64w r3.2))) (res1 rfl rfl) ?_
     have hs:St _ [] _:=St.take (Γ':=[]) hs
     exact ⟨_,rfl,rfl,hs⟩
    intro hb
    rw [if_neg (b_var_f hb)] at H
    refine g_d rfl ?_
    refine Qaa (v:=bool false) rfl rfl rfl (g_d rfl ?_)
    try dsimp only [Qae,Qaf]
    refine Qab (Qad rfl (Qac (Qaj [0,1,2,3,4,5,6] rfl ?_)))
    refine Qaa (v:=int .i64 (i64w r3.2)) rfl rfl rfl (g_d rfl ?_)
    refine Qas (B:=decide ((i64w r3.2)≤64)) rfl rfl rfl ?_ ?_
    · as_aux_lemma =>
     intro hb
     rw [if_pos (b_dec_t hb)] at H
     refine g_d rfl ?_
     refine Qaa (v:=bool true) rfl rfl rfl (g_d rfl ?_)
     refine Qaa (v:=string a1) rfl rfl rfl (g_d rfl ?_)
     obtain ⟨r22,Hr22,H⟩:=bind_get H
     refine QaA (args:=[string (⟨#[48,48,48,48,48,48,48,48,48,48,48,48,48,48,48,48,48,48,48,48,48,48,48,48,48,48,48,48,48,48,48,48,48,48,48,48,48,48,48,48,48,48,48,48,48,48,48,48,48,48,48,48,48,48,48,48,48,48,48,48,48,48,48,48]⟩:ByteArray),string a1]) rfl rfl (Qax rfl (callFunc_enter Tryd.func47 rfl rfl) rfl) (Qam.calls (a1:=(⟨#[48,48,48,48,48,48,48,48,48,48,48,48,48,48,48,48,48,48,48,48,48,48,48,48,48,48,48,48,48,48,48,48,48,48,48,48,48,48,48,48,48,48,48,48,48,48,48,48,48,48,48,48,48,48,48,48,48,48,48,48,48,48,48,48]⟩:ByteArray)) (a2:=a1) Hr22) ?_
     rintro _ w ⟨rfl,hs2⟩
     have hs:St _ [] _:=hs.call hs2
     refine g_d rfl ?_
     try dsimp only [Qae,Qaf]
     refine Qas (B:=r22) rfl rfl rfl ?_ ?_
     ·
      intro hb
      rw [if_pos (b_var_t hb)] at H
      refine g_d rfl ?_
      refine Qaa (v:=bool true) rfl rfl rfl (g_d rfl ?_)
      try dsimp only [Qae,Qaf]
      refine Qab (Qak rfl (Qac (Qaj [0,1,2] rfl ?_)))
      refine Qaa (v:=int .i64 (i64w r3.2)) rfl rfl rfl (g_d rfl ?_)
      obtain ⟨g,H⟩:=ite_get H
      refine Qaa (v:=string (subS (⟨#[48,48,48,48,48,48,48,48,48,48,48,48,48,48,48,48,48,48,48,48,48,48,48,48,48,48,48,48,48,48,48,48,48,48,48,48,48,48,48,48,48,48,48,48,48,48,48,48,48,48,48,48,48,48,48,48,48,48,48,48,48,48,48,48]⟩:ByteArray) 0 (i64w r3.2))) rfl rfl (QaM rfl rfl rfl (.inl ⟨rfl,rfl⟩) (.inr ⟨_,_,rfl,rfl⟩) g.1 g.2.1 g.2.2) ?_
      refine g_d rfl ?_
      refine Qaa (v:=string (subS (⟨#[48,48,48,48,48,48,48,48,48,48,48,48,48,48,48,48,48,48,48,48,48,48,48,48,48,48,48,48,48,48,48,48,48,48,48,48,48,48,48,48,48,48,48,48,48,48,48,48,48,48,48,48,48,48,48,48,48,48,48,48,48,48,48,48]⟩:ByteArray) 0 (i64w r3.2))) rfl rfl rfl (g_d rfl ?_)
      try dsimp only [Qae,Qaf]
      refine Qab ?_
      obtain rfl:=QsJ H
      refine Qau Tryd.func22 (v:=string (subS (⟨#[48,48,48,48,48,48,48,48,48,48,48,48,48,48,48,48,48,48,48,48,48,48,48,48,48,48,48,48,48,48,48,48,48,48,48,48,48,48,48,48,48,48,48,48,48,48,48,48,48,48,48,48,48,48,48,48,48,48,48,48,48,48,48,48]⟩:ByteArray) 0 (i64w r3.2))) (res1 rfl rfl) ?_
      have hs:St _ [] _:=St.take (Γ':=[]) hs
      exact ⟨_,rfl,rfl,hs⟩
     intro hb
     rw [if_neg (b_var_f hb)] at H
     refine g_d rfl ?_
     refine Qaa (v:=bool false) rfl rfl rfl (g_d rfl ?_)
     try dsimp only [Qae,Qaf]
     refine Qab (Qad rfl (Qac (Qaj [0,1,2,3,4,5,6] rfl ?_)))
     refine Qaa (v:=int .i64 (i64w r3.2)) rfl rfl rfl (g_d rfl ?_)
     refine Qas (B:=decide ((i64w r3.2)≤128)) rfl rfl rfl ?_ ?_
     ·
      intro hb
      rw [if_pos (b_dec_t hb)] at H
      refine g_d rfl ?_
      refine Qaa (v:=bool true) rfl rfl rfl (g_d rfl ?_)
      refine Qaa (v:=string a1) rfl rfl rfl (g_d rfl ?_)
      obtain ⟨r23,Hr23,H⟩:=bind_get H
      refine QaA (args:=[string (⟨#[61,61,61,61,61,61,61,61,61,61,61,61,61,61,61,61,61,61,61,61,61,61,61,61,61,61,61,61,61,61,61,61,61,61,61,61,61,61,61,61,61,61,61,61,61,61,61,61,61,61,61,61,61,61,61,61,61,61,61,61,61,61,61,61,61,61,61,61,61,61,61,61,61,61,61,61,61,61,61,61,61,61,61,61,61,61,61,61,61,61,61,61,61,61,61,61,61,61,61,61,61,61,61,61,61,61,61,61,61,61,61,61,61,61,61,61,61,61,61,61,61,61,61,61,61,61,61,61]⟩:ByteArray),string a1]) rfl rfl (Qax rfl (callFunc_enter Tryd.func47 rfl rfl) rfl) (Qam.calls (a1:=(⟨#[61,61,61,61,61,61,61,61,61,61,61,61,61,61,61,61,61,61,61,61,61,61,61,61,61,61,61,61,61,61,61,61,61,61,61,61,61,61,61,61,61,61,61,61,61,61,61,61,61,61,61,61,61,61,61,61,61,61,61,61,61,61,61,61,61,61,61,61,61,61,61,61,61,61,61,61,61,61,61,61,61,61,61,61,61,61,61,61,61,61,61,61,61,61,61,61,61,61,61,61,61,61,61,61,61,61,61,61,61,61,61,61,61,61,61,61,61,61,61,61,61,61,61,61,61,61,61,61]⟩:ByteArray)) (a2:=a1) Hr23) ?_
      rintro _ w ⟨rfl,hs2⟩
      have hs:St _ [] _:=hs.call hs2
      refine g_d rfl ?_
      try dsimp only [Qae,Qaf]
      refine Qas (B:=r23) rfl rfl rfl ?_ ?_
      ·
       intro hb
       rw [if_pos (b_var_t hb)] at H
       refine g_d rfl ?_
       refine Qaa (v:=bool true) rfl rfl rfl (g_d rfl ?_)
       try dsimp only [Qae,Qaf]
       refine Qab (Qak rfl (Qac (Qaj [0,1,2] rfl ?_)))
       refine Qaa (v:=int .i64 (i64w r3.2)) rfl rfl rfl (g_d rfl ?_)
       obtain ⟨g,H⟩:=ite_get H
       refine Qaa (v:=string (subS (⟨#[61,61,61,61,61,61,61,61,61,61,61,61,61,61,61,61,61,61,61,61,61,61,61,61,61,61,61,61,61,61,61,61,61,61,61,61,61,61,61,61,61,61,61,61,61,61,61,61,61,61,61,61,61,61,61,61,61,61,61,61,61,61,61,61,61,61,61,61,61,61,61,61,61,61,61,61,61,61,61,61,61,61,61,61,61,61,61,61,61,61,61,61,61,61,61,61,61,61,61,61,61,61,61,61,61,61,61,61,61,61,61,61,61,61,61,61,61,61,61,61,61,61,61,61,61,61,61,61]⟩:ByteArray) 0 (i64w r3.2))) rfl rfl (QaM rfl rfl rfl (.inl ⟨rfl,rfl⟩) (.inr ⟨_,_,rfl,rfl⟩) g.1 g.2.1 g.2.2) ?_
       refine g_d rfl ?_
       refine Qaa (v:=string (subS (⟨#[61,61,61,61,61,61,61,61,61,61,61,61,61,61,61,61,61,61,61,61,61,61,61,61,61,61,61,61,61,61,61,61,61,61,61,61,61,61,61,61,61,61,61,61,61,61,61,61,61,61,61,61,61,61,61,61,61,61,61,61,61,61,61,61,61,61,61,61,61,61,61,61,61,61,61,61,61,61,61,61,61,61,61,61,61,61,61,61,61,61,61,61,61,61,61,61,61,61,61,61,61,61,61,61,61,61,61,61,61,61,61,61,61,61,61,61,61,61,61,61,61,61,61,61,61,61,61,61]⟩:ByteArray) 0 (i64w r3.2))) rfl rfl rfl ?_
       refine g_d rfl ?_
       try dsimp only [Qae,Qaf]
       refine Qab ?_
       obtain rfl:=QsJ H
       refine Qau Tryd.func22 (v:=string (subS (⟨#[61,61,61,61,61,61,61,61,61,61,61,61,61,61,61,61,61,61,61,61,61,61,61,61,61,61,61,61,61,61,61,61,61,61,61,61,61,61,61,61,61,61,61,61,61,61,61,61,61,61,61,61,61,61,61,61,61,61,61,61,61,61,61,61,61,61,61,61,61,61,61,61,61,61,61,61,61,61,61,61,61,61,61,61,61,61,61,61,61,61,61,61,61,61,61,61,61,61,61,61,61,61,61,61,61,61,61,61,61,61,61,61,61,61,61,61,61,61,61,61,61,61,61,61,61,61,61,61]⟩:ByteArray) 0 (i64w r3.2))) (res1 rfl rfl) ?_
       have hs:St _ [] _:=St.take (Γ':=[]) hs
       exact ⟨_,rfl,rfl,hs⟩
      intro hb
      rw [if_neg (b_var_f hb)] at H
      refine g_d rfl ?_
      refine Qaa (v:=bool false) rfl rfl rfl (g_d rfl ?_)
      try dsimp only [Qae,Qaf]
      refine Qab (Qad rfl (Qac (Qaj [0,1,2,3,4,5,6] rfl ?_)))
      refine Qaa (v:=int .i64 (i64w r3.2)) rfl rfl rfl (g_d rfl ?_)
      refine Qas (B:=decide ((i64w r3.2)≤64)) rfl rfl rfl ?_ ?_
      ·
       intro hb
       rw [if_pos (b_dec_t hb)] at H
       refine g_d rfl ?_
       refine Qaa (v:=bool true) rfl rfl rfl (g_d rfl ?_)
       refine Qaa (v:=string a1) rfl rfl rfl (g_d rfl ?_)
       obtain ⟨r24,Hr24,H⟩:=bind_get H
       refine QaA (args:=[string (⟨#[9,9,9,9,9,9,9,9,9,9,9,9,9,9,9,9,9,9,9,9,9,9,9,9,9,9,9,9,9,9,9,9,9,9,9,9,9,9,9,9,9,9,9,9,9,9,9,9,9,9,9,9,9,9,9,9,9,9,9,9,9,9,9,9]⟩:ByteArray),string a1]) rfl rfl (Qax rfl (callFunc_enter Tryd.func47 rfl rfl) rfl) (Qam.calls (a1:=(⟨#[9,9,9,9,9,9,9,9,9,9,9,9,9,9,9,9,9,9,9,9,9,9,9,9,9,9,9,9,9,9,9,9,9,9,9,9,9,9,9,9,9,9,9,9,9,9,9,9,9,9,9,9,9,9,9,9,9,9,9,9,9,9,9,9]⟩:ByteArray)) (a2:=a1) Hr24) ?_
       rintro _ w ⟨rfl,hs2⟩
       have hs:St _ [] _:=hs.call hs2
       refine g_d rfl ?_
       try dsimp only [Qae,Qaf]
       refine Qas (B:=r24) rfl rfl rfl ?_ ?_
       ·
        intro hb
        rw [if_pos (b_var_t hb)] at H
        refine g_d rfl ?_
        refine Qaa (v:=bool true) rfl rfl rfl (g_d rfl ?_)
        try dsimp only [Qae,Qaf]
        refine Qab (Qak rfl (Qac (Qaj [0,1,2] rfl ?_)))
        refine Qaa (v:=int .i64 (i64w r3.2)) rfl rfl rfl (g_d rfl ?_)
        obtain ⟨g,H⟩:=ite_get H
        refine Qaa (v:=string (subS (⟨#[9,9,9,9,9,9,9,9,9,9,9,9,9,9,9,9,9,9,9,9,9,9,9,9,9,9,9,9,9,9,9,9,9,9,9,9,9,9,9,9,9,9,9,9,9,9,9,9,9,9,9,9,9,9,9,9,9,9,9,9,9,9,9,9]⟩:ByteArray) 0 (i64w r3.2))) rfl rfl (QaM rfl rfl rfl (.inl ⟨rfl,rfl⟩) (.inr ⟨_,_,rfl,rfl⟩) g.1 g.2.1 g.2.2) (g_d rfl ?_)
        refine Qaa (v:=string (subS (⟨#[9,9,9,9,9,9,9,9,9,9,9,9,9,9,9,9,9,9,9,9,9,9,9,9,9,9,9,9,9,9,9,9,9,9,9,9,9,9,9,9,9,9,9,9,9,9,9,9,9,9,9,9,9,9,9,9,9,9,9,9,9,9,9,9]⟩:ByteArray) 0 (i64w r3.2))) rfl rfl rfl (g_d rfl ?_)
        try dsimp only [Qae,Qaf]
        refine Qab ?_
        obtain rfl:=QsJ H
        refine Qau Tryd.func22 (v:=string (subS (⟨#[9,9,9,9,9,9,9,9,9,9,9,9,9,9,9,9,9,9,9,9,9,9,9,9,9,9,9,9,9,9,9,9,9,9,9,9,9,9,9,9,9,9,9,9,9,9,9,9,9,9,9,9,9,9,9,9,9,9,9,9,9,9,9,9]⟩:ByteArray) 0 (i64w r3.2))) (res1 rfl rfl) ?_
        have hs:St _ [] _:=St.take (Γ':=[]) hs
        exact ⟨_,rfl,rfl,hs⟩
       intro hb
       rw [if_neg (b_var_f hb)] at H
       refine g_d rfl ?_
       refine Qaa (v:=bool false) rfl rfl rfl (g_d rfl ?_)
       try dsimp only [Qae,Qaf]
       refine Qab (Qad rfl (Qaw ?_))
       refine QaD ?_
       have hs:St _ [] _:=St.take (Γ':=[]) hs
       exact ha _ _ ⟨H,rfl,hs⟩
      intro hb
      rw [if_neg (b_dec_f hb)] at H
      refine g_d rfl ?_
      refine Qaa (v:=bool false) rfl rfl rfl (g_d rfl (Qag rfl rfl (g_d rfl (Qag rfl rfl (g_d rfl ?_)))))
      try dsimp only [Qae,Qaf]
      refine Qaa (v:=bool false) rfl rfl rfl (g_d rfl ?_)
      refine Qaa (v:=bool false) rfl rfl rfl (g_d rfl ?_)
      try dsimp only [Qae,Qaf]
      refine Qab (Qad rfl (Qaw ?_))
      refine QaD ?_
      have hs:St _ [] _:=St.take (Γ':=[]) hs
      exact ha _ _ ⟨H,rfl,hs⟩
     intro hb
     rw [if_neg (b_dec_f hb)] at H
     refine g_d rfl ?_
     refine Qaa (v:=bool false) rfl rfl rfl (g_d rfl (Qag rfl rfl (g_d rfl (Qag rfl rfl (g_d rfl ?_)))))
     try dsimp only [Qae,Qaf]
     refine Qaa (v:=bool false) rfl rfl rfl (g_d rfl ?_)
     refine Qaa (v:=bool false) rfl rfl rfl (g_d rfl ?_)
     try dsimp only [Qae,Qaf]
     refine Qab (Qad rfl (Qac (Qaj [0,1,2,3,4,5,6] rfl ?_)))
     refine Qaa (v:=int .i64 (i64w r3.2)) rfl rfl rfl (g_d rfl ?_)
     refine Qas (B:=decide ((i64w r3.2)≤64)) rfl rfl rfl ?_ ?_
     ·
      intro hb
      rw [if_pos (b_dec_t hb)] at H
      refine g_d rfl ?_
      refine Qaa (v:=bool true) rfl rfl rfl (g_d rfl ?_)
      refine Qaa (v:=string a1) rfl rfl rfl (g_d rfl ?_)
      obtain ⟨r25,Hr25,H⟩:=bind_get H
      refine QaA (args:=[string (⟨#[9,9,9,9,9,9,9,9,9,9,9,9,9,9,9,9,9,9,9,9,9,9,9,9,9,9,9,9,9,9,9,9,9,9,9,9,9,9,9,9,9,9,9,9,9,9,9,9,9,9,9,9,9,9,9,9,9,9,9,9,9,9,9,9]⟩:ByteArray),string a1]) rfl rfl (Qax rfl (callFunc_enter Tryd.func47 rfl rfl) rfl) (Qam.calls (a1:=(⟨#[9,9,9,9,9,9,9,9,9,9,9,9,9,9,9,9,9,9,9,9,9,9,9,9,9,9,9,9,9,9,9,9,9,9,9,9,9,9,9,9,9,9,9,9,9,9,9,9,9,9,9,9,9,9,9,9,9,9,9,9,9,9,9,9]⟩:ByteArray)) (a2:=a1) Hr25) ?_
      rintro _ w ⟨rfl,hs2⟩
      have hs:St _ [] _:=hs.call hs2
      refine g_d rfl ?_
      try dsimp only [Qae,Qaf]
      refine Qas (B:=r25) rfl rfl rfl ?_ ?_
      ·
       intro hb
       rw [if_pos (b_var_t hb)] at H
       refine g_d rfl ?_
       refine Qaa (v:=bool true) rfl rfl rfl (g_d rfl ?_)
       try dsimp only [Qae,Qaf]
       refine Qab (Qak rfl (Qac (Qaj [0,1,2] rfl ?_)))
       refine Qaa (v:=int .i64 (i64w r3.2)) rfl rfl rfl (g_d rfl ?_)
       obtain ⟨g,H⟩:=ite_get H
       refine Qaa (v:=string (subS (⟨#[9,9,9,9,9,9,9,9,9,9,9,9,9,9,9,9,9,9,9,9,9,9,9,9,9,9,9,9,9,9,9,9,9,9,9,9,9,9,9,9,9,9,9,9,9,9,9,9,9,9,9,9,9,9,9,9,9,9,9,9,9,9,9,9]⟩:ByteArray) 0 (i64w r3.2))) rfl rfl (QaM rfl rfl rfl (.inl ⟨rfl,rfl⟩) (.inr ⟨_,_,rfl,rfl⟩) g.1 g.2.1 g.2.2) (g_d rfl ?_)
       refine Qaa (v:=string (subS (⟨#[9,9,9,9,9,9,9,9,9,9,9,9,9,9,9,9,9,9,9,9,9,9,9,9,9,9,9,9,9,9,9,9,9,9,9,9,9,9,9,9,9,9,9,9,9,9,9,9,9,9,9,9,9,9,9,9,9,9,9,9,9,9,9,9]⟩:ByteArray) 0 (i64w r3.2))) rfl rfl rfl (g_d rfl ?_)
       try dsimp only [Qae,Qaf]
       refine Qab ?_
       obtain rfl:=QsJ H
       refine Qau Tryd.func22 (v:=string (subS (⟨#[9,9,9,9,9,9,9,9,9,9,9,9,9,9,9,9,9,9,9,9,9,9,9,9,9,9,9,9,9,9,9,9,9,9,9,9,9,9,9,9,9,9,9,9,9,9,9,9,9,9,9,9,9,9,9,9,9,9,9,9,9,9,9,9]⟩:ByteArray) 0 (i64w r3.2))) (res1 rfl rfl) ?_
       have hs:St _ [] _:=St.take (Γ':=[]) hs
       exact ⟨_,rfl,rfl,hs⟩
      intro hb
      rw [if_neg (b_var_f hb)] at H
      refine g_d rfl ?_
      refine Qaa (v:=bool false) rfl rfl rfl (g_d rfl ?_)
      try dsimp only [Qae,Qaf]
      refine Qab (Qad rfl (Qaw ?_))
      refine QaD ?_
      have hs:St _ [] _:=St.take (Γ':=[]) hs
      exact ha _ _ ⟨H,rfl,hs⟩
     intro hb
     rw [if_neg (b_dec_f hb)] at H
     refine g_d rfl ?_
     refine Qaa (v:=bool false) rfl rfl rfl (g_d rfl (Qag rfl rfl (g_d rfl (Qag rfl rfl (g_d rfl ?_)))))
     try dsimp only [Qae,Qaf]
     refine Qaa (v:=bool false) rfl rfl rfl (g_d rfl ?_)
     refine Qaa (v:=bool false) rfl rfl rfl (g_d rfl ?_)
     try dsimp only [Qae,Qaf]
     refine Qab (Qad rfl (Qaw ?_))
     refine QaD ?_
     have hs:St _ [] _:=St.take (Γ':=[]) hs
     exact ha _ _ ⟨H,rfl,hs⟩
    intro hb
    rw [if_neg (b_dec_f hb)] at H
    refine g_d rfl ?_
    refine Qaa (v:=bool false) rfl rfl rfl (g_d rfl (Qag rfl rfl (g_d rfl (Qag rfl rfl (g_d rfl ?_)))))
    try dsimp only [Qae,Qaf]
    refine Qaa (v:=bool false) rfl rfl rfl (g_d rfl ?_)
    refine Qaa (v:=bool false) rfl rfl rfl (g_d rfl ?_)
    try dsimp only [Qae,Qaf]
    refine Qab (Qad rfl (Qac (Qaj [0,1,2,3,4,5,6] rfl ?_)))
    refine Qaa (v:=int .i64 (i64w r3.2)) rfl rfl rfl (g_d rfl ?_)
    refine Qas (B:=decide ((i64w r3.2)≤128)) rfl rfl rfl ?_ ?_
    ·
     intro hb
     rw [if_pos (b_dec_t hb)] at H
     refine g_d rfl ?_
     refine Qaa (v:=bool true) rfl rfl rfl (g_d rfl ?_)
     refine Qaa (v:=string a1) rfl rfl rfl (g_d rfl ?_)
     obtain ⟨r26,Hr26,H⟩:=bind_get H
     refine QaA (args:=[string (⟨#[61,61,61,61,61,61,61,61,61,61,61,61,61,61,61,61,61,61,61,61,61,61,61,61,61,61,61,61,61,61,61,61,61,61,61,61,61,61,61,61,61,61,61,61,61,61,61,61,61,61,61,61,61,61,61,61,61,61,61,61,61,61,61,61,61,61,61,61,61,61,61,61,61,61,61,61,61,61,61,61,61,61,61,61,61,61,61,61,61,61,61,61,61,61,61,61,61,61,61,61,61,61,61,61,61,61,61,61,61,61,61,61,61,61,61,61,61,61,61,61,61,61,61,61,61,61,61,61]⟩:ByteArray),string a1]) rfl rfl (Qax rfl (callFunc_enter Tryd.func47 rfl rfl) rfl) (Qam.calls (a1:=(⟨#[61,61,61,61,61,61,61,61,61,61,61,61,61,61,61,61,61,61,61,61,61,61,61,61,61,61,61,61,61,61,61,61,61,61,61,61,61,61,61,61,61,61,61,61,61,61,61,61,61,61,61,61,61,61,61,61,61,61,61,61,61,61,61,61,61,61,61,61,61,61,61,61,61,61,61,61,61,61,61,61,61,61,61,61,61,61,61,61,61,61,61,61,61,61,61,61,61,61,61,61,61,61,61,61,61,61,61,61,61,61,61,61,61,61,61,61,61,61,61,61,61,61,61,61,61,61,61,61]⟩:ByteArray)) (a2:=a1) Hr26) ?_
     rintro _ w ⟨rfl,hs2⟩
     have hs:St _ [] _:=hs.call hs2
     refine g_d rfl ?_
     try dsimp only [Qae,Qaf]
     refine Qas (B:=r26) rfl rfl rfl ?_ ?_
     ·
      intro hb
      rw [if_pos (b_var_t hb)] at H
      refine g_d rfl ?_
      refine Qaa (v:=bool true) rfl rfl rfl (g_d rfl ?_)
      try dsimp only [Qae,Qaf]
      refine Qab (Qak rfl (Qac (Qaj [0,1,2] rfl ?_)))
      refine Qaa (v:=int .i64 (i64w r3.2)) rfl rfl rfl (g_d rfl ?_)
      obtain ⟨g,H⟩:=ite_get H
      refine Qaa (v:=string (subS (⟨#[61,61,61,61,61,61,61,61,61,61,61,61,61,61,61,61,61,61,61,61,61,61,61,61,61,61,61,61,61,61,61,61,61,61,61,61,61,61,61,61,61,61,61,61,61,61,61,61,61,61,61,61,61,61,61,61,61,61,61,61,61,61,61,61,61,61,61,61,61,61,61,61,61,61,61,61,61,61,61,61,61,61,61,61,61,61,61,61,61,61,61,61,61,61,61,61,61,61,61,61,61,61,61,61,61,61,61,61,61,61,61,61,61,61,61,61,61,61,61,61,61,61,61,61,61,61,61,61]⟩:ByteArray) 0 (i64w r3.2))) rfl rfl (QaM rfl rfl rfl (.inl ⟨rfl,rfl⟩) (.inr ⟨_,_,rfl,rfl⟩) g.1 g.2.1 g.2.2) ?_
      refine g_d rfl ?_
      refine Qaa (v:=string (subS (⟨#[61,61,61,61,61,61,61,61,61,61,61,61,61,61,61,61,61,61,61,61,61,61,61,61,61,61,61,61,61,61,61,61,61,61,61,61,61,61,61,61,61,61,61,61,61,61,61,61,61,61,61,61,61,61,61,61,61,61,61,61,61,61,61,61,61,61,61,61,61,61,61,61,61,61,61,61,61,61,61,61,61,61,61,61,61,61,61,61,61,61,61,61,61,61,61,61,61,61,61,61,61,61,61,61,61,61,61,61,61,61,61,61,61,61,61,61,61,61,61,61,61,61,61,61,61,61,61,61]⟩:ByteArray) 0 (i64w r3.2))) rfl rfl rfl ?_
      refine g_d rfl ?_
      try dsimp only [Qae,Qaf]
      refine Qab ?_
      obtain rfl:=QsJ H
      refine Qau Tryd.func22 (v:=string (subS (⟨#[61,61,61,61,61,61,61,61,61,61,61,61,61,61,61,61,61,61,61,61,61,61,61,61,61,61,61,61,61,61,61,61,61,61,61,61,61,61,61,61,61,61,61,61,61,61,61,61,61,61,61,61,61,61,61,61,61,61,61,61,61,61,61,61,61,61,61,61,61,61,61,61,61,61,61,61,61,61,61,61,61,61,61,61,61,61,61,61,61,61,61,61,61,61,61,61,61,61,61,61,61,61,61,61,61,61,61,61,61,61,61,61,61,61,61,61,61,61,61,61,61,61,61,61,61,61,61,61]⟩:ByteArray) 0 (i64w r3.2))) (res1 rfl rfl) ?_
      have hs:St _ [] _:=St.take (Γ':=[]) hs
      exact ⟨_,rfl,rfl,hs⟩
     intro hb
     rw [if_neg (b_var_f hb)] at H
     refine g_d rfl ?_
     refine Qaa (v:=bool false) rfl rfl rfl (g_d rfl ?_)
     try dsimp only [Qae,Qaf]
     refine Qab (Qad rfl (Qac (Qaj [0,1,2,3,4,5,6] rfl ?_)))
     refine Qaa (v:=int .i64 (i64w r3.2)) rfl rfl rfl (g_d rfl ?_)
     refine Qas (B:=decide ((i64w r3.2)≤64)) rfl rfl rfl ?_ ?_
     ·
      intro hb
      rw [if_pos (b_dec_t hb)] at H
      refine g_d rfl ?_
      refine Qaa (v:=bool true) rfl rfl rfl (g_d rfl ?_)
      refine Qaa (v:=string a1) rfl rfl rfl (g_d rfl ?_)
      obtain ⟨r27,Hr27,H⟩:=bind_get H
      refine QaA (args:=[string (⟨#[9,9,9,9,9,9,9,9,9,9,9,9,9,9,9,9,9,9,9,9,9,9,9,9,9,9,9,9,9,9,9,9,9,9,9,9,9,9,9,9,9,9,9,9,9,9,9,9,9,9,9,9,9,9,9,9,9,9,9,9,9,9,9,9]⟩:ByteArray),string a1]) rfl rfl (Qax rfl (callFunc_enter Tryd.func47 rfl rfl) rfl) (Qam.calls (a1:=(⟨#[9,9,9,9,9,9,9,9,9,9,9,9,9,9,9,9,9,9,9,9,9,9,9,9,9,9,9,9,9,9,9,9,9,9,9,9,9,9,9,9,9,9,9,9,9,9,9,9,9,9,9,9,9,9,9,9,9,9,9,9,9,9,9,9]⟩:ByteArray)) (a2:=a1) Hr27) ?_
      rintro _ w ⟨rfl,hs2⟩
      have hs:St _ [] _:=hs.call hs2
      refine g_d rfl ?_
      try dsimp only [Qae,Qaf]
      refine Qas (B:=r27) rfl rfl rfl ?_ ?_
      ·
       intro hb
       rw [if_pos (b_var_t hb)] at H
       refine g_d rfl ?_
       refine Qaa (v:=bool true) rfl rfl rfl (g_d rfl ?_)
       try dsimp only [Qae,Qaf]
       refine Qab (Qak rfl (Qac (Qaj [0,1,2] rfl ?_)))
       refine Qaa (v:=int .i64 (i64w r3.2)) rfl rfl rfl (g_d rfl ?_)
       obtain ⟨g,H⟩:=ite_get H
       refine Qaa (v:=string (subS (⟨#[9,9,9,9,9,9,9,9,9,9,9,9,9,9,9,9,9,9,9,9,9,9,9,9,9,9,9,9,9,9,9,9,9,9,9,9,9,9,9,9,9,9,9,9,9,9,9,9,9,9,9,9,9,9,9,9,9,9,9,9,9,9,9,9]⟩:ByteArray) 0 (i64w r3.2))) rfl rfl (QaM rfl rfl rfl (.inl ⟨rfl,rfl⟩) (.inr ⟨_,_,rfl,rfl⟩) g.1 g.2.1 g.2.2) (g_d rfl ?_)
       refine Qaa (v:=string (subS (⟨#[9,9,9,9,9,9,9,9,9,9,9,9,9,9,9,9,9,9,9,9,9,9,9,9,9,9,9,9,9,9,9,9,9,9,9,9,9,9,9,9,9,9,9,9,9,9,9,9,9,9,9,9,9,9,9,9,9,9,9,9,9,9,9,9]⟩:ByteArray) 0 (i64w r3.2))) rfl rfl rfl (g_d rfl ?_)
       try dsimp only [Qae,Qaf]
       refine Qab ?_
       obtain rfl:=QsJ H
       refine Qau Tryd.func22 (v:=string (subS (⟨#[9,9,9,9,9,9,9,9,9,9,9,9,9,9,9,9,9,9,9,9,9,9,9,9,9,9,9,9,9,9,9,9,9,9,9,9,9,9,9,9,9,9,9,9,9,9,9,9,9,9,9,9,9,9,9,9,9,9,9,9,9,9,9,9]⟩:ByteArray) 0 (i64w r3.2))) (res1 rfl rfl) ?_
       have hs:St _ [] _:=St.take (Γ':=[]) hs
       exact ⟨_,rfl,rfl,hs⟩
      intro hb
      rw [if_neg (b_var_f hb)] at H
      refine g_d rfl ?_
      refine Qaa (v:=bool false) rfl rfl rfl (g_d rfl ?_)
      try dsimp only [Qae,Qaf]
      refine Qab (Qad rfl (Qaw ?_))
      refine QaD ?_
      have hs:St _ [] _:=St.take (Γ':=[]) hs
      exact ha _ _ ⟨H,rfl,hs⟩
     intro hb
     rw [if_neg (b_dec_f hb)] at H
     refine g_d rfl ?_
     refine Qaa (v:=bool false) rfl rfl rfl (g_d rfl (Qag rfl rfl (g_d rfl (Qag rfl rfl (g_d rfl ?_)))))
     try dsimp only [Qae,Qaf]
     refine Qaa (v:=bool false) rfl rfl rfl (g_d rfl ?_)
     refine Qaa (v:=bool false) rfl rfl rfl (g_d rfl ?_)
     try dsimp only [Qae,Qaf]
     refine Qab (Qad rfl (Qaw ?_))
     refine QaD ?_
     have hs:St _ [] _:=St.take (Γ':=[]) hs
     exact ha _ _ ⟨H,rfl,hs⟩
    intro hb
    rw [if_neg (b_dec_f hb)] at H
    refine g_d rfl ?_
    refine Qaa (v:=bool false) rfl rfl rfl (g_d rfl (Qag rfl rfl (g_d rfl (Qag rfl rfl (g_d rfl ?_)))))
    try dsimp only [Qae,Qaf]
    refine Qaa (v:=bool false) rfl rfl rfl (g_d rfl ?_)
    refine Qaa (v:=bool false) rfl rfl rfl (g_d rfl ?_)
    try dsimp only [Qae,Qaf]
    refine Qab (Qad rfl (Qac (Qaj [0,1,2,3,4,5,6] rfl ?_)))
    refine Qaa (v:=int .i64 (i64w r3.2)) rfl rfl rfl (g_d rfl ?_)
    refine Qas (B:=decide ((i64w r3.2)≤64)) rfl rfl rfl ?_ ?_
    ·
     intro hb
     rw [if_pos (b_dec_t hb)] at H
     refine g_d rfl ?_
     refine Qaa (v:=bool true) rfl rfl rfl (g_d rfl ?_)
     refine Qaa (v:=string a1) rfl rfl rfl (g_d rfl ?_)
     obtain ⟨r28,Hr28,H⟩:=bind_get H
     refine QaA (args:=[string (⟨#[9,9,9,9,9,9,9,9,9,9,9,9,9,9,9,9,9,9,9,9,9,9,9,9,9,9,9,9,9,9,9,9,9,9,9,9,9,9,9,9,9,9,9,9,9,9,9,9,9,9,9,9,9,9,9,9,9,9,9,9,9,9,9,9]⟩:ByteArray),string a1]) rfl rfl (Qax rfl (callFunc_enter Tryd.func47 rfl rfl) rfl) (Qam.calls (a1:=(⟨#[9,9,9,9,9,9,9,9,9,9,9,9,9,9,9,9,9,9,9,9,9,9,9,9,9,9,9,9,9,9,9,9,9,9,9,9,9,9,9,9,9,9,9,9,9,9,9,9,9,9,9,9,9,9,9,9,9,9,9,9,9,9,9,9]⟩:ByteArray)) (a2:=a1) Hr28) ?_
     rintro _ w ⟨rfl,hs2⟩
     have hs:St _ [] _:=hs.call hs2
     refine g_d rfl ?_
     try dsimp only [Qae,Qaf]
     refine Qas (B:=r28) rfl rfl rfl ?_ ?_
     ·
      intro hb
      rw [if_pos (b_var_t hb)] at H
      refine g_d rfl ?_
      refine Qaa (v:=bool true) rfl rfl rfl (g_d rfl ?_)
      try dsimp only [Qae,Qaf]
      refine Qab (Qak rfl (Qac (Qaj [0,1,2] rfl ?_)))
      refine Qaa (v:=int .i64 (i64w r3.2)) rfl rfl rfl (g_d rfl ?_)
      obtain ⟨g,H⟩:=ite_get H
      refine Qaa (v:=string (subS (⟨#[9,9,9,9,9,9,9,9,9,9,9,9,9,9,9,9,9,9,9,9,9,9,9,9,9,9,9,9,9,9,9,9,9,9,9,9,9,9,9,9,9,9,9,9,9,9,9,9,9,9,9,9,9,9,9,9,9,9,9,9,9,9,9,9]⟩:ByteArray) 0 (i64w r3.2))) rfl rfl (QaM rfl rfl rfl (.inl ⟨rfl,rfl⟩) (.inr ⟨_,_,rfl,rfl⟩) g.1 g.2.1 g.2.2) (g_d rfl ?_)
      refine Qaa (v:=string (subS (⟨#[9,9,9,9,9,9,9,9,9,9,9,9,9,9,9,9,9,9,9,9,9,9,9,9,9,9,9,9,9,9,9,9,9,9,9,9,9,9,9,9,9,9,9,9,9,9,9,9,9,9,9,9,9,9,9,9,9,9,9,9,9,9,9,9]⟩:ByteArray) 0 (i64w r3.2))) rfl rfl rfl (g_d rfl ?_)
      try dsimp only [Qae,Qaf]
      refine Qab ?_
      obtain rfl:=QsJ H
      refine Qau Tryd.func22 (v:=string (subS (⟨#[9,9,9,9,9,9,9,9,9,9,9,9,9,9,9,9,9,9,9,9,9,9,9,9,9,9,9,9,9,9,9,9,9,9,9,9,9,9,9,9,9,9,9,9,9,9,9,9,9,9,9,9,9,9,9,9,9,9,9,9,9,9,9,9]⟩:ByteArray) 0 (i64w r3.2))) (res1 rfl rfl) ?_
      have hs:St _ [] _:=St.take (Γ':=[]) hs
      exact ⟨_,rfl,rfl,hs⟩
     intro hb
     rw [if_neg (b_var_f hb)] at H
     refine g_d rfl ?_
     refine Qaa (v:=bool false) rfl rfl rfl (g_d rfl ?_)
     try dsimp only [Qae,Qaf]
     refine Qab (Qad rfl (Qaw ?_))
     refine QaD ?_
     have hs:St _ [] _:=St.take (Γ':=[]) hs
     exact ha _ _ ⟨H,rfl,hs⟩
    intro hb
    rw [if_neg (b_dec_f hb)] at H
    refine g_d rfl ?_
    refine Qaa (v:=bool false) rfl rfl rfl (g_d rfl (Qag rfl rfl (g_d rfl (Qag rfl rfl (g_d rfl ?_)))))
    try dsimp only [Qae,Qaf]
    refine Qaa (v:=bool false) rfl rfl rfl (g_d rfl ?_)
    refine Qaa (v:=bool false) rfl rfl rfl (g_d rfl ?_)
    try dsimp only [Qae,Qaf]
    refine Qab (Qad rfl (Qaw ?_))
    refine QaD ?_
    have hs:St _ [] _:=St.take (Γ':=[]) hs
    exact ha _ _ ⟨H,rfl,hs⟩
   intro hb
   rw [if_neg (b_dec_f hb)] at H
   refine g_d rfl ?_
   refine Qaa (v:=bool false) rfl rfl rfl (g_d rfl (Qag rfl rfl (g_d rfl (Qag rfl rfl (g_d rfl ?_)))))
   try dsimp only [Qae,Qaf]
   refine Qaa (v:=bool false) rfl rfl rfl (g_d rfl ?_)
   refine Qaa (v:=bool false) rfl rfl rfl (g_d rfl ?_)
   try dsimp only [Qae,Qaf]
   refine Qab (Qad rfl (Qac (Qaj [0,1,2,3,4,5,6] rfl ?_)))
   refine Qaa (v:=int .i64 (i64w r3.2)) rfl rfl rfl (g_d rfl ?_)
   refine Qas (B:=decide ((i64w r3.2)≤64)) rfl rfl rfl ?_ ?_
   · as_aux_lemma =>
    intro hb
    rw [if_pos (b_dec_t hb)] at H
    refine g_d rfl ?_
    refine Qaa (v:=bool true) rfl rfl rfl (g_d rfl ?_)
    refine Qaa (v:=string a1) rfl rfl rfl (g_d rfl ?_)
    obtain ⟨r29,Hr29,H⟩:=bind_get H
    refine QaA (args:=[string (⟨#[48,48,48,48,48,48,48,48,48,48,48,48,48,48,48,48,48,48,48,48,48,48,48,48,48,48,48,48,48,48,48,48,48,48,48,48,48,48,48,48,48,48,48,48,48,48,48,48,48,48,48,48,48,48,48,48,48,48,48,48,48,48,48,48]⟩:ByteArray),string a1]) rfl rfl (Qax rfl (callFunc_enter Tryd.func47 rfl rfl) rfl) (Qam.calls (a1:=(⟨#[48,48,48,48,48,48,48,48,48,48,48,48,48,48,48,48,48,48,48,48,48,48,48,48,48,48,48,48,48,48,48,48,48,48,48,48,48,48,48,48,48,48,48,48,48,48,48,48,48,48,48,48,48,48,48,48,48,48,48,48,48,48,48,48]⟩:ByteArray)) (a2:=a1) Hr29) ?_
    rintro _ w ⟨rfl,hs2⟩
    have hs:St _ [] _:=hs.call hs2
    refine g_d rfl ?_
    try dsimp only [Qae,Qaf]
    refine Qas (B:=r29) rfl rfl rfl ?_ ?_
    ·
     intro hb
     rw [if_pos (b_var_t hb)] at H
     refine g_d rfl ?_
     refine Qaa (v:=bool true) rfl rfl rfl (g_d rfl ?_)
     try dsimp only [Qae,Qaf]
     refine Qab (Qak rfl (Qac (Qaj [0,1,2] rfl ?_)))
     refine Qaa (v:=int .i64 (i64w r3.2)) rfl rfl rfl (g_d rfl ?_)
     obtain ⟨g,H⟩:=ite_get H
     refine Qaa (v:=string (subS (⟨#[48,48,48,48,48,48,48,48,48,48,48,48,48,48,48,48,48,48,48,48,48,48,48,48,48,48,48,48,48,48,48,48,48,48,48,48,48,48,48,48,48,48,48,48,48,48,48,48,48,48,48,48,48,48,48,48,48,48,48,48,48,48,48,48]⟩:ByteArray) 0 (i64w r3.2))) rfl rfl (QaM rfl rfl rfl (.inl ⟨rfl,rfl⟩) (.inr ⟨_,_,rfl,rfl⟩) g.1 g.2.1 g.2.2) ?_
     refine g_d rfl ?_
     refine Qaa (v:=string (subS (⟨#[48,48,48,48,48,48,48,48,48,48,48,48,48,48,48,48,48,48,48,48,48,48,48,48,48,48,48,48,48,48,48,48,48,48,48,48,48,48,48,48,48,48,48,48,48,48,48,48,48,48,48,48,48,48,48,48,48,48,48,48,48,48,48,48]⟩:ByteArray) 0 (i64w r3.2))) rfl rfl rfl (g_d rfl ?_)
     try dsimp only [Qae,Qaf]
     refine Qab ?_
     obtain rfl:=QsJ H
     refine Qau Tryd.func22 (v:=string (subS (⟨#[48,48,48,48,48,48,48,48,48,48,48,48,48,48,48,48,48,48,48,48,48,48,48,48,48,48,48,48,48,48,48,48,48,48,48,48,48,48,48,48,48,48,48,48,48,48,48,48,48,48,48,48,48,48,48,48,48,48,48,48,48,48,48,48]⟩:ByteArray) 0 (i64w r3.2))) (res1 rfl rfl) ?_
     have hs:St _ [] _:=St.take (Γ':=[]) hs
     exact ⟨_,rfl,rfl,hs⟩
    intro hb
    rw [if_neg (b_var_f hb)] at H
    refine g_d rfl ?_
    refine Qaa (v:=bool false) rfl rfl rfl (g_d rfl ?_)
    try dsimp only [Qae,Qaf]
    refine Qab (Qad rfl (Qac (Qaj [0,1,2,3,4,5,6] rfl ?_)))
    refine Qaa (v:=int .i64 (i64w r3.2)) rfl rfl rfl (g_d rfl ?_)
    refine Qas (B:=decide ((i64w r3.2)≤128)) rfl rfl rfl ?_ ?_
    ·
     intro hb
     rw [if_pos (b_dec_t hb)] at H
     refine g_d rfl ?_
     refine Qaa (v:=bool true) rfl rfl rfl (g_d rfl ?_)
     refine Qaa (v:=string a1) rfl rfl rfl (g_d rfl ?_)
     obtain ⟨r30,Hr30,H⟩:=bind_get H
     refine QaA (args:=[string (⟨#[61,61,61,61,61,61,61,61,61,61,61,61,61,61,61,61,61,61,61,61,61,61,61,61,61,61,61,61,61,61,61,61,61,61,61,61,61,61,61,61,61,61,61,61,61,61,61,61,61,61,61,61,61,61,61,61,61,61,61,61,61,61,61,61,61,61,61,61,61,61,61,61,61,61,61,61,61,61,61,61,61,61,61,61,61,61,61,61,61,61,61,61,61,61,61,61,61,61,61,61,61,61,61,61,61,61,61,61,61,61,61,61,61,61,61,61,61,61,61,61,61,61,61,61,61,61,61,61]⟩:ByteArray),string a1]) rfl rfl (Qax rfl (callFunc_enter Tryd.func47 rfl rfl) rfl) (Qam.calls (a1:=(⟨#[61,61,61,61,61,61,61,61,61,61,61,61,61,61,61,61,61,61,61,61,61,61,61,61,61,61,61,61,61,61,61,61,61,61,61,61,61,61,61,61,61,61,61,61,61,61,61,61,61,61,61,61,61,61,61,61,61,61,61,61,61,61,61,61,61,61,61,61,61,61,61,61,61,61,61,61,61,61,61,61,61,61,61,61,61,61,61,61,61,61,61,61,61,61,61,61,61,61,61,61,61,61,61,61,61,61,61,61,61,61,61,61,61,61,61,61,61,61,61,61,61,61,61,61,61,61,61,61]⟩:ByteArray)) (a2:=a1) Hr30) ?_
     rintro _ w ⟨rfl,hs2⟩
     have hs:St _ [] _:=hs.call hs2
     refine g_d rfl ?_
     try dsimp only [Qae,Qaf]
     refine Qas (B:=r30) rfl rfl rfl ?_ ?_
     ·
      intro hb
      rw [if_pos (b_var_t hb)] at H
      refine g_d rfl ?_
      refine Qaa (v:=bool true) rfl rfl rfl (g_d rfl ?_)
      try dsimp only [Qae,Qaf]
      refine Qab (Qak rfl (Qac (Qaj [0,1,2] rfl ?_)))
      refine Qaa (v:=int .i64 (i64w r3.2)) rfl rfl rfl (g_d rfl ?_)
      obtain ⟨g,H⟩:=ite_get H
      refine Qaa (v:=string (subS (⟨#[61,61,61,61,61,61,61,61,61,61,61,61,61,61,61,61,61,61,61,61,61,61,61,61,61,61,61,61,61,61,61,61,61,61,61,61,61,61,61,61,61,61,61,61,61,61,61,61,61,61,61,61,61,61,61,61,61,61,61,61,61,61,61,61,61,61,61,61,61,61,61,61,61,61,61,61,61,61,61,61,61,61,61,61,61,61,61,61,61,61,61,61,61,61,61,61,61,61,61,61,61,61,61,61,61,61,61,61,61,61,61,61,61,61,61,61,61,61,61,61,61,61,61,61,61,61,61,61]⟩:ByteArray) 0 (i64w r3.2))) rfl rfl (QaM rfl rfl rfl (.inl ⟨rfl,rfl⟩) (.inr ⟨_,_,rfl,rfl⟩) g.1 g.2.1 g.2.2) ?_
      refine g_d rfl ?_
      refine Qaa (v:=string (subS (⟨#[61,61,61,61,61,61,61,61,61,61,61,61,61,61,61,61,61,61,61,61,61,61,61,61,61,61,61,61,61,61,61,61,61,61,61,61,61,61,61,61,61,61,61,61,61,61,61,61,61,61,61,61,61,61,61,61,61,61,61,61,61,61,61,61,61,61,61,61,61,61,61,61,61,61,61,61,61,61,61,61,61,61,61,61,61,61,61,61,61,61,61,61,61,61,61,61,61,61,61,61,61,61,61,61,61,61,61,61,61,61,61,61,61,61,61,61,61,61,61,61,61,61,61,61,61,61,61,61]⟩:ByteArray) 0 (i64w r3.2))) rfl rfl rfl ?_
      refine g_d rfl ?_
      try dsimp only [Qae,Qaf]
      refine Qab ?_
      obtain rfl:=QsJ H
      refine Qau Tryd.func22 (v:=string (subS (⟨#[61,61,61,61,61,61,61,61,61,61,61,61,61,61,61,61,61,61,61,61,61,61,61,61,61,61,61,61,61,61,61,61,61,61,61,61,61,61,61,61,61,61,61,61,61,61,61,61,61,61,61,61,61,61,61,61,61,61,61,61,61,61,61,61,61,61,61,61,61,61,61,61,61,61,61,61,61,61,61,61,61,61,61,61,61,61,61,61,61,61,61,61,61,61,61,61,61,61,61,61,61,61,61,61,61,61,61,61,61,61,61,61,61,61,61,61,61,61,61,61,61,61,61,61,61,61,61,61]⟩:ByteArray) 0 (i64w r3.2))) (res1 rfl rfl) ?_
      have hs:St _ [] _:=St.take (Γ':=[]) hs
      exact ⟨_,rfl,rfl,hs⟩
     intro hb
     rw [if_neg (b_var_f hb)] at H
     refine g_d rfl ?_
     refine Qaa (v:=bool false) rfl rfl rfl (g_d rfl ?_)
     try dsimp only [Qae,Qaf]
     refine Qab (Qad rfl (Qac (Qaj [0,1,2,3,4,5,6] rfl ?_)))
     refine Qaa (v:=int .i64 (i64w r3.2)) rfl rfl rfl (g_d rfl ?_)
     refine Qas (B:=decide ((i64w r3.2)≤64)) rfl rfl rfl ?_ ?_
     ·
      intro hb
      rw [if_pos (b_dec_t hb)] at H
      refine g_d rfl ?_
      refine Qaa (v:=bool true) rfl rfl rfl (g_d rfl ?_)
      refine Qaa (v:=string a1) rfl rfl rfl (g_d rfl ?_)
      obtain ⟨r31,Hr31,H⟩:=bind_get H
      refine QaA (args:=[string (⟨#[9,9,9,9,9,9,9,9,9,9,9,9,9,9,9,9,9,9,9,9,9,9,9,9,9,9,9,9,9,9,9,9,9,9,9,9,9,9,9,9,9,9,9,9,9,9,9,9,9,9,9,9,9,9,9,9,9,9,9,9,9,9,9,9]⟩:ByteArray),string a1]) rfl rfl (Qax rfl (callFunc_enter Tryd.func47 rfl rfl) rfl) (Qam.calls (a1:=(⟨#[9,9,9,9,9,9,9,9,9,9,9,9,9,9,9,9,9,9,9,9,9,9,9,9,9,9,9,9,9,9,9,9,9,9,9,9,9,9,9,9,9,9,9,9,9,9,9,9,9,9,9,9,9,9,9,9,9,9,9,9,9,9,9,9]⟩:ByteArray)) (a2:=a1) Hr31) ?_
      rintro _ w ⟨rfl,hs2⟩
      have hs:St _ [] _:=hs.call hs2
      refine g_d rfl ?_
      try dsimp only [Qae,Qaf]
      refine Qas (B:=r31) rfl rfl rfl ?_ ?_
      ·
       intro hb
       rw [if_pos (b_var_t hb)] at H
       refine g_d rfl ?_
       refine Qaa (v:=bool true) rfl rfl rfl (g_d rfl ?_)
       try dsimp only [Qae,Qaf]
       refine Qab (Qak rfl (Qac (Qaj [0,1,2] rfl ?_)))
       refine Qaa (v:=int .i64 (i64w r3.2)) rfl rfl rfl (g_d rfl ?_)
       obtain ⟨g,H⟩:=ite_get H
       refine Qaa (v:=string (subS (⟨#[9,9,9,9,9,9,9,9,9,9,9,9,9,9,9,9,9,9,9,9,9,9,9,9,9,9,9,9,9,9,9,9,9,9,9,9,9,9,9,9,9,9,9,9,9,9,9,9,9,9,9,9,9,9,9,9,9,9,9,9,9,9,9,9]⟩:ByteArray) 0 (i64w r3.2))) rfl rfl (QaM rfl rfl rfl (.inl ⟨rfl,rfl⟩) (.inr ⟨_,_,rfl,rfl⟩) g.1 g.2.1 g.2.2) (g_d rfl ?_)
       refine Qaa (v:=string (subS (⟨#[9,9,9,9,9,9,9,9,9,9,9,9,9,9,9,9,9,9,9,9,9,9,9,9,9,9,9,9,9,9,9,9,9,9,9,9,9,9,9,9,9,9,9,9,9,9,9,9,9,9,9,9,9,9,9,9,9,9,9,9,9,9,9,9]⟩:ByteArray) 0 (i64w r3.2))) rfl rfl rfl (g_d rfl ?_)
       try dsimp only [Qae,Qaf]
       refine Qab ?_
       obtain rfl:=QsJ H
       refine Qau Tryd.func22 (v:=string (subS (⟨#[9,9,9,9,9,9,9,9,9,9,9,9,9,9,9,9,9,9,9,9,9,9,9,9,9,9,9,9,9,9,9,9,9,9,9,9,9,9,9,9,9,9,9,9,9,9,9,9,9,9,9,9,9,9,9,9,9,9,9,9,9,9,9,9]⟩:ByteArray) 0 (i64w r3.2))) (res1 rfl rfl) ?_
       have hs:St _ [] _:=St.take (Γ':=[]) hs
       exact ⟨_,rfl,rfl,hs⟩
      intro hb
      rw [if_neg (b_var_f hb)] at H
      refine g_d rfl ?_
      refine Qaa (v:=bool false) rfl rfl rfl (g_d rfl ?_)
      try dsimp only [Qae,Qaf]
      refine Qab (Qad rfl (Qaw ?_))
      refine QaD ?_
      have hs:St _ [] _:=St.take (Γ':=[]) hs
      exact ha _ _ ⟨H,rfl,hs⟩
     intro hb
     rw [if_neg (b_dec_f hb)] at H
     refine g_d rfl ?_
     refine Qaa (v:=bool false) rfl rfl rfl (g_d rfl (Qag rfl rfl (g_d rfl (Qag rfl rfl (g_d rfl ?_)))))
     try dsimp only [Qae,Qaf]
     refine Qaa (v:=bool false) rfl rfl rfl (g_d rfl ?_)
     refine Qaa (v:=bool false) rfl rfl rfl (g_d rfl ?_)
     try dsimp only [Qae,Qaf]
     refine Qab (Qad rfl (Qaw ?_))
     refine QaD ?_
     have hs:St _ [] _:=St.take (Γ':=[]) hs
     exact ha _ _ ⟨H,rfl,hs⟩
    intro hb
    rw [if_neg (b_dec_f hb)] at H
    refine g_d rfl ?_
    refine Qaa (v:=bool false) rfl rfl rfl (g_d rfl (Qag rfl rfl (g_d rfl (Qag rfl rfl (g_d rfl ?_)))))
    try dsimp only [Qae,Qaf]
    refine Qaa (v:=bool false) rfl rfl rfl (g_d rfl ?_)
    refine Qaa (v:=bool false) rfl rfl rfl (g_d rfl ?_)
    try dsimp only [Qae,Qaf]
    refine Qab (Qad rfl (Qac (Qaj [0,1,2,3,4,5,6] rfl ?_)))
    refine Qaa (v:=int .i64 (i64w r3.2)) rfl rfl rfl (g_d rfl ?_)
    refine Qas (B:=decide ((i64w r3.2)≤64)) rfl rfl rfl ?_ ?_
    ·
     intro hb
     rw [if_pos (b_dec_t hb)] at H
     refine g_d rfl ?_
     refine Qaa (v:=bool true) rfl rfl rfl (g_d rfl ?_)
     refine Qaa (v:=string a1) rfl rfl rfl (g_d rfl ?_)
     obtain ⟨r32,Hr32,H⟩:=bind_get H
     refine QaA (args:=[string (⟨#[9,9,9,9,9,9,9,9,9,9,9,9,9,9,9,9,9,9,9,9,9,9,9,9,9,9,9,9,9,9,9,9,9,9,9,9,9,9,9,9,9,9,9,9,9,9,9,9,9,9,9,9,9,9,9,9,9,9,9,9,9,9,9,9]⟩:ByteArray),string a1]) rfl rfl (Qax rfl (callFunc_enter Tryd.func47 rfl rfl) rfl) (Qam.calls (a1:=(⟨#[9,9,9,9,9,9,9,9,9,9,9,9,9,9,9,9,9,9,9,9,9,9,9,9,9,9,9,9,9,9,9,9,9,9,9,9,9,9,9,9,9,9,9,9,9,9,9,9,9,9,9,9,9,9,9,9,9,9,9,9,9,9,9,9]⟩:ByteArray)) (a2:=a1) Hr32) ?_
     rintro _ w ⟨rfl,hs2⟩
     have hs:St _ [] _:=hs.call hs2
     refine g_d rfl ?_
     try dsimp only [Qae,Qaf]
     refine Qas (B:=r32) rfl rfl rfl ?_ ?_
     ·
      intro hb
      rw [if_pos (b_var_t hb)] at H
      refine g_d rfl ?_
      refine Qaa (v:=bool true) rfl rfl rfl (g_d rfl ?_)
      try dsimp only [Qae,Qaf]
      refine Qab (Qak rfl (Qac (Qaj [0,1,2] rfl ?_)))
      refine Qaa (v:=int .i64 (i64w r3.2)) rfl rfl rfl (g_d rfl ?_)
      obtain ⟨g,H⟩:=ite_get H
      refine Qaa (v:=string (subS (⟨#[9,9,9,9,9,9,9,9,9,9,9,9,9,9,9,9,9,9,9,9,9,9,9,9,9,9,9,9,9,9,9,9,9,9,9,9,9,9,9,9,9,9,9,9,9,9,9,9,9,9,9,9,9,9,9,9,9,9,9,9,9,9,9,9]⟩:ByteArray) 0 (i64w r3.2))) rfl rfl (QaM rfl rfl rfl (.inl ⟨rfl,rfl⟩) (.inr ⟨_,_,rfl,rfl⟩) g.1 g.2.1 g.2.2) (g_d rfl ?_)
      refine Qaa (v:=string (subS (⟨#[9,9,9,9,9,9,9,9,9,9,9,9,9,9,9,9,9,9,9,9,9,9,9,9,9,9,9,9,9,9,9,9,9,9,9,9,9,9,9,9,9,9,9,9,9,9,9,9,9,9,9,9,9,9,9,9,9,9,9,9,9,9,9,9]⟩:ByteArray) 0 (i64w r3.2))) rfl rfl rfl (g_d rfl ?_)
      try dsimp only [Qae,Qaf]
      refine Qab ?_
      obtain rfl:=QsJ H
      refine Qau Tryd.func22 (v:=string (subS (⟨#[9,9,9,9,9,9,9,9,9,9,9,9,9,9,9,9,9,9,9,9,9,9,9,9,9,9,9,9,9,9,9,9,9,9,9,9,9,9,9,9,9,9,9,9,9,9,9,9,9,9,9,9,9,9,9,9,9,9,9,9,9,9,9,9]⟩:ByteArray) 0 (i64w r3.2))) (res1 rfl rfl) ?_
      have hs:St _ [] _:=St.take (Γ':=[]) hs
      exact ⟨_,rfl,rfl,hs⟩
     intro hb
     rw [if_neg (b_var_f hb)] at H
     refine g_d rfl ?_
     refine Qaa (v:=bool false) rfl rfl rfl (g_d rfl ?_)
     try dsimp only [Qae,Qaf]
     refine Qab (Qad rfl (Qaw ?_))
     refine QaD ?_
     have hs:St _ [] _:=St.take (Γ':=[]) hs
     exact ha _ _ ⟨H,rfl,hs⟩
    intro hb
    rw [if_neg (b_dec_f hb)] at H
    refine g_d rfl ?_
    refine Qaa (v:=bool false) rfl rfl rfl (g_d rfl (Qag rfl rfl (g_d rfl (Qag rfl rfl (g_d rfl ?_)))))
    try dsimp only [Qae,Qaf]
    refine Qaa (v:=bool false) rfl rfl rfl (g_d rfl ?_)
    refine Qaa (v:=bool false) rfl rfl rfl (g_d rfl ?_)
    try dsimp only [Qae,Qaf]
    refine Qab (Qad rfl (Qaw ?_))
    refine QaD ?_
    have hs:St _ [] _:=St.take (Γ':=[]) hs
    exact ha _ _ ⟨H,rfl,hs⟩
   intro hb
   rw [if_neg (b_dec_f hb)] at H
   refine g_d rfl ?_
   refine Qaa (v:=bool false) rfl rfl rfl (g_d rfl (Qag rfl rfl (g_d rfl (Qag rfl rfl (g_d rfl ?_)))))
   try dsimp only [Qae,Qaf]
   refine Qaa (v:=bool false) rfl rfl rfl (g_d rfl ?_)
   refine Qaa (v:=bool false) rfl rfl rfl (g_d rfl ?_)
   try dsimp only [Qae,Qaf]
   refine Qab (Qad rfl (Qac (Qaj [0,1,2,3,4,5,6] rfl ?_)))
   refine Qaa (v:=int .i64 (i64w r3.2)) rfl rfl rfl (g_d rfl ?_)
   refine Qas (B:=decide ((i64w r3.2)≤128)) rfl rfl rfl ?_ ?_
   ·
    intro hb
    rw [if_pos (b_dec_t hb)] at H
    refine g_d rfl ?_
    refine Qaa (v:=bool true) rfl rfl rfl (g_d rfl ?_)
    refine Qaa (v:=string a1) rfl rfl rfl (g_d rfl ?_)
    obtain ⟨r33,Hr33,H⟩:=bind_get H
    refine QaA (args:=[string (⟨#[61,61,61,61,61,61,61,61,61,61,61,61,61,61,61,61,61,61,61,61,61,61,61,61,61,61,61,61,61,61,61,61,61,61,61,61,61,61,61,61,61,61,61,61,61,61,61,61,61,61,61,61,61,61,61,61,61,61,61,61,61,61,61,61,61,61,61,61,61,61,61,61,61,61,61,61,61,61,61,61,61,61,61,61,61,61,61,61,61,61,61,61,61,61,61,61,61,61,61,61,61,61,61,61,61,61,61,61,61,61,61,61,61,61,61,61,61,61,61,61,61,61,61,61,61,61,61,61]⟩:ByteArray),string a1]) rfl rfl (Qax rfl (callFunc_enter Tryd.func47 rfl rfl) rfl) (Qam.calls (a1:=(⟨#[61,61,61,61,61,61,61,61,61,61,61,61,61,61,61,61,61,61,61,61,61,61,61,61,61,61,61,61,61,61,61,61,61,61,61,61,61,61,61,61,61,61,61,61,61,61,61,61,61,61,61,61,61,61,61,61,61,61,61,61,61,61,61,61,61,61,61,61,61,61,61,61,61,61,61,61,61,61,61,61,61,61,61,61,61,61,61,61,61,61,61,61,61,61,61,61,61,61,61,61,61,61,61,61,61,61,61,61,61,61,61,61,61,61,61,61,61,61,61,61,61,61,61,61,61,61,61,61]⟩:ByteArray)) (a2:=a1) Hr33) ?_
    rintro _ w ⟨rfl,hs2⟩
    have hs:St _ [] _:=hs.call hs2
    refine g_d rfl ?_
    try dsimp only [Qae,Qaf]
    refine Qas (B:=r33) rfl rfl rfl ?_ ?_
    ·
     intro hb
     rw [if_pos (b_var_t hb)] at H
     refine g_d rfl ?_
     refine Qaa (v:=bool true) rfl rfl rfl (g_d rfl ?_)
     try dsimp only [Qae,Qaf]
     refine Qab (Qak rfl (Qac (Qaj [0,1,2] rfl ?_)))
     refine Qaa (v:=int .i64 (i64w r3.2)) rfl rfl rfl (g_d rfl ?_)
     obtain ⟨g,H⟩:=ite_get H
     refine Qaa (v:=string (subS (⟨#[61,61,61,61,61,61,61,61,61,61,61,61,61,61,61,61,61,61,61,61,61,61,61,61,61,61,61,61,61,61,61,61,61,61,61,61,61,61,61,61,61,61,61,61,61,61,61,61,61,61,61,61,61,61,61,61,61,61,61,61,61,61,61,61,61,61,61,61,61,61,61,61,61,61,61,61,61,61,61,61,61,61,61,61,61,61,61,61,61,61,61,61,61,61,61,61,61,61,61,61,61,61,61,61,61,61,61,61,61,61,61,61,61,61,61,61,61,61,61,61,61,61,61,61,61,61,61,61]⟩:ByteArray) 0 (i64w r3.2))) rfl rfl (QaM rfl rfl rfl (.inl ⟨rfl,rfl⟩) (.inr ⟨_,_,rfl,rfl⟩) g.1 g.2.1 g.2.2) ?_
     refine g_d rfl ?_
     refine Qaa (v:=string (subS (⟨#[61,61,61,61,61,61,61,61,61,61,61,61,61,61,61,61,61,61,61,61,61,61,61,61,61,61,61,61,61,61,61,61,61,61,61,61,61,61,61,61,61,61,61,61,61,61,61,61,61,61,61,61,61,61,61,61,61,61,61,61,61,61,61,61,61,61,61,61,61,61,61,61,61,61,61,61,61,61,61,61,61,61,61,61,61,61,61,61,61,61,61,61,61,61,61,61,61,61,61,61,61,61,61,61,61,61,61,61,61,61,61,61,61,61,61,61,61,61,61,61,61,61,61,61,61,61,61,61]⟩:ByteArray) 0 (i64w r3.2))) rfl rfl rfl ?_
     refine g_d rfl ?_
     try dsimp only [Qae,Qaf]
     refine Qab ?_
     obtain rfl:=QsJ H
     refine Qau Tryd.func22 (v:=string (subS (⟨#[61,61,61,61,61,61,61,61,61,61,61,61,61,61,61,61,61,61,61,61,61,61,61,61,61,61,61,61,61,61,61,61,61,61,61,61,61,61,61,61,61,61,61,61,61,61,61,61,61,61,61,61,61,61,61,61,61,61,61,61,61,61,61,61,61,61,61,61,61,61,61,61,61,61,61,61,61,61,61,61,61,61,61,61,61,61,61,61,61,61,61,61,61,61,61,61,61,61,61,61,61,61,61,61,61,61,61,61,61,61,61,61,61,61,61,61,61,61,61,61,61,61,61,61,61,61,61,61]⟩:ByteArray) 0 (i64w r3.2))) (res1 rfl rfl) ?_
     have hs:St _ [] _:=St.take (Γ':=[]) hs
     exact ⟨_,rfl,rfl,hs⟩
    intro hb
    rw [if_neg (b_var_f hb)] at H
    refine g_d rfl ?_
    refine Qaa (v:=bool false) rfl rfl rfl (g_d rfl ?_)
    try dsimp only [Qae,Qaf]
    refine Qab (Qad rfl (Qac (Qaj [0,1,2,3,4,5,6] rfl ?_)))
    refine Qaa (v:=int .i64 (i64w r3.2)) rfl rfl rfl (g_d rfl ?_)
    refine Qas (B:=decide ((i64w r3.2)≤64)) rfl rfl rfl ?_ ?_
    ·
     intro hb
     rw [if_pos (b_dec_t hb)] at H
     refine g_d rfl ?_
     refine Qaa (v:=bool true) rfl rfl rfl (g_d rfl ?_)
     refine Qaa (v:=string a1) rfl rfl rfl (g_d rfl ?_)
     obtain ⟨r34,Hr34,H⟩:=bind_get H
     refine QaA (args:=[string (⟨#[9,9,9,9,9,9,9,9,9,9,9,9,9,9,9,9,9,9,9,9,9,9,9,9,9,9,9,9,9,9,9,9,9,9,9,9,9,9,9,9,9,9,9,9,9,9,9,9,9,9,9,9,9,9,9,9,9,9,9,9,9,9,9,9]⟩:ByteArray),string a1]) rfl rfl (Qax rfl (callFunc_enter Tryd.func47 rfl rfl) rfl) (Qam.calls (a1:=(⟨#[9,9,9,9,9,9,9,9,9,9,9,9,9,9,9,9,9,9,9,9,9,9,9,9,9,9,9,9,9,9,9,9,9,9,9,9,9,9,9,9,9,9,9,9,9,9,9,9,9,9,9,9,9,9,9,9,9,9,9,9,9,9,9,9]⟩:ByteArray)) (a2:=a1) Hr34) ?_
     rintro _ w ⟨rfl,hs2⟩
     have hs:St _ [] _:=hs.call hs2
     refine g_d rfl ?_
     try dsimp only [Qae,Qaf]
     refine Qas (B:=r34) rfl rfl rfl ?_ ?_
     ·
      intro hb
      rw [if_pos (b_var_t hb)] at H
      refine g_d rfl ?_
      refine Qaa (v:=bool true) rfl rfl rfl (g_d rfl ?_)
      try dsimp only [Qae,Qaf]
      refine Qab (Qak rfl (Qac (Qaj [0,1,2] rfl ?_)))
      refine Qaa (v:=int .i64 (i64w r3.2)) rfl rfl rfl (g_d rfl ?_)
      obtain ⟨g,H⟩:=ite_get H
      refine Qaa (v:=string (subS (⟨#[9,9,9,9,9,9,9,9,9,9,9,9,9,9,9,9,9,9,9,9,9,9,9,9,9,9,9,9,9,9,9,9,9,9,9,9,9,9,9,9,9,9,9,9,9,9,9,9,9,9,9,9,9,9,9,9,9,9,9,9,9,9,9,9]⟩:ByteArray) 0 (i64w r3.2))) rfl rfl (QaM rfl rfl rfl (.inl ⟨rfl,rfl⟩) (.inr ⟨_,_,rfl,rfl⟩) g.1 g.2.1 g.2.2) (g_d rfl ?_)
      refine Qaa (v:=string (subS (⟨#[9,9,9,9,9,9,9,9,9,9,9,9,9,9,9,9,9,9,9,9,9,9,9,9,9,9,9,9,9,9,9,9,9,9,9,9,9,9,9,9,9,9,9,9,9,9,9,9,9,9,9,9,9,9,9,9,9,9,9,9,9,9,9,9]⟩:ByteArray) 0 (i64w r3.2))) rfl rfl rfl (g_d rfl ?_)
      try dsimp only [Qae,Qaf]
      refine Qab ?_
      obtain rfl:=QsJ H
      refine Qau Tryd.func22 (v:=string (subS (⟨#[9,9,9,9,9,9,9,9,9,9,9,9,9,9,9,9,9,9,9,9,9,9,9,9,9,9,9,9,9,9,9,9,9,9,9,9,9,9,9,9,9,9,9,9,9,9,9,9,9,9,9,9,9,9,9,9,9,9,9,9,9,9,9,9]⟩:ByteArray) 0 (i64w r3.2))) (res1 rfl rfl) ?_
      have hs:St _ [] _:=St.take (Γ':=[]) hs
      exact ⟨_,rfl,rfl,hs⟩
     intro hb
     rw [if_neg (b_var_f hb)] at H
     refine g_d rfl ?_
     refine Qaa (v:=bool false) rfl rfl rfl (g_d rfl ?_)
     try dsimp only [Qae,Qaf]
     refine Qab (Qad rfl (Qaw ?_))
     refine QaD ?_
     have hs:St _ [] _:=St.take (Γ':=[]) hs
     exact ha _ _ ⟨H,rfl,hs⟩
    intro hb
    rw [if_neg (b_dec_f hb)] at H
    refine g_d rfl ?_
    refine Qaa (v:=bool false) rfl rfl rfl (g_d rfl (Qag rfl rfl (g_d rfl (Qag rfl rfl (g_d rfl ?_)))))
    try dsimp only [Qae,Qaf]
    refine Qaa (v:=bool false) rfl rfl rfl (g_d rfl ?_)
    refine Qaa (v:=bool false) rfl rfl rfl (g_d rfl ?_)
    try dsimp only [Qae,Qaf]
    refine Qab (Qad rfl (Qaw ?_))
    refine QaD ?_
    have hs:St _ [] _:=St.take (Γ':=[]) hs
    exact ha _ _ ⟨H,rfl,hs⟩
   intro hb
   rw [if_neg (b_dec_f hb)] at H
   refine g_d rfl ?_
   refine Qaa (v:=bool false) rfl rfl rfl (g_d rfl (Qag rfl rfl (g_d rfl (Qag rfl rfl (g_d rfl ?_)))))
   try dsimp only [Qae,Qaf]
   refine Qaa (v:=bool false) rfl rfl rfl (g_d rfl ?_)
   refine Qaa (v:=bool false) rfl rfl rfl (g_d rfl ?_)
   try dsimp only [Qae,Qaf]
   refine Qab (Qad rfl (Qac (Qaj [0,1,2,3,4,5,6] rfl ?_)))
   refine Qaa (v:=int .i64 (i64w r3.2)) rfl rfl rfl (g_d rfl ?_)
   refine Qas (B:=decide ((i64w r3.2)≤64)) rfl rfl rfl ?_ ?_
   ·
    intro hb
    rw [if_pos (b_dec_t hb)] at H
    refine g_d rfl ?_
    refine Qaa (v:=bool true) rfl rfl rfl (g_d rfl ?_)
    refine Qaa (v:=string a1) rfl rfl rfl (g_d rfl ?_)
    obtain ⟨r35,Hr35,H⟩:=bind_get H
    refine QaA (args:=[string (⟨#[9,9,9,9,9,9,9,9,9,9,9,9,9,9,9,9,9,9,9,9,9,9,9,9,9,9,9,9,9,9,9,9,9,9,9,9,9,9,9,9,9,9,9,9,9,9,9,9,9,9,9,9,9,9,9,9,9,9,9,9,9,9,9,9]⟩:ByteArray),string a1]) rfl rfl (Qax rfl (callFunc_enter Tryd.func47 rfl rfl) rfl) (Qam.calls (a1:=(⟨#[9,9,9,9,9,9,9,9,9,9,9,9,9,9,9,9,9,9,9,9,9,9,9,9,9,9,9,9,9,9,9,9,9,9,9,9,9,9,9,9,9,9,9,9,9,9,9,9,9,9,9,9,9,9,9,9,9,9,9,9,9,9,9,9]⟩:ByteArray)) (a2:=a1) Hr35) ?_
    rintro _ w ⟨rfl,hs2⟩
    have hs:St _ [] _:=hs.call hs2
    refine g_d rfl ?_
    try dsimp only [Qae,Qaf]
    refine Qas (B:=r35) rfl rfl rfl ?_ ?_
    ·
     intro hb
     rw [if_pos (b_var_t hb)] at H
     refine g_d rfl ?_
     refine Qaa (v:=bool true) rfl rfl rfl (g_d rfl ?_)
     try dsimp only [Qae,Qaf]
     refine Qab (Qak rfl (Qac (Qaj [0,1,2] rfl ?_)))
     refine Qaa (v:=int .i64 (i64w r3.2)) rfl rfl rfl (g_d rfl ?_)
     obtain ⟨g,H⟩:=ite_get H
     refine Qaa (v:=string (subS (⟨#[9,9,9,9,9,9,9,9,9,9,9,9,9,9,9,9,9,9,9,9,9,9,9,9,9,9,9,9,9,9,9,9,9,9,9,9,9,9,9,9,9,9,9,9,9,9,9,9,9,9,9,9,9,9,9,9,9,9,9,9,9,9,9,9]⟩:ByteArray) 0 (i64w r3.2))) rfl rfl (QaM rfl rfl rfl (.inl ⟨rfl,rfl⟩) (.inr ⟨_,_,rfl,rfl⟩) g.1 g.2.1 g.2.2) (g_d rfl ?_)
     refine Qaa (v:=string (subS (⟨#[9,9,9,9,9,9,9,9,9,9,9,9,9,9,9,9,9,9,9,9,9,9,9,9,9,9,9,9,9,9,9,9,9,9,9,9,9,9,9,9,9,9,9,9,9,9,9,9,9,9,9,9,9,9,9,9,9,9,9,9,9,9,9,9]⟩:ByteArray) 0 (i64w r3.2))) rfl rfl rfl (g_d rfl ?_)
     try dsimp only [Qae,Qaf]
     refine Qab ?_
     obtain rfl:=QsJ H
     refine Qau Tryd.func22 (v:=string (subS (⟨#[9,9,9,9,9,9,9,9,9,9,9,9,9,9,9,9,9,9,9,9,9,9,9,9,9,9,9,9,9,9,9,9,9,9,9,9,9,9,9,9,9,9,9,9,9,9,9,9,9,9,9,9,9,9,9,9,9,9,9,9,9,9,9,9]⟩:ByteArray) 0 (i64w r3.2))) (res1 rfl rfl) ?_
     have hs:St _ [] _:=St.take (Γ':=[]) hs
     exact ⟨_,rfl,rfl,hs⟩
    intro hb
    rw [if_neg (b_var_f hb)] at H
    refine g_d rfl ?_
    refine Qaa (v:=bool false) rfl rfl rfl (g_d rfl ?_)
    try dsimp only [Qae,Qaf]
    refine Qab (Qad rfl (Qaw ?_))
    refine QaD ?_
    have hs:St _ [] _:=St.take (Γ':=[]) hs
    exact ha _ _ ⟨H,rfl,hs⟩
   intro hb
   rw [if_neg (b_dec_f hb)] at H
   refine g_d rfl ?_
   refine Qaa (v:=bool false) rfl rfl rfl (g_d rfl (Qag rfl rfl (g_d rfl (Qag rfl rfl (g_d rfl ?_)))))
   try dsimp only [Qae,Qaf]
   refine Qaa (v:=bool false) rfl rfl rfl (g_d rfl ?_)
   refine Qaa (v:=bool false) rfl rfl rfl (g_d rfl ?_)
   try dsimp only [Qae,Qaf]
   refine Qab (Qad rfl (Qaw ?_))
   refine QaD ?_
   have hs:St _ [] _:=St.take (Γ':=[]) hs
   exact ha _ _ ⟨H,rfl,hs⟩
  intro hb
  rw [if_neg (b_var_f hb)] at H
  refine Qaw ?_
  refine QaD ?_
  have hs:St _ [] _:=St.take (Γ':=[]) hs
  exact ha _ _ ⟨H,rfl,hs⟩
 intro ha
 refine Qaj [0,1] rfl ?_
 refine Qas (B:=(btS a1 0)==32) rfl rfl rfl ?_ ?_
 ·
  intro hb
  rw [if_pos (b_beq_t hb)] at H
  refine g_d rfl ?_
  refine Qaa (v:=bool true) rfl rfl rfl (g_d rfl ?_)
  try dsimp only [Qae,Qaf]
  refine Qab (Qak rfl (Qaw ?_))
  have hs:St _ [] _:=St.take (Γ':=[]) hs
  exact ha _ _ ⟨true,H,rfl,hs⟩
 intro hb
 rw [if_neg (b_beq_f hb)] at H
 refine g_d rfl ?_
 refine Qaa (v:=bool false) rfl rfl rfl (g_d rfl ?_)
 try dsimp only [Qae,Qaf]
 refine Qab (Qad rfl (Qac (Qaj [0,1] rfl ?_)))
 refine Qas (B:=(btS a1 0)==45) rfl rfl rfl ?_ ?_
 ·
  intro hb
  rw [if_pos (b_beq_t hb)] at H
  refine g_d rfl ?_
  refine Qaa (v:=bool true) rfl rfl rfl (g_d rfl ?_)
  try dsimp only [Qae,Qaf]
  refine Qab (Qak rfl (Qaw ?_))
  have hs:St _ [] _:=St.take (Γ':=[]) hs
  exact ha _ _ ⟨true,H,rfl,hs⟩
 intro hb
 rw [if_neg (b_beq_f hb)] at H
 refine g_d rfl ?_
 refine Qaa (v:=bool false) rfl rfl rfl (g_d rfl ?_)
 try dsimp only [Qae,Qaf]
 refine Qab (Qad rfl (Qac (Qaj [0,1] rfl ?_)))
 refine Qas (B:=(btS a1 0)==48) rfl rfl rfl ?_ ?_
 ·
  intro hb
  rw [if_pos (b_beq_t hb)] at H
  refine g_d rfl ?_
  refine Qaa (v:=bool true) rfl rfl rfl (g_d rfl ?_)
  try dsimp only [Qae,Qaf]
  refine Qab (Qak rfl (Qaw ?_))
  have hs:St _ [] _:=St.take (Γ':=[]) hs
  exact ha _ _ ⟨true,H,rfl,hs⟩
 intro hb
 rw [if_neg (b_beq_f hb)] at H
 refine g_d rfl ?_
 refine Qaa (v:=bool false) rfl rfl rfl (g_d rfl ?_)
 try dsimp only [Qae,Qaf]
 refine Qab (Qad rfl (Qac (Qaj [0,1] rfl ?_)))
 refine Qas (B:=(btS a1 0)==61) rfl rfl rfl ?_ ?_
 ·
  intro hb
  rw [if_pos (b_beq_t hb)] at H
  refine g_d rfl ?_
  refine Qaa (v:=bool true) rfl rfl rfl (g_d rfl ?_)
  try dsimp only [Qae,Qaf]
  refine Qab (Qak rfl (Qaw ?_))
  have hs:St _ [] _:=St.take (Γ':=[]) hs
  exact ha _ _ ⟨true,H,rfl,hs⟩
 intro hb
 rw [if_neg (b_beq_f hb)] at H
 refine g_d rfl ?_
 refine Qaa (v:=bool false) rfl rfl rfl (g_d rfl ?_)
 try dsimp only [Qae,Qaf]
 refine Qab (Qad rfl (Qaj [0,1] rfl ?_))
 refine Qas (B:=(btS a1 0)==9) rfl rfl rfl ?_ ?_
 ·
  intro hb
  rw [if_pos (b_beq_t hb)] at H
  refine g_d rfl ?_
  refine Qaa (v:=bool true) rfl rfl rfl (g_d rfl ?_)
  try dsimp only [Qae,Qaf]
  refine Qab ?_
  have hs:St _ [] _:=St.take (Γ':=[]) hs
  exact ha _ _ ⟨true,H,rfl,hs⟩
 intro hb
 rw [if_neg (b_beq_f hb)] at H
 refine g_d rfl ?_
 refine Qaa (v:=bool false) rfl rfl rfl (g_d rfl ?_)
 try dsimp only [Qae,Qaf]
 refine Qab ?_
 have hs:St _ [] _:=St.take (Γ':=[]) hs
 exact ha _ _ ⟨false,H,rfl,hs⟩
end Go.Proofs.YtljkpeeabpdalaaDoorX
