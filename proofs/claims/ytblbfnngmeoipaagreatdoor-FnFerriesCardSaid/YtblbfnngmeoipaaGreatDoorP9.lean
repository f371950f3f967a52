import Derived.Test.YtblbfnngmeoipaaGreatDoorP7
namespace Go.Proofs.YtblbfnngmeoipaaGreatDoorX
open Go Go.RowKit Go.Proofs
open Go.Value (int pointer bool agg slice string tuple)
set_option maxHeartbeats 8000000
set_option maxRecDepth 100000
set_option linter.unusedVariables false
set_option linter.unusedSimpArgs false
def bits_Mul64.post (w0:World) (r:(Int×Int)) (v:Value) (w:World):Prop:=v=tuple #[int .u64 r.1,int .u64 r.2]∧St w0 [] w
theorem bits_Mul64.calls {N:Nat} {a1:Int} {a2:Int} {w0:World} {r:(Int×Int)} (H:bits_Mul64.f N a1 a2=some r):
 Calls Tryz.prog 112 #[int .u64 a1,int .u64 a2] w0 fun e w=>∃ v,e= .returned v∧bits_Mul64.post w0 r v w:=by
 unfold bits_Mul64.f at H
 have hs:St w0 [] w0:=St.refl w0
 refine calls_of_g (n:=49) Tryz.func112 rfl rfl ?_
 show G _ _ _ _ [_,_,_,_,_,_,_,_,_,_,_,_,_,_,_,_,_,_,_,_,_,_,_,_,_,_,_,_,_,_,_,_,_,_,_,_,_,_,_,_,_,_,_,_,_,_,_,_,_,_,_] _
 refine Qaj (Qan [0,1] rfl ?_)
 refine Qab (v:=int .u64 0) rfl rfl rfl ?_
 show G _ _ _ _ [_,_,_,_,_,_,_,_,_,_,_,_,_,_,_,_,_,_,_,_,_,_,_,_,_,_,_,_,_,_,_,_,_,_,_,_,_,_,_,_,_,_,_,_,_,_,_,_,_,_,_] _
 refine Qab (v:=int .u64 0) rfl rfl rfl (Qac (Qaj (Qan [0,1,2] rfl ?_)))
 refine Qab (v:=int .u64 a1) rfl rfl rfl ?_
 refine Qab (v:=int .u64 (bAnd .u64 a1 4294967295)) rfl rfl rfl ?_
 refine Qab (v:=int .u64 (bAnd .u64 a1 4294967295)) rfl rfl rfl ?_
 show G _ _ _ _ [_,_,_,_,_,_,_,_,_,_,_,_,_,_,_,_,_,_,_,_,_,_,_,_,_,_,_,_,_,_,_,_,_,_,_,_,_,_,_,_,_,_,_,_,_,_,_,_,_,_,_] _
 refine Qac (Qaj (Qan [0,1,2] rfl ?_))
 refine Qab (v:=int .u64 a1) rfl rfl rfl ?_
 refine Qab (v:=int .u64 (shrI .u64 a1 32)) rfl rfl rfl ?_
 refine Qab (v:=int .u64 (shrI .u64 a1 32)) rfl rfl rfl (Qac (Qaj (Qan [0,1,2] rfl ?_)))
 refine Qab (v:=int .u64 a2) rfl rfl rfl ?_
 refine Qab (v:=int .u64 (bAnd .u64 a2 4294967295)) rfl rfl rfl ?_
 show G _ _ _ _ [_,_,_,_,_,_,_,_,_,_,_,_,_,_,_,_,_,_,_,_,_,_,_,_,_,_,_,_,_,_,_,_,_,_,_,_,_,_,_,_,_,_,_,_,_,_,_,_,_,_,_] _
 refine Qab (v:=int .u64 (bAnd .u64 a2 4294967295)) rfl rfl rfl (Qac (Qaj (Qan [0,1,2] rfl ?_)))
 refine Qab (v:=int .u64 a2) rfl rfl rfl ?_
 refine Qab (v:=int .u64 (shrI .u64 a2 32)) rfl rfl rfl ?_
 refine Qab (v:=int .u64 (shrI .u64 a2 32)) rfl rfl rfl ?_
 show G _ _ _ _ [_,_,_,_,_,_,_,_,_,_,_,_,_,_,_,_,_,_,_,_,_,_,_,_,_,_,_,_,_,_,_,_,_,_,_,_,_,_,_,_,_,_,_,_,_,_,_,_,_,_,_] _
 refine Qac (Qaj (Qan [0,1,2,3] rfl ?_))
 refine Qab (v:=int .u64 (bAnd .u64 a1 4294967295)) rfl rfl rfl ?_
 refine Qab (v:=int .u64 (bAnd .u64 a2 4294967295)) rfl rfl rfl ?_
 refine Qab (v:=int .u64 (u64w ((bAnd .u64 a1 4294967295)*(bAnd .u64 a2 4294967295)))) rfl rfl rfl ?_
 refine Qab (v:=int .u64 (u64w ((bAnd .u64 a1 4294967295)*(bAnd .u64 a2 4294967295)))) rfl rfl rfl (Qac (Qaj (Qan [0,1,2,3,4,5,6] rfl ?_)))
 refine Qab (v:=int .u64 (shrI .u64 a1 32)) rfl rfl rfl ?_
 refine Qab (v:=int .u64 (bAnd .u64 a2 4294967295)) rfl rfl rfl ?_
 refine Qab (v:=int .u64 (u64w ((shrI .u64 a1 32)*(bAnd .u64 a2 4294967295)))) rfl rfl rfl ?_
 show G _ _ _ _ [_,_,_,_,_,_,_,_,_,_,_,_,_,_,_,_,_,_,_,_,_,_,_,_,_,_,_,_,_,_,_,_,_,_,_,_,_,_,_,_,_,_,_,_,_,_,_,_,_,_,_] _
 refine Qab (v:=int .u64 (u64w ((bAnd .u64 a1 4294967295)*(bAnd .u64 a2 4294967295)))) rfl rfl rfl ?_
 refine Qab (v:=int .u64 (shrI .u64 (u64w ((bAnd .u64 a1 4294967295)*(bAnd .u64 a2 4294967295))) 32)) rfl rfl rfl ?_
 refine Qab (v:=int .u64 (u64w ((u64w ((shrI .u64 a1 32)*(bAnd .u64 a2 4294967295)))+(shrI .u64 (u64w ((bAnd .u64 a1 4294967295)*(bAnd .u64 a2 4294967295))) 32)))) rfl rfl rfl ?_
 refine Qab (v:=int .u64 (u64w ((u64w ((shrI .u64 a1 32)*(bAnd .u64 a2 4294967295)))+(shrI .u64 (u64w ((bAnd .u64 a1 4294967295)*(bAnd .u64 a2 4294967295))) 32)))) rfl rfl rfl ?_
 show G _ _ _ _ [_,_,_,_,_,_,_,_,_,_,_,_,_,_,_,_,_,_,_,_,_,_,_,_,_,_,_,_,_,_,_,_,_,_,_,_,_,_,_,_,_,_,_,_,_,_,_,_,_,_,_] _
 refine Qac (Qaj (Qan [0,1,2] rfl ?_))
 refine Qab (v:=int .u64 (u64w ((u64w ((shrI .u64 a1 32)*(bAnd .u64 a2 4294967295)))+(shrI .u64 (u64w ((bAnd .u64 a1 4294967295)*(bAnd .u64 a2 4294967295))) 32)))) rfl rfl rfl ?_
 refine Qab (v:=int .u64 (bAnd .u64 (u64w ((u64w ((shrI .u64 a1 32)*(bAnd .u64 a2 4294967295)))+(shrI .u64 (u64w ((bAnd .u64 a1 4294967295)*(bAnd .u64 a2 4294967295))) 32))) 4294967295)) rfl rfl rfl ?_
 refine Qab (v:=int .u64 (bAnd .u64 (u64w ((u64w ((shrI .u64 a1 32)*(bAnd .u64 a2 4294967295)))+(shrI .u64 (u64w ((bAnd .u64 a1 4294967295)*(bAnd .u64 a2 4294967295))) 32))) 4294967295)) rfl rfl rfl (Qac (Qaj (Qan [0,1,2] rfl ?_)))
 refine Qab (v:=int .u64 (u64w ((u64w ((shrI .u64 a1 32)*(bAnd .u64 a2 4294967295)))+(shrI .u64 (u64w ((bAnd .u64 a1 4294967295)*(bAnd .u64 a2 4294967295))) 32)))) rfl rfl rfl ?_
 refine Qab (v:=int .u64 (shrI .u64 (u64w ((u64w ((shrI .u64 a1 32)*(bAnd .u64 a2 4294967295)))+(shrI .u64 (u64w ((bAnd .u64 a1 4294967295)*(bAnd .u64 a2 4294967295))) 32))) 32)) rfl rfl rfl ?_
 show G _ _ _ _ [_,_,_,_,_,_,_,_,_,_,_,_,_,_,_,_,_,_,_,_,_,_,_,_,_,_,_,_,_,_,_,_,_,_,_,_,_,_,_,_,_,_,_,_,_,_,_,_,_,_,_] _
 refine Qab (v:=int .u64 (shrI .u64 (u64w ((u64w ((shrI .u64 a1 32)*(bAnd .u64 a2 4294967295)))+(shrI .u64 (u64w ((bAnd .u64 a1 4294967295)*(bAnd .u64 a2 4294967295))) 32))) 32)) rfl rfl rfl (Qac (Qaj (Qan [0,1,2,3,4,5] rfl ?_)))
 refine Qab (v:=int .u64 (bAnd .u64 (u64w ((u64w ((shrI .u64 a1 32)*(bAnd .u64 a2 4294967295)))+(shrI .u64 (u64w ((bAnd .u64 a1 4294967295)*(bAnd .u64 a2 4294967295))) 32))) 4294967295)) rfl rfl rfl ?_
 refine Qab (v:=int .u64 (bAnd .u64 a1 4294967295)) rfl rfl rfl ?_
 refine Qab (v:=int .u64 (shrI .u64 a2 32)) rfl rfl rfl ?_
 refine Qab (v:=int .u64 (u64w ((bAnd .u64 a1 4294967295)*(shrI .u64 a2 32)))) rfl rfl rfl ?_
 refine Qab (v:=int .u64 (u64w ((bAnd .u64 (u64w ((u64w ((shrI .u64 a1 32)*(bAnd .u64 a2 4294967295)))+(shrI .u64 (u64w ((bAnd .u64 a1 4294967295)*(bAnd .u64 a2 4294967295))) 32))) 4294967295)+(u64w ((bAnd .u64 a1 4294967295)*(shrI .u64 a2 32)))))) rfl rfl rfl ?_
 show G _ _ _ _ [_,_,_,_,_,_,_,_,_,_,_,_,_,_,_,_,_,_,_,_,_,_,_,_,_,_,_,_,_,_,_,_,_,_,_,_,_,_,_,_,_,_,_,_,_,_,_,_,_,_,_] _
 refine Qab (v:=int .u64 (u64w ((bAnd .u64 (u64w ((u64w ((shrI .u64 a1 32)*(bAnd .u64 a2 4294967295)))+(shrI .u64 (u64w ((bAnd .u64 a1 4294967295)*(bAnd .u64 a2 4294967295))) 32))) 4294967295)+(u64w ((bAnd .u64 a1 4294967295)*(shrI .u64 a2 32)))))) rfl rfl rfl (Qac (Qaj (Qan [0,1,2,3,4,5,6,7,8] rfl ?_)))
 refine Qab (v:=int .u64 (shrI .u64 a1 32)) rfl rfl rfl ?_
 refine Qab (v:=int .u64 (shrI .u64 a2 32)) rfl rfl rfl ?_
 refine Qab (v:=int .u64 (u64w ((shrI .u64 a1 32)*(shrI .u64 a2 32)))) rfl rfl rfl ?_
 refine Qab (v:=int .u64 (shrI .u64 (u64w ((u64w ((shrI .u64 a1 32)*(bAnd .u64 a2 4294967295)))+(shrI .u64 (u64w ((bAnd .u64 a1 4294967295)*(bAnd .u64 a2 4294967295))) 32))) 32)) rfl rfl rfl ?_
 refine Qab (v:=int .u64 (u64w ((u64w ((shrI .u64 a1 32)*(shrI .u64 a2 32)))+(shrI .u64 (u64w ((u64w ((shrI .u64 a1 32)*(bAnd .u64 a2 4294967295)))+(shrI .u64 (u64w ((bAnd .u64 a1 4294967295)*(bAnd .u64 a2 4294967295))) 32))) 32)))) rfl rfl rfl ?_
 show G _ _ _ _ [_,_,_,_,_,_,_,_,_,_,_,_,_,_,_,_,_,_,_,_,_,_,_,_,_,_,_,_,_,_,_,_,_,_,_,_,_,_,_,_,_,_,_,_,_,_,_,_,_,_,_] _
 refine Qab (v:=int .u64 (u64w ((bAnd .u64 (u64w ((u64w ((shrI .u64 a1 32)*(bAnd .u64 a2 4294967295)))+(shrI .u64 (u64w ((bAnd .u64 a1 4294967295)*(bAnd .u64 a2 4294967295))) 32))) 4294967295)+(u64w ((bAnd .u64 a1 4294967295)*(shrI .u64 a2 32)))))) rfl rfl rfl ?_
 refine Qab (v:=int .u64 (shrI .u64 (u64w ((bAnd .u64 (u64w ((u64w ((shrI .u64 a1 32)*(bAnd .u64 a2 4294967295)))+(shrI .u64 (u64w ((bAnd .u64 a1 4294967295)*(bAnd .u64 a2 4294967295))) 32))) 4294967295)+(u64w ((bAnd .u64 a1 4294967295)*(shrI .u64 a2 32))))) 32)) rfl rfl rfl ?_
 refine Qab (v:=int .u64 (u64w ((u64w ((u64w ((shrI .u64 a1 32)*(shrI .u64 a2 32)))+(shrI .u64 (u64w ((u64w ((shrI .u64 a1 32)*(bAnd .u64 a2 4294967295)))+(shrI .u64 (u64w ((bAnd .u64 a1 4294967295)*(bAnd .u64 a2 4294967295))) 32))) 32)))+(shrI .u64 (u64w ((bAnd .u64 (u64w ((u64w ((shrI .u64 a1 32)*(bAnd .u64 a2 4294967295)))+(shrI .u64 (u64w ((bAnd .u64 a1 4294967295)*(bAnd .u64 a2 4294967295))) 32))) 4294967295)+(u64w ((bAnd .u64 a1 4294967295)*(shrI .u64 a2 32))))) 32)))) rfl rfl rfl ?_
 refine Qab (v:=int .u64 (u64w ((u64w ((u64w ((shrI .u64 a1 32)*(shrI .u64 a2 32)))+(shrI .u64 (u64w ((u64w ((shrI .u64 a1 32)*(bAnd .u64 a2 4294967295)))+(shrI .u64 (u64w ((bAnd .u64 a1 4294967295)*(bAnd .u64 a2 4294967295))) 32))) 32)))+(shrI .u64 (u64w ((bAnd .u64 (u64w ((u64w ((shrI .u64 a1 32)*(bAnd .u64 a2 4294967295)))+(shrI .u64 (u64w ((bAnd .u64 a1 4294967295)*(bAnd .u64 a2 4294967295))) 32))) 4294967295)+(u64w ((bAnd .u64 a1 4294967295)*(shrI .u64 a2 32))))) 32)))) rfl rfl rfl ?_
 show G _ _ _ _ [_,_,_,_,_,_,_,_,_,_,_,_,_,_,_,_,_,_,_,_,_,_,_,_,_,_,_,_,_,_,_,_,_,_,_,_,_,_,_,_,_,_,_,_,_,_,_,_,_,_,_] _
 refine Qac (Qaj (Qan [0,1,2,3] rfl ?_))
 refine Qab (v:=int .u64 a1) rfl rfl rfl ?_
 refine Qab (v:=int .u64 a2) rfl rfl rfl ?_
 refine Qab (v:=int .u64 (u64w (a1*a2))) rfl rfl rfl ?_
 refine Qab (v:=int .u64 (u64w (a1*a2))) rfl rfl rfl (Qac ?_)
 obtain rfl:=QsJ H
 refine QaB Tryz.func112 (v:=tuple #[int .u64 (u64w ((u64w ((u64w ((shrI .u64 a1 32)*(shrI .u64 a2 32)))+(shrI .u64 (u64w ((u64w ((shrI .u64 a1 32)*(bAnd .u64 a2 4294967295)))+(shrI .u64 (u64w ((bAnd .u64 a1 4294967295)*(bAnd .u64 a2 4294967295))) 32))) 32)))+(shrI .u64 (u64w ((bAnd .u64 (u64w ((u64w ((shrI .u64 a1 32)*(bAnd .u64 a2 4294967295)))+(shrI .u64 (u64w ((bAnd .u64 a1 4294967295)*(bAnd .u64 a2 4294967295))) 32))) 4294967295)+(u64w ((bAnd .u64 a1 4294967295)*(shrI .u64 a2 32))))) 32))),int .u64 (u64w (a1*a2))]) (resN (l:=Tryz.f112.results.toList) (vs:=[int .u64 (u64w ((u64w ((u64w ((shrI .u64 a1 32)*(shrI .u64 a2 32)))+(shrI .u64 (u64w ((u64w ((shrI .u64 a1 32)*(bAnd .u64 a2 4294967295)))+(shrI .u64 (u64w ((bAnd .u64 a1 4294967295)*(bAnd .u64 a2 4294967295))) 32))) 32)))+(shrI .u64 (u64w ((bAnd .u64 (u64w ((u64w ((shrI .u64 a1 32)*(bAnd .u64 a2 4294967295)))+(shrI .u64 (u64w ((bAnd .u64 a1 4294967295)*(bAnd .u64 a2 4294967295))) 32))) 4294967295)+(u64w ((bAnd .u64 a1 4294967295)*(shrI .u64 a2 32))))) 32))),int .u64 (u64w (a1*a2))]) rfl ⟨rfl,rfl,trivial⟩ (by simp)) ?_
 have hs:St _ [] _:=St.take (Γ':=[]) hs
 exact ⟨_,rfl,rfl,hs⟩
def bits_Mul.post (w0:World) (r:(Int×Int)) (v:Value) (w:World):Prop:=v=tuple #[int .u64 r.1,int .u64 r.2]∧St w0 [] w
theorem bits_Mul.calls {N:Nat} {a1:Int} {a2:Int} {w0:World} {r:(Int×Int)} (H:bits_Mul.f N a1 a2=some r):
 Calls Tryz.prog 95 #[int .u64 a1,int .u64 a2] w0 fun e w=>∃ v,e= .returned v∧bits_Mul.post w0 r v w:=by
 unfold bits_Mul.f at H
 have hs:St w0 [] w0:=St.refl w0
 refine calls_of_g (n:=28) Tryz.func95 rfl rfl ?_
 show G _ _ _ _ [_,_,_,_,_,_,_,_,_,_,_,_,_,_,_,_,_,_,_,_,_,_,_,_,_,_,_,_,_,_] _
 refine Qaj (Qan [0,1] rfl ?_)
 refine Qab (v:=int .u64 0) rfl rfl rfl ?_
 refine Qab (v:=int .u64 0) rfl rfl rfl (Qac (Qaj (Qas rfl (QaK (Qaj (Qan [0,1,2,3,4,5,6,7] rfl ?_))))))
 refine Qab (v:=int .u64 a1) rfl rfl rfl ?_
 refine Qab (v:=int .u64 a2) rfl rfl rfl ?_
 obtain ⟨r3,Hr3,H⟩:=bind_get H
 refine Qaz (args:=[int .u64 a1,int .u64 a2]) rfl rfl (QaA rfl (callFunc_enter Tryz.func112 rfl rfl) rfl) (bits_Mul64.calls (a1:=a1) (a2:=a2) Hr3) ?_
 rintro _ w ⟨rfl,hs2⟩
 have hs:St _ [] _:=hs.call hs2
 show G _ _ _ _ [_,_,_,_,_,_,_,_,_,_,_,_,_,_,_,_,_,_,_,_,_,_,_,_,_,_,_,_,_,_] _
 refine Qab (v:=tuple #[int .u64 r3.1,int .u64 r3.2]) rfl rfl rfl ?_
 refine Qab (v:=int .u64 r3.1) rfl rfl rfl ?_
 refine Qab (v:=int .u64 r3.2) rfl rfl rfl ?_
 refine Qab (v:=int .u64 r3.1) rfl rfl rfl ?_
 refine Qab (v:=int .u64 r3.2) rfl rfl rfl (Qac (Qaj (Qan [0,1,2,3] rfl ?_)))
 refine Qab (v:=int .u64 r3.1) rfl rfl rfl ?_
 refine Qab (v:=int .u64 r3.2) rfl rfl rfl ?_
 refine Qab (v:=int .u64 r3.1) rfl rfl rfl ?_
 show G _ _ _ _ [_,_,_,_,_,_,_,_,_,_,_,_,_,_,_,_,_,_,_,_,_,_,_,_,_,_,_,_,_,_] _
 refine Qab (v:=int .u64 r3.2) rfl rfl rfl (Qac ?_)
 obtain rfl:=QsJ H
 refine QaB Tryz.func95 (v:=tuple #[int .u64 r3.1,int .u64 r3.2]) (resN (l:=Tryz.f95.results.toList) (vs:=[int .u64 r3.1,int .u64 r3.2]) rfl ⟨rfl,rfl,trivial⟩ (by simp)) ?_
 have hs:St _ [] _:=St.take (Γ':=[]) hs
 exact ⟨_,rfl,rfl,hs⟩
def QaO.post (w0:World) (r:(List Int)) (v:Value) (w:World):Prop:=St w0 [Row 86 (K.int .i16) v r] w
theorem QaO.calls {N:Nat} {a1:(List Int)} {a3:Int} {v2:Value} {w0:World} {r:(List Int)} (hr0:RdRow (K.int .i16) w0 v2 a1) (H:QaO.f N a1 a3=some r):
 Calls Tryz.prog 72 #[v2,int .i64 a3] w0 fun e w=>∃ v,e= .returned v∧QaO.post w0 r v w:=by
 unfold QaO.f at H
 have hs:St w0 [] w0:=St.refl w0
 refine calls_of_g (n:=46) Tryz.func72 rfl rfl ?_
 show G _ _ _ _ [_,_,_,_,_,_,_,_,_,_,_,_,_,_,_,_,_,_,_,_,_,_,_,_,_,_,_,_,_,_,_,_,_,_,_,_,_,_,_,_,_,_,_,_,_,_,_,_] _
 refine Qaj (Qan [0] rfl ?_)
 refine Qab (v:=slice none 0 0) rfl rfl rfl (Qac (Qaj (Qaj (Qan [0,1] rfl ?_))))
 refine Qab (v:=int .i64 a3) rfl rfl rfl ?_
 refine QaI (B:=decide (a3< 0)) rfl rfl rfl ?_ ?_
 ·
  intro hb
  rw [if_pos (b_dec_t hb)] at H
  refine Qac (Qaq rfl ?_)
  cases H
 intro hb
 rw [if_neg (b_dec_f hb)] at H
 show G _ _ _ _ [_,_,_,_,_,_,_,_,_,_,_,_,_,_,_,_,_,_,_,_,_,_,_,_,_,_,_,_,_,_,_,_,_,_,_,_,_,_,_,_,_,_,_,_,_,_,_,_] _
 refine Qac (Qas rfl (QaK (Qaj (Qan [0,1,2,3,4,5,6,7,8,9,10] rfl ?_))))
 refine Qab (v:=v2) rfl rfl rfl ?_
 refine QbC (hs.rd hr0) rfl rfl rfl rfl rfl ?_
 refine Qab (v:=int .u64 (u64w (a1.length:Int))) rfl rfl rfl ?_
 refine Qab (v:=int .i64 a3) rfl rfl rfl ?_
 refine Qab (v:=int .u64 (u64w a3)) rfl rfl rfl ?_
 obtain ⟨r4,Hr4,H⟩:=bind_get H
 refine Qaz (args:=[int .u64 (u64w (a1.length:Int)),int .u64 (u64w a3)]) rfl rfl (QaA rfl (callFunc_enter Tryz.func95 rfl rfl) rfl) (bits_Mul.calls (a1:=u64w (a1.length:Int)) (a2:=u64w a3) Hr4) ?_
 rintro _ w ⟨rfl,hs2⟩
 have hs:St _ [] _:=hs.call hs2
 refine Qab (v:=tuple #[int .u64 r4.1,int .u64 r4.2]) rfl rfl rfl ?_
 refine Qab (v:=int .u64 r4.1) rfl rfl rfl ?_
 refine Qab (v:=int .u64 r4.2) rfl rfl rfl ?_
 refine Qab (v:=int .u64 r4.1) rfl rfl rfl ?_
 show G _ _ _ _ [_,_,_,_,_,_,_,_,_,_,_,_,_,_,_,_,_,_,_,_,_,_,_,_,_,_,_,_,_,_,_,_,_,_,_,_,_,_,_,_,_,_,_,_,_,_,_,_] _
 refine Qab (v:=int .u64 r4.2) rfl rfl rfl (Qac (Qaj (Qaj (Qan [0,1,2,3,4,5] rfl ?_))))
 refine Qab (v:=int .u64 r4.1) rfl rfl rfl ?_
 refine QaI (B:=decide (r4.1>0)) rfl rfl rfl ?_ ?_
 ·
  intro hb
  rw [if_pos (b_dec_t hb)] at H
  refine Qab (v:=bool true) rfl rfl rfl (Qae rfl rfl (Qae rfl rfl ?_))
  show G _ _ _ _ [_,_,_,_,_,_,_,_,_,_,_,_,_,_,_,_,_,_,_,_,_,_,_,_,_,_,_,_,_,_,_,_,_,_,_,_,_,_,_,_,_,_,_,_,_,_,_,_] _
  refine Qab (v:=bool true) rfl rfl rfl (Qac (Qaq rfl ?_))
  cases H
 intro hb
 rw [if_neg (b_dec_f hb)] at H
 refine Qab (v:=bool false) rfl rfl rfl ?_
 refine Qab (v:=int .u64 r4.2) rfl rfl rfl ?_
 refine QaI (B:=decide (r4.2>9223372036854775807)) rfl rfl rfl ?_ ?_
 ·
  intro hb
  rw [if_pos (b_dec_t hb)] at H
  show G _ _ _ _ [_,_,_,_,_,_,_,_,_,_,_,_,_,_,_,_,_,_,_,_,_,_,_,_,_,_,_,_,_,_,_,_,_,_,_,_,_,_,_,_,_,_,_,_,_,_,_,_] _
  refine Qab (v:=bool true) rfl rfl rfl (Qac (Qaq rfl ?_))
  cases H
 intro hb
 rw [if_neg (b_dec_f hb)] at H
 show G _ _ _ _ [_,_,_,_,_,_,_,_,_,_,_,_,_,_,_,_,_,_,_,_,_,_,_,_,_,_,_,_,_,_,_,_,_,_,_,_,_,_,_,_,_,_,_,_,_,_,_,_] _
 refine Qab (v:=bool false) rfl rfl rfl (Qac (Qas rfl (QaK (Qaj (Qan [0,1,2,3] rfl ?_)))))
 refine Qab (v:=int .u64 r4.2) rfl rfl rfl ?_
 refine Qab (v:=int .i64 (i64w r4.2)) rfl rfl rfl ?_
 obtain ⟨g,H⟩:=ite_get H
 refine QcK (κ:=(K.int .i16)) (z:=0) (zc:=((encI .i16) 0)) (zv:=(int .i16 0)) (B:=2) hs rfl rfl rfl rfl rfl g.1 rfl rfl rfl rfl rfl (fun _=>⟨rfl,rfl⟩) rfl (by decide) (by have:=g.2;omega) ?_
 intro v5 w hs
 refine Qab (v:=v5) rfl rfl rfl ?_
 show G _ _ _ _ [_,_,_,_,_,_,_,_,_,_,_,_,_,_,_,_,_,_,_,_,_,_,_,_,_,_,_,_,_,_,_,_,_,_,_,_,_,_,_,_,_,_,_,_,_,_,_,_] _
 refine Qac (Qaj (Qan [0,1,2,3] rfl ?_))
 refine Qab (v:=v5) rfl rfl rfl ?_
 refine Qab (v:=v2) rfl rfl rfl ?_
 refine Qc4 (fkI .i16) (int .i16) (fun _=>rfl) rfl (lo:=(0:Int)) (hi:=((List.replicate ((i64w r4.2)).toNat (0:Int)).length:Int)) hs (hs.rd hr0) (Int.le_refl 0) (Int.natCast_nonneg _) (Int.le_refl _) rfl rfl rfl Tryz.underlying32 rfl (.inl ⟨rfl,rfl,rfl⟩) rfl ?_
 intro w hs
 refine Qab (v:=int .i64 (cpN (List.replicate ((i64w r4.2)).toNat (0:Int)) a1 (0:Int) ((List.replicate ((i64w r4.2)).toNat (0:Int)).length:Int):Int)) rfl rfl rfl (Qac (Qaj ?_))
 obtain ⟨o1_,Ho,Hr1_⟩:=bind_get H
 refine QaR (J:=fun t w=>∃ x10:(List Int),QaO.a0 N x10=some r∧Fr t (fun O=>([O 0,O 1,O 2,O 3,O 4,O 5,O 6,v5,O 8,O 9,O 10,O 11,O 12,O 13,O 14,O 15,O 16,O 17,O 18,O 19,O 20,O 21,O 22,O 23,O 24,O 25,O 26,O 27,O 28,O 29,O 30,O 31,O 32,O 33,O 34,O 35,O 36,O 37,O 38,O 39,O 40,O 41,O 42,O 43,O 44,O 45,O 46,O 47]:List Value))∧St w0 [Row 86 (K.int .i16) v5 x10] w) ?_ ?_
 ·
  rintro t w ⟨x10,H,hf,hs⟩
  obtain ⟨O,rfl⟩:=hf.open
  show G _ _ _ _ [_,_,_,_,_,_,_,_,_,_,_,_,_,_,_,_,_,_,_,_,_,_,_,_,_,_,_,_,_,_,_,_,_,_,_,_,_,_,_,_,_,_,_,_,_,_,_,_] _
  unfold QaO.a0 at H
  refine Qaj (Qan [0,1] rfl ?_)
  refine Qab (v:=v5) rfl rfl rfl ?_
  refine Qab (v:=v5) rfl rfl rfl ?_
  show G _ _ _ _ [_,_,_,_,_,_,_,_,_,_,_,_,_,_,_,_,_,_,_,_,_,_,_,_,_,_,_,_,_,_,_,_,_,_,_,_,_,_,_,_,_,_,_,_,_,_,_,_] _
  refine Qac ?_
  obtain rfl:=QsJ H
  refine QaB Tryz.func72 (v:=v5) (res1 rfl rfl) ?_
  have hs:=hs.pull 0 rfl
  have hs:St _ [_] _:=St.take (Γ':=[]) hs
  exact ⟨_,rfl,hs⟩
 intro ha1_
 have hs:=hs.pull 0 rfl
 have hs:St _ [_] _:=St.take (Γ':=[]) hs
 refine Qba (I:=fun n_ t w=>∃ x8:(List Int),∃ x9:Int,rounds (fun s=>QaO.b0 N s.1 s.2) n_ (x8,x9)=some o1_∧Fr t (fun O=>([O 0,O 1,O 2,O 3,O 4,O 5,O 6,v5,int .i64 x9,O 9,O 10,O 11,O 12,O 13,O 14,O 15,O 16,O 17,O 18,O 19,O 20,O 21,O 22,O 23,O 24,O 25,O 26,O 27,O 28,O 29,O 30,O 31,O 32,O 33,O 34,O 35,O 36,O 37,O 38,O 39,O 40,O 41,O 42,O 43,O 44,O 45,O 46,O 47]:List Value))∧St w0 [Row 86 (K.int .i16) v5 x8] w) N ⟨cpL (List.replicate ((i64w r4.2)).toNat (0:Int)) a1 (0:Int) ((List.replicate ((i64w r4.2)).toNat (0:Int)).length:Int),(cpN (List.replicate ((i64w r4.2)).toNat (0:Int)) a1 (0:Int) ((List.replicate ((i64w r4.2)).toNat (0:Int)).length:Int):Int),Ho,rfl,hs⟩ ?_ ?_
 ·
  rintro _ _ ⟨x8,x9,h,_⟩
  exact rounds_zero h
 intro n_ ih1_
 rintro t w ⟨x8,x9,Ho,hf,hs⟩
 obtain ⟨O,rfl⟩:=hf.open
 show G _ _ _ _ [_,_,_,_,_,_,_,_,_,_,_,_,_,_,_,_,_,_,_,_,_,_,_,_,_,_,_,_,_,_,_,_,_,_,_,_,_,_,_,_,_,_,_,_,_,_,_,_] _
 obtain ⟨x5_,H,Hx1_⟩:=rounds_succ Ho
 have H:QaO.b0 N x8 x9=some x5_:=H
 unfold QaO.b0 at H
 refine Qaj (Qaj (Qan [0,1,2,3] rfl ?_))
 refine Qab (v:=int .i64 x9) rfl rfl rfl ?_
 refine Qab (v:=v5) rfl rfl rfl ?_
 refine QbC (hs.row 0 rfl) rfl rfl rfl rfl rfl ?_
 show G _ _ _ _ [_,_,_,_,_,_,_,_,_,_,_,_,_,_,_,_,_,_,_,_,_,_,_,_,_,_,_,_,_,_,_,_,_,_,_,_,_,_,_,_,_,_,_,_,_,_,_,_] _
 refine QaI (B:=decide (x9< (x8.length:Int))) rfl rfl rfl ?_ ?_
 ·
  intro hb
  rw [if_pos (b_dec_t hb)] at H
  refine Qac (Qaq rfl (QaK ?_))
  refine QbG ?_
  obtain ⟨gd3,H⟩:=ite_get H
  obtain ⟨gd4,H⟩:=ite_get H
  refine QaV ?_
  intro T hT
  refine QbZ (n:=10) rfl [0,1,2,3,4,5,6,7,8,9] [0,1,2,3,4,5,6,7,8,9] rfl rfl (Inv:=fun D t w=>∃ O:Nat→Value,t=[O 0,O 1,O 2,O 3,O 4,O 5,O 6,v5,cnd (D 9) (int .i64 (i64w (x9+(cpN x8 ((x8.drop ((0:Int)).toNat).take ((x9).toNat - ((0:Int)).toNat)) x9 (x8.length:Int):Int)))) (int .i64 x9),O 9,O 10,O 11,O 12,O 13,O 14,O 15,O 16,O 17,O 18,O 19,O 20,O 21,O 22,O 23,O 24,O 25,O 26,O 27,O 28,O 29,O 30,O 31,O 32,O 33,int .i64 x9,v5,int .i64 (x8.length:Int),bool true,cnd (D 0) (int .i64 x9) (O 38),cnd (D 1) v5 (O 39),cnd (D 2) (int .i64 x9) (O 40),cnd (D 3) (subV v5 1 (x9).toNat ((x8.length:Int)).toNat) (O 41),cnd (D 4) v5 (O 42),cnd (D 5) (int .i64 x9) (O 43),cnd (D 6) (subV v5 1 ((0:Int)).toNat (x9).toNat) (O 44),cnd (D 7) (int .i64 (cpN x8 ((x8.drop ((0:Int)).toNat).take ((x9).toNat - ((0:Int)).toNat)) x9 (x8.length:Int):Int)) (O 45),cnd (D 8) (int .i64 (i64w (x9+(cpN x8 ((x8.drop ((0:Int)).toNat).take ((x9).toNat - ((0:Int)).toNat)) x9 (x8.length:Int):Int)))) (O 46),O 47]∧St w0 [Row 86 (K.int .i16) (cnd (D 7) v5 v5) (cnd (D 7) (cpL x8 ((x8.drop ((0:Int)).toNat).take ((x9).toNat - ((0:Int)).toNat)) x9 (x8.length:Int)) x8)] w) ?_ ⟨⟨⟨⟨⟨⟨⟨⟨⟨⟨trivial,?_⟩,?_⟩,?_⟩,?_⟩,?_⟩,?_⟩,?_⟩,?_⟩,?_⟩,?_⟩ ?_
  ·
   intro w hh hbw
   have hs:=hs.samew hh hbw
   exact ⟨fun i=>T.getD i undef,(by subst hT;rfl),hs⟩
  ·
   rintro D t w hD hp hcl ⟨O,ht,hs⟩ rest hk
   have q8_:=nz hcl 8 0 hD
   have q9_:=nz hcl 9 0 q8_
   simp only [hD,q8_,q9_,cq,oT] at ht hs
   subst ht
   refine Qab (v:=int .i64 x9) rfl rfl rfl ?_
   show G _ _ _ _ [_,_,_,_,_,_,_,_,_,_,_,_,_,_,_,_,_,_,_,_,_,_,_,_,_,_,_,_,_,_,_,_,_,_,_,_,_,_,_,_,_,_,_,_,_,_,_,_] _
   refine hk _ _ ⟨O,?_,hs.cast ?_⟩<;>simp only [oT,lq,cq,Nat.reduceBEq,q8_,q9_]
  ·
   rintro D t w hD hp hcl ⟨O,ht,hs⟩ rest hk
   have q3_:=nz hcl 3 0 hD
   have q7_:=nz hcl 7 0 q3_
   have q8_:=nz hcl 8 1 q7_
   have q9_:=nz hcl 9 0 q8_
   simp only [hD,q3_,q7_,q8_,q9_,cq,oT] at ht hs
   subst ht
   refine Qab (v:=v5) rfl rfl rfl ?_
   show G _ _ _ _ [_,_,_,_,_,_,_,_,_,_,_,_,_,_,_,_,_,_,_,_,_,_,_,_,_,_,_,_,_,_,_,_,_,_,_,_,_,_,_,_,_,_,_,_,_,_,_,_] _
   refine hk _ _ ⟨O,?_,hs.cast ?_⟩<;>simp only [oT,lq,cq,Nat.reduceBEq,q3_,q7_,q8_,q9_]
  ·
   rintro D t w hD hp hcl ⟨O,ht,hs⟩ rest hk
   have q3_:=nz hcl 3 1 hD
   have q7_:=nz hcl 7 0 q3_
   have q8_:=nz hcl 8 1 q7_
   have q9_:=nz hcl 9 0 q8_
   simp only [hD,q3_,q7_,q8_,q9_,cq,oT] at ht hs
   subst ht
   refine Qab (v:=int .i64 x9) rfl rfl rfl ?_
   show G _ _ _ _ [_,_,_,_,_,_,_,_,_,_,_,_,_,_,_,_,_,_,_,_,_,_,_,_,_,_,_,_,_,_,_,_,_,_,_,_,_,_,_,_,_,_,_,_,_,_,_,_] _
   refine hk _ _ ⟨O,?_,hs.cast ?_⟩<;>simp only [oT,lq,cq,Nat.reduceBEq,q3_,q7_,q8_,q9_]
  ·
   rintro D t w hD hp hcl ⟨O,ht,hs⟩ rest hk
   obtain ⟨p1_,p2_,_⟩:=hp
   have q7_:=nz hcl 7 0 hD
   have q8_:=nz hcl 8 1 q7_
   have q9_:=nz hcl 9 0 q8_
   simp only [hD,p1_,p2_,q7_,q8_,q9_,cq,oT] at ht hs
   subst ht
   refine Qab (v:=subV v5 1 (x9).toNat ((x8.length:Int)).toNat) rfl rfl (QcQ (hs.row 0 rfl) rfl rfl (fun _=>rfl) rfl (.inr ⟨_,_,rfl,rfl⟩) (.inl ⟨rfl,rfl⟩) gd3.1 gd3.2.1 gd3.2.2) ?_
   show G _ _ _ _ [_,_,_,_,_,_,_,_,_,_,_,_,_,_,_,_,_,_,_,_,_,_,_,_,_,_,_,_,_,_,_,_,_,_,_,_,_,_,_,_,_,_,_,_,_,_,_,_] _
   refine hk _ _ ⟨O,?_,hs.cast ?_⟩<;>simp only [oT,lq,cq,Nat.reduceBEq,p1_,p2_,q7_,q8_,q9_]
  ·
   rintro D t w hD hp hcl ⟨O,ht,hs⟩ rest hk
   have q6_:=nz hcl 6 0 hD
   have q7_:=nz hcl 7 1 q6_
   have q8_:=nz hcl 8 1 q7_
   have q9_:=nz hcl 9 0 q8_
   simp only [hD,q6_,q7_,q8_,q9_,cq,oT] at ht hs
   subst ht
   refine Qab (v:=v5) rfl rfl rfl ?_
   show G _ _ _ _ [_,_,_,_,_,_,_,_,_,_,_,_,_,_,_,_,_,_,_,_,_,_,_,_,_,_,_,_,_,_,_,_,_,_,_,_,_,_,_,_,_,_,_,_,_,_,_,_] _
   refine hk _ _ ⟨O,?_,hs.cast ?_⟩<;>simp only [oT,lq,cq,Nat.reduceBEq,q6_,q7_,q8_,q9_]
  ·
   rintro D t w hD hp hcl ⟨O,ht,hs⟩ rest hk
   have q6_:=nz hcl 6 1 hD
   have q7_:=nz hcl 7 1 q6_
   have q8_:=nz hcl 8 1 q7_
   have q9_:=nz hcl 9 0 q8_
   simp only [hD,q6_,q7_,q8_,q9_,cq,oT] at ht hs
   subst ht
   refine Qab (v:=int .i64 x9) rfl rfl rfl ?_
   show G _ _ _ _ [_,_,_,_,_,_,_,_,_,_,_,_,_,_,_,_,_,_,_,_,_,_,_,_,_,_,_,_,_,_,_,_,_,_,_,_,_,_,_,_,_,_,_,_,_,_,_,_] _
   refine hk _ _ ⟨O,?_,hs.cast ?_⟩<;>simp only [oT,lq,cq,Nat.reduceBEq,q6_,q7_,q8_,q9_]
  ·
   rintro D t w hD hp hcl ⟨O,ht,hs⟩ rest hk
   obtain ⟨p4_,p5_,_⟩:=hp
   have q7_:=nz hcl 7 1 hD
   have q8_:=nz hcl 8 1 q7_
   have q9_:=nz hcl 9 0 q8_
   simp only [hD,p4_,p5_,q7_,q8_,q9_,cq,oT] at ht hs
   subst ht
   refine Qab (v:=subV v5 1 ((0:Int)).toNat (x9).toNat) rfl rfl (QcQ (hs.row 0 rfl) rfl rfl (fun _=>rfl) rfl (.inl ⟨rfl,rfl⟩) (.inr ⟨_,_,rfl,rfl⟩) gd4.1 gd4.2.1 gd4.2.2) ?_
   show G _ _ _ _ [_,_,_,_,_,_,_,_,_,_,_,_,_,_,_,_,_,_,_,_,_,_,_,_,_,_,_,_,_,_,_,_,_,_,_,_,_,_,_,_,_,_,_,_,_,_,_,_] _
   refine hk _ _ ⟨O,?_,hs.cast ?_⟩<;>simp only [oT,lq,cq,Nat.reduceBEq,p4_,p5_,q7_,q8_,q9_]
  ·
   rintro D t w hD hp hcl ⟨O,ht,hs⟩ rest hk
   obtain ⟨p3_,p6_,_⟩:=hp
   obtain ⟨p4_,p5_,_⟩:=(hcl.get 6 (by decide)) p6_
   obtain ⟨p1_,p2_,_⟩:=(hcl.get 3 (by decide)) p3_
   have q8_:=nz hcl 8 1 hD
   have q9_:=nz hcl 9 0 q8_
   simp only [hD,p1_,p2_,p3_,p4_,p5_,p6_,q8_,q9_,cq,oT] at ht hs
   subst ht
   refine Qc4 (fkI .i16) (int .i16) (fun _=>rfl) rfl (lo:=x9) (hi:=(x8.length:Int)) hs (rdSub (hs.row 0 rfl) 1 rfl gd4.1 gd4.2.1 gd4.2.2) gd3.1 gd3.2.1 gd3.2.2 rfl rfl rfl Tryz.underlying32 rfl (.inr rfl) rfl ?_
   intro w hs
   show G _ _ _ _ [_,_,_,_,_,_,_,_,_,_,_,_,_,_,_,_,_,_,_,_,_,_,_,_,_,_,_,_,_,_,_,_,_,_,_,_,_,_,_,_,_,_,_,_,_,_,_,_] _
   have hs:=hs.push 0 (by simp)
   refine hk _ _ ⟨O,?_,hs.cast ?_⟩<;>simp only [oT,lq,cq,Nat.reduceBEq,p1_,p2_,p3_,p4_,p5_,p6_,q8_,q9_]
  ·
   rintro D t w hD hp hcl ⟨O,ht,hs⟩ rest hk
   obtain ⟨p0_,p7_,_⟩:=hp
   obtain ⟨p3_,p6_,_⟩:=(hcl.get 7 (by decide)) p7_
   obtain ⟨p4_,p5_,_⟩:=(hcl.get 6 (by decide)) p6_
   obtain ⟨p1_,p2_,_⟩:=(hcl.get 3 (by decide)) p3_
   have q9_:=nz hcl 9 0 hD
   simp only [hD,p0_,p1_,p2_,p3_,p4_,p5_,p6_,p7_,q9_,cq,oT] at ht hs
   subst ht
   refine Qab (v:=int .i64 (i64w (x9+(cpN x8 ((x8.drop ((0:Int)).toNat).take ((x9).toNat - ((0:Int)).toNat)) x9 (x8.length:Int):Int)))) rfl rfl rfl ?_
   show G _ _ _ _ [_,_,_,_,_,_,_,_,_,_,_,_,_,_,_,_,_,_,_,_,_,_,_,_,_,_,_,_,_,_,_,_,_,_,_,_,_,_,_,_,_,_,_,_,_,_,_,_] _
   refine hk _ _ ⟨O,?_,hs.cast ?_⟩<;>simp only [oT,lq,cq,Nat.reduceBEq,p0_,p1_,p2_,p3_,p4_,p5_,p6_,p7_,q9_]
  ·
   rintro D t w hD hp hcl ⟨O,ht,hs⟩ rest hk
   obtain ⟨p8_,p7_,p0_,p1_,p2_,p3_,p4_,p5_,p6_,_,_,_⟩:=hp
   simp only [hD,p0_,p1_,p2_,p3_,p4_,p5_,p6_,p7_,p8_,cq,oT] at ht hs
   subst ht
   refine Qab (v:=int .i64 (i64w (x9+(cpN x8 ((x8.drop ((0:Int)).toNat).take ((x9).toNat - ((0:Int)).toNat)) x9 (x8.length:Int):Int)))) rfl rfl rfl ?_
   show G _ _ _ _ [_,_,_,_,_,_,_,_,_,_,_,_,_,_,_,_,_,_,_,_,_,_,_,_,_,_,_,_,_,_,_,_,_,_,_,_,_,_,_,_,_,_,_,_,_,_,_,_] _
   refine hk _ _ ⟨O,?_,hs.cast ?_⟩<;>simp only [oT,lq,cq,Nat.reduceBEq,p0_,p1_,p2_,p3_,p4_,p5_,p6_,p7_,p8_]
  intro D t w hall hI
  obtain ⟨O,ht,hs⟩:=hI
  have p0_:=hall 0 (by decide)
  have p1_:=hall 1 (by decide)
  have p2_:=hall 2 (by decide)
  have p3_:=hall 3 (by decide)
  have p4_:=hall 4 (by decide)
  have p5_:=hall 5 (by decide)
  have p6_:=hall 6 (by decide)
  have p7_:=hall 7 (by decide)
  have p8_:=hall 8 (by decide)
  have p9_:=hall 9 (by decide)
  simp only [p0_,p1_,p2_,p3_,p4_,p5_,p6_,p7_,p8_,p9_,cq,oT] at ht hs
  subst ht
  refine Qa0 ?_
  obtain rfl:=QsJ H
  have hs:=hs.pull 0 rfl
  have hs:St _ [_] _:=St.take (Γ':=[]) hs
  exact ih1_ _ _ ⟨cpL x8 ((x8.drop ((0:Int)).toNat).take ((x9).toNat - ((0:Int)).toNat)) x9 (x8.length:Int),i64w (x9+(cpN x8 ((x8.drop ((0:Int)).toNat).take ((x9).toNat - ((0:Int)).toNat)) x9 (x8.length:Int):Int)),Hx1_,rfl,hs⟩
 intro hb
 rw [if_neg (b_dec_f hb)] at H
 refine Qac (Qas rfl ?_)
 obtain rfl:=QsJ H
 subst Hx1_
 have hs:=hs.pull 0 rfl
 have hs:St _ [_] _:=St.take (Γ':=[]) hs
 refine QbE rfl ?_
 exact ha1_ _ _ ⟨x8,Hr1_,rfl,hs⟩
def QbF.post (w0:World) (r:(Int×Int)) (v:Value) (w:World):Prop:=v=tuple #[int .u16 r.1,int .u16 r.2]∧St w0 [] w
theorem QbF.calls {N:Nat} {a1:Qaf} {a4:Qak} {v2:Value} {w0:World} {r:(Int×Int)} (hr3:RdRow (K.int .u16) w0 v2 a1.Qal) (H:QbF.f N a1 a4=some r):
 Calls Tryz.prog 80 #[agg (([int .i8 a1.Qad,int .i8 a1.Qag,v2]:List Value)).toArray,agg (Qaa a4).toArray] w0 fun e w=>∃ v,e= .returned v∧QbF.post w0 r v w:=by
 unfold QbF.f at H
 have hs:St w0 [] w0:=St.refl w0
 refine calls_of_g (n:=20) Tryz.func80 rfl rfl ?_
 show G _ _ _ _ [_,_,_,_,_,_,_,_,_,_,_,_,_,_,_,_,_,_,_,_,_,_] _
 refine Qaj (Qan [0,1,2,3] rfl ?_)
 refine Qbw hs rfl rfl (cs:=(([int .i8 a1.Qad,int .i8 a1.Qag,v2]:List Value))) rfl rfl ?_
 intro b5 w hs
 refine Qbw hs rfl rfl (cs:=(Qaa a4)) rfl rfl ?_
 intro b7 w hs
 refine Qab (v:=int .u16 0) rfl rfl rfl ?_
 show G _ _ _ _ [_,_,_,_,_,_,_,_,_,_,_,_,_,_,_,_,_,_,_,_,_,_] _
 refine Qab (v:=int .u16 0) rfl rfl rfl (Qac (Qaj (Qaj (Qan [0,1] rfl ?_))))
 refine Qab (v:=pointer (some ⟨b7,1,none⟩)) rfl rfl rfl ?_
 by_cases hb1_:a4.Qbi=true
 ·
  rw [if_pos hb1_] at H
  refine Qaw rfl rfl (v:=bool true) rfl rfl (fun _=>rfl) (cells_load (hs.cells 0 rfl) 1 1 (Eq.trans (b:=[bool a4.Qbi]) rfl (congrArg (fun b=>[bool b]) hb1_))) (Qac (Qaq rfl (Qaj ?_)))
  obtain ⟨r9,Hr9,H⟩:=bind_get H
  refine QaV ?_
  intro T hT
  refine QbZ (n:=9) rfl [0,1,2,3,4,5,6,7,8] [0,1,2,3,4,6,7,5,8] rfl rfl (Inv:=fun D t w=>∃ O:Nat→Value,t=[agg (([int .i8 a1.Qad,int .i8 a1.Qag,v2]:List Value)).toArray,agg (Qaa a4).toArray,pointer (some ⟨b5,0,none⟩),pointer (some ⟨b7,0,none⟩),cnd (D 7) (int .u16 (bAndNot .u16 r9 a4.Qat)) (int .u16 0),cnd (D 8) (int .u16 a4.Qat) (int .u16 0),pointer (some ⟨b7,1,none⟩),bool true,cnd (D 0) (agg (([int .i8 a1.Qad,int .i8 a1.Qag,v2]:List Value)).toArray) (O 8),cnd (D 1) (int .u16 r9) (O 9),cnd (D 2) (pointer (some ⟨b7,0,none⟩)) (O 10),cnd (D 3) (int .u16 a4.Qat) (O 11),cnd (D 4) (int .u16 (bAndNot .u16 r9 a4.Qat)) (O 12),cnd (D 5) (pointer (some ⟨b7,0,none⟩)) (O 13),cnd (D 6) (int .u16 a4.Qat) (O 14),O 15,O 16,O 17,O 18,O 19,O 20,O 21]∧St w0 [Cells b7 (Qaa a4) 48,Cells b5 (([int .i8 a1.Qad,int .i8 a1.Qag,v2]:List Value)) 27] w) ?_ ⟨⟨⟨⟨⟨⟨⟨⟨⟨trivial,?_⟩,?_⟩,?_⟩,?_⟩,?_⟩,?_⟩,?_⟩,?_⟩,?_⟩ ?_
  ·
   intro w hh hbw
   have hs:=hs.samew hh hbw
   exact ⟨fun i=>T.getD i undef,(by subst hT;rfl),hs⟩
  ·
   rintro D t w hD hp hcl ⟨O,ht,hs⟩ rest hk
   have q1_:=nz hcl 1 0 hD
   have q4_:=nz hcl 4 0 q1_
   have q7_:=nz hcl 7 0 q4_
   have q8_:=nz hcl 8 1 q7_
   simp only [hD,q1_,q4_,q7_,q8_,cq,oT] at ht hs
   subst ht
   refine QaF rfl rfl (es:=(([int .i8 a1.Qad,int .i8 a1.Qag,v2]:List Value))) rfl rfl (fun _=>rfl) (n:=3) (fun _=>rfl) rfl (cells_all (hs.cells 1 rfl)) ?_
   show G _ _ _ _ [_,_,_,_,_,_,_,_,_,_,_,_,_,_,_,_,_,_,_,_,_,_] _
   refine hk _ _ ⟨O,?_,hs.cast ?_⟩<;>simp only [oT,lq,cq,Nat.reduceBEq,q1_,q4_,q7_,q8_]
  ·
   rintro D t w hD hp hcl ⟨O,ht,hs⟩ rest hk
   obtain ⟨p0_,_⟩:=hp
   have q4_:=nz hcl 4 0 hD
   have q7_:=nz hcl 7 0 q4_
   have q8_:=nz hcl 8 1 q7_
   simp only [hD,p0_,q4_,q7_,q8_,cq,oT] at ht hs
   subst ht
   refine Qaz (args:=[agg (([int .i8 a1.Qad,int .i8 a1.Qag,v2]:List Value)).toArray]) rfl rfl (QaA rfl (callFunc_enter Tryz.func44 rfl rfl) rfl) (QaZ.calls (a1:=(⟨a1.Qad,a1.Qag,a1.Qal⟩:Qaf)) (hs.rd hr3) Hr9) ?_
   rintro _ w ⟨rfl,hs2⟩
   have hs:St _ [_,_] _:=hs.call hs2
   show G _ _ _ _ [_,_,_,_,_,_,_,_,_,_,_,_,_,_,_,_,_,_,_,_,_,_] _
   refine hk _ _ ⟨O,?_,hs.cast ?_⟩<;>simp only [oT,lq,cq,Nat.reduceBEq,p0_,q4_,q7_,q8_]
  ·
   rintro D t w hD hp hcl ⟨O,ht,hs⟩ rest hk
   have q3_:=nz hcl 3 0 hD
   have q4_:=nz hcl 4 1 q3_
   have q7_:=nz hcl 7 0 q4_
   have q8_:=nz hcl 8 1 q7_
   simp only [hD,q3_,q4_,q7_,q8_,cq,oT] at ht hs
   subst ht
   refine Qab (v:=pointer (some ⟨b7,0,none⟩)) rfl rfl rfl ?_
   show G _ _ _ _ [_,_,_,_,_,_,_,_,_,_,_,_,_,_,_,_,_,_,_,_,_,_] _
   refine hk _ _ ⟨O,?_,hs.cast ?_⟩<;>simp only [oT,lq,cq,Nat.reduceBEq,q3_,q4_,q7_,q8_]
  ·
   rintro D t w hD hp hcl ⟨O,ht,hs⟩ rest hk
   obtain ⟨p2_,_⟩:=hp
   have q4_:=nz hcl 4 1 hD
   have q7_:=nz hcl 7 0 q4_
   have q8_:=nz hcl 8 1 q7_
   simp only [hD,p2_,q4_,q7_,q8_,cq,oT] at ht hs
   subst ht
   refine Qaw rfl rfl (v:=int .u16 a4.Qat) rfl rfl (fun _=>rfl) (cells_load (hs.cells 0 rfl) 0 1 rfl) ?_
   show G _ _ _ _ [_,_,_,_,_,_,_,_,_,_,_,_,_,_,_,_,_,_,_,_,_,_] _
   refine hk _ _ ⟨O,?_,hs.cast ?_⟩<;>simp only [oT,lq,cq,Nat.reduceBEq,p2_,q4_,q7_,q8_]
  ·
   rintro D t w hD hp hcl ⟨O,ht,hs⟩ rest hk
   obtain ⟨p1_,p3_,_⟩:=hp
   obtain ⟨p2_,_⟩:=(hcl.get 3 (by decide)) p3_
   obtain ⟨p0_,_⟩:=(hcl.get 1 (by decide)) p1_
   have q7_:=nz hcl 7 0 hD
   have q8_:=nz hcl 8 1 q7_
   simp only [hD,p0_,p1_,p2_,p3_,q7_,q8_,cq,oT] at ht hs
   subst ht
   refine Qab (v:=int .u16 (bAndNot .u16 r9 a4.Qat)) rfl rfl rfl ?_
   show G _ _ _ _ [_,_,_,_,_,_,_,_,_,_,_,_,_,_,_,_,_,_,_,_,_,_] _
   refine hk _ _ ⟨O,?_,hs.cast ?_⟩<;>simp only [oT,lq,cq,Nat.reduceBEq,p0_,p1_,p2_,p3_,q7_,q8_]
  ·
   rintro D t w hD hp hcl ⟨O,ht,hs⟩ rest hk
   have q6_:=nz hcl 6 0 hD
   have q8_:=nz hcl 8 0 q6_
   simp only [hD,q6_,q8_,cq,oT] at ht hs
   subst ht
   refine Qab (v:=pointer (some ⟨b7,0,none⟩)) rfl rfl rfl ?_
   show G _ _ _ _ [_,_,_,_,_,_,_,_,_,_,_,_,_,_,_,_,_,_,_,_,_,_] _
   refine hk _ _ ⟨O,?_,hs.cast ?_⟩<;>simp only [oT,lq,cq,Nat.reduceBEq,q6_,q8_]
  ·
   rintro D t w hD hp hcl ⟨O,ht,hs⟩ rest hk
   obtain ⟨p5_,_⟩:=hp
   have q8_:=nz hcl 8 0 hD
   simp only [hD,p5_,q8_,cq,oT] at ht hs
   subst ht
   refine Qaw rfl rfl (v:=int .u16 a4.Qat) rfl rfl (fun _=>rfl) (cells_load (hs.cells 0 rfl) 0 1 rfl) ?_
   show G _ _ _ _ [_,_,_,_,_,_,_,_,_,_,_,_,_,_,_,_,_,_,_,_,_,_] _
   refine hk _ _ ⟨O,?_,hs.cast ?_⟩<;>simp only [oT,lq,cq,Nat.reduceBEq,p5_,q8_]
  ·
   rintro D t w hD hp hcl ⟨O,ht,hs⟩ rest hk
   obtain ⟨p4_,p1_,p0_,_,p2_,p3_,_,_⟩:=hp
   have q8_:=nz hcl 8 1 hD
   simp only [hD,p0_,p1_,p2_,p3_,p4_,q8_,cq,oT] at ht hs
   subst ht
   refine Qab (v:=int .u16 (bAndNot .u16 r9 a4.Qat)) rfl rfl rfl ?_
   show G _ _ _ _ [_,_,_,_,_,_,_,_,_,_,_,_,_,_,_,_,_,_,_,_,_,_] _
   refine hk _ _ ⟨O,?_,hs.cast ?_⟩<;>simp only [oT,lq,cq,Nat.reduceBEq,p0_,p1_,p2_,p3_,p4_,q8_]
  ·
   rintro D t w hD hp hcl ⟨O,ht,hs⟩ rest hk
   obtain ⟨p6_,p7_,p0_,p1_,p2_,p3_,p4_,p5_,_,_,_⟩:=hp
   simp only [hD,p0_,p1_,p2_,p3_,p4_,p5_,p6_,p7_,cq,oT] at ht hs
   subst ht
   refine Qab (v:=int .u16 a4.Qat) rfl rfl rfl ?_
   show G _ _ _ _ [_,_,_,_,_,_,_,_,_,_,_,_,_,_,_,_,_,_,_,_,_,_] _
   refine hk _ _ ⟨O,?_,hs.cast ?_⟩<;>simp only [oT,lq,cq,Nat.reduceBEq,p0_,p1_,p2_,p3_,p4_,p5_,p6_,p7_]
  intro D t w hall hI
  obtain ⟨O,ht,hs⟩:=hI
  have p0_:=hall 0 (by decide)
  have p1_:=hall 1 (by decide)
  have p2_:=hall 2 (by decide)
  have p3_:=hall 3 (by decide)
  have p4_:=hall 4 (by decide)
  have p5_:=hall 5 (by decide)
  have p6_:=hall 6 (by decide)
  have p7_:=hall 7 (by decide)
  have p8_:=hall 8 (by decide)
  simp only [p0_,p1_,p2_,p3_,p4_,p5_,p6_,p7_,p8_,cq,oT] at ht hs
  subst ht
  obtain rfl:=QsJ H
  refine QaB Tryz.func80 (v:=tuple #[int .u16 (bAndNot .u16 r9 a4.Qat),int .u16 a4.Qat]) (resN (l:=Tryz.f80.results.toList) (vs:=[int .u16 (bAndNot .u16 r9 a4.Qat),int .u16 a4.Qat]) rfl ⟨rfl,rfl,trivial⟩ (by simp)) ?_
  have hs:St _ [] _:=St.take (Γ':=[_,_]) hs
  exact ⟨_,rfl,rfl,hs⟩
 rw [if_neg hb1_] at H
 refine Qaw rfl rfl (v:=bool false) rfl rfl (fun _=>rfl) (cells_load (hs.cells 0 rfl) 1 1 (Eq.trans (b:=[bool a4.Qbi]) rfl (congrArg (fun b=>[bool b]) (Bool.eq_false_iff.2 hb1_)))) ?_
 show G _ _ _ _ [_,_,_,_,_,_,_,_,_,_,_,_,_,_,_,_,_,_,_,_,_,_] _
 refine Qac (Qas rfl (QaK (Qaj ?_)))
 obtain ⟨r10,Hr10,H⟩:=bind_get H
 refine QaV ?_
 intro T hT
 refine QbZ (n:=9) rfl [0,1,2,3,4,5,6,7,8] [0,1,2,3,5,6,7,4,8] rfl rfl (Inv:=fun D t w=>∃ O:Nat→Value,t=[agg (([int .i8 a1.Qad,int .i8 a1.Qag,v2]:List Value)).toArray,agg (Qaa a4).toArray,pointer (some ⟨b5,0,none⟩),pointer (some ⟨b7,0,none⟩),cnd (D 7) (int .u16 a4.Qat) (int .u16 0),cnd (D 8) (int .u16 (bAndNot .u16 r10 a4.Qat)) (int .u16 0),pointer (some ⟨b7,1,none⟩),bool false,O 8,O 9,O 10,O 11,O 12,O 13,O 14,cnd (D 0) (pointer (some ⟨b7,0,none⟩)) (O 15),cnd (D 1) (int .u16 a4.Qat) (O 16),cnd (D 2) (agg (([int .i8 a1.Qad,int .i8 a1.Qag,v2]:List Value)).toArray) (O 17),cnd (D 3) (int .u16 r10) (O 18),cnd (D 4) (pointer (some ⟨b7,0,none⟩)) (O 19),cnd (D 5) (int .u16 a4.Qat) (O 20),cnd (D 6) (int .u16 (bAndNot .u16 r10 a4.Qat)) (O 21)]∧St w0 [Cells b7 (Qaa a4) 48,Cells b5 (([int .i8 a1.Qad,int .i8 a1.Qag,v2]:List Value)) 27] w) ?_ ⟨⟨⟨⟨⟨⟨⟨⟨⟨trivial,?_⟩,?_⟩,?_⟩,?_⟩,?_⟩,?_⟩,?_⟩,?_⟩,?_⟩ ?_
 ·
  intro w hh hbw
  have hs:=hs.samew hh hbw
  exact ⟨fun i=>T.getD i undef,(by subst hT;rfl),hs⟩
 ·
  rintro D t w hD hp hcl ⟨O,ht,hs⟩ rest hk
  have q1_:=nz hcl 1 0 hD
  have q7_:=nz hcl 7 0 q1_
  have q8_:=nz hcl 8 1 q7_
  simp only [hD,q1_,q7_,q8_,cq,oT] at ht hs
  subst ht
  refine Qab (v:=pointer (some ⟨b7,0,none⟩)) rfl rfl rfl ?_
  show G _ _ _ _ [_,_,_,_,_,_,_,_,_,_,_,_,_,_,_,_,_,_,_,_,_,_] _
  refine hk _ _ ⟨O,?_,hs.cast ?_⟩<;>simp only [oT,lq,cq,Nat.reduceBEq,q1_,q7_,q8_]
 ·
  rintro D t w hD hp hcl ⟨O,ht,hs⟩ rest hk
  obtain ⟨p0_,_⟩:=hp
  have q7_:=nz hcl 7 0 hD
  have q8_:=nz hcl 8 1 q7_
  simp only [hD,p0_,q7_,q8_,cq,oT] at ht hs
  subst ht
  refine Qaw rfl rfl (v:=int .u16 a4.Qat) rfl rfl (fun _=>rfl) (cells_load (hs.cells 0 rfl) 0 1 rfl) ?_
  show G _ _ _ _ [_,_,_,_,_,_,_,_,_,_,_,_,_,_,_,_,_,_,_,_,_,_] _
  refine hk _ _ ⟨O,?_,hs.cast ?_⟩<;>simp only [oT,lq,cq,Nat.reduceBEq,p0_,q7_,q8_]
 ·
  rintro D t w hD hp hcl ⟨O,ht,hs⟩ rest hk
  have q3_:=nz hcl 3 0 hD
  have q6_:=nz hcl 6 0 q3_
  have q7_:=nz hcl 7 1 q3_
  have q8_:=nz hcl 8 0 q6_
  simp only [hD,q3_,q6_,q7_,q8_,cq,oT] at ht hs
  subst ht
  refine QaF rfl rfl (es:=(([int .i8 a1.Qad,int .i8 a1.Qag,v2]:List Value))) rfl rfl (fun _=>rfl) (n:=3) (fun _=>rfl) rfl (cells_all (hs.cells 1 rfl)) ?_
  show G _ _ _ _ [_,_,_,_,_,_,_,_,_,_,_,_,_,_,_,_,_,_,_,_,_,_] _
  refine hk _ _ ⟨O,?_,hs.cast ?_⟩<;>simp only [oT,lq,cq,Nat.reduceBEq,q3_,q6_,q7_,q8_]
 ·
  rintro D t w hD hp hcl ⟨O,ht,hs⟩ rest hk
  obtain ⟨p2_,_⟩:=hp
  have q6_:=nz hcl 6 0 hD
  have q7_:=nz hcl 7 1 hD
  have q8_:=nz hcl 8 0 q6_
  simp only [hD,p2_,q6_,q7_,q8_,cq,oT] at ht hs
  subst ht
  refine Qaz (args:=[agg (([int .i8 a1.Qad,int .i8 a1.Qag,v2]:List Value)).toArray]) rfl rfl (QaA rfl (callFunc_enter Tryz.func44 rfl rfl) rfl) (QaZ.calls (a1:=(⟨a1.Qad,a1.Qag,a1.Qal⟩:Qaf)) (hs.rd hr3) Hr10) ?_
  rintro _ w ⟨rfl,hs2⟩
  have hs:St _ [_,_] _:=hs.call hs2
  show G _ _ _ _ [_,_,_,_,_,_,_,_,_,_,_,_,_,_,_,_,_,_,_,_,_,_] _
  refine hk _ _ ⟨O,?_,hs.cast ?_⟩<;>simp only [oT,lq,cq,Nat.reduceBEq,p2_,q6_,q7_,q8_]
 ·
  rintro D t w hD hp hcl ⟨O,ht,hs⟩ rest hk
  have q5_:=nz hcl 5 0 hD
  have q6_:=nz hcl 6 1 q5_
  have q8_:=nz hcl 8 0 q6_
  simp only [hD,q5_,q6_,q8_,cq,oT] at ht hs
  subst ht
  refine Qab (v:=pointer (some ⟨b7,0,none⟩)) rfl rfl rfl ?_
  show G _ _ _ _ [_,_,_,_,_,_,_,_,_,_,_,_,_,_,_,_,_,_,_,_,_,_] _
  refine hk _ _ ⟨O,?_,hs.cast ?_⟩<;>simp only [oT,lq,cq,Nat.reduceBEq,q5_,q6_,q8_]
 ·
  rintro D t w hD hp hcl ⟨O,ht,hs⟩ rest hk
  obtain ⟨p4_,_⟩:=hp
  have q6_:=nz hcl 6 1 hD
  have q8_:=nz hcl 8 0 q6_
  simp only [hD,p4_,q6_,q8_,cq,oT] at ht hs
  subst ht
  refine Qaw rfl rfl (v:=int .u16 a4.Qat) rfl rfl (fun _=>rfl) (cells_load (hs.cells 0 rfl) 0 1 rfl) ?_
  show G _ _ _ _ [_,_,_,_,_,_,_,_,_,_,_,_,_,_,_,_,_,_,_,_,_,_] _
  refine hk _ _ ⟨O,?_,hs.cast ?_⟩<;>simp only [oT,lq,cq,Nat.reduceBEq,p4_,q6_,q8_]
 ·
  rintro D t w hD hp hcl ⟨O,ht,hs⟩ rest hk
  obtain ⟨p3_,p5_,_⟩:=hp
  obtain ⟨p4_,_⟩:=(hcl.get 5 (by decide)) p5_
  obtain ⟨p2_,_⟩:=(hcl.get 3 (by decide)) p3_
  have q8_:=nz hcl 8 0 hD
  simp only [hD,p2_,p3_,p4_,p5_,q8_,cq,oT] at ht hs
  subst ht
  refine Qab (v:=int .u16 (bAndNot .u16 r10 a4.Qat)) rfl rfl rfl ?_
  show G _ _ _ _ [_,_,_,_,_,_,_,_,_,_,_,_,_,_,_,_,_,_,_,_,_,_] _
  refine hk _ _ ⟨O,?_,hs.cast ?_⟩<;>simp only [oT,lq,cq,Nat.reduceBEq,p2_,p3_,p4_,p5_,q8_]
 ·
  rintro D t w hD hp hcl ⟨O,ht,hs⟩ rest hk
  obtain ⟨p1_,p3_,p0_,_,_⟩:=hp
  obtain ⟨p2_,_⟩:=(hcl.get 3 (by decide)) p3_
  have q8_:=nz hcl 8 1 hD
  simp only [hD,p0_,p1_,p2_,p3_,q8_,cq,oT] at ht hs
  subst ht
  refine Qab (v:=int .u16 a4.Qat) rfl rfl rfl ?_
  show G _ _ _ _ [_,_,_,_,_,_,_,_,_,_,_,_,_,_,_,_,_,_,_,_,_,_] _
  refine hk _ _ ⟨O,?_,hs.cast ?_⟩<;>simp only [oT,lq,cq,Nat.reduceBEq,p0_,p1_,p2_,p3_,q8_]
 ·
  rintro D t w hD hp hcl ⟨O,ht,hs⟩ rest hk
  obtain ⟨p6_,p7_,p0_,p1_,p2_,p3_,p4_,p5_,_,_,_⟩:=hp
  simp only [hD,p0_,p1_,p2_,p3_,p4_,p5_,p6_,p7_,cq,oT] at ht hs
  subst ht
  refine Qab (v:=int .u16 (bAndNot .u16 r10 a4.Qat)) rfl rfl rfl ?_
  show G _ _ _ _ [_,_,_,_,_,_,_,_,_,_,_,_,_,_,_,_,_,_,_,_,_,_] _
  refine hk _ _ ⟨O,?_,hs.cast ?_⟩<;>simp only [oT,lq,cq,Nat.reduceBEq,p0_,p1_,p2_,p3_,p4_,p5_,p6_,p7_]
 intro D t w hall hI
 obtain ⟨O,ht,hs⟩:=hI
 have p0_:=hall 0 (by decide)
 have p1_:=hall 1 (by decide)
 have p2_:=hall 2 (by decide)
 have p3_:=hall 3 (by decide)
 have p4_:=hall 4 (by decide)
 have p5_:=hall 5 (by decide)
 have p6_:=hall 6 (by decide)
 have p7_:=hall 7 (by decide)
 have p8_:=hall 8 (by decide)
 simp only [p0_,p1_,p2_,p3_,p4_,p5_,p6_,p7_,p8_,cq,oT] at ht hs
 subst ht
 obtain rfl:=QsJ H
 refine QaB Tryz.func80 (v:=tuple #[int .u16 a4.Qat,int .u16 (bAndNot .u16 r10 a4.Qat)]) (resN (l:=Tryz.f80.results.toList) (vs:=[int .u16 a4.Qat,int .u16 (bAndNot .u16 r10 a4.Qat)]) rfl ⟨rfl,rfl,trivial⟩ (by simp)) ?_
 have hs:St _ [] _:=St.take (Γ':=[_,_]) hs
 exact ⟨_,rfl,rfl,hs⟩
def Qbm.post (w0:World) (r:Qak) (v:Value) (w:World):Prop:=v=agg (Qaa r).toArray∧St w0 [] w
theorem Qbm.calls {N:Nat} {a1:Qak} {a2:Int} {w0:World} {r:Qak} (H:Qbm.f N a1 a2=some r):
 Calls Tryz.prog 46 #[agg (Qaa a1).toArray,int .u16 a2] w0 fun e w=>∃ v,e= .returned v∧Qbm.post w0 r v w:=by
 unfold Qbm.f at H
 have hs:St w0 [] w0:=St.refl w0
 refine calls_of_g (n:=11) Tryz.func46 rfl rfl ?_
 show G _ _ _ _ [_,_,_,_,_,_,_,_,_,_,_,_,_] _
 refine Qaj (Qan [0,1] rfl ?_)
 refine Qbw hs rfl rfl (cs:=(Qaa a1)) rfl rfl ?_
 intro b3 w hs
 refine QbI hs rfl rfl (z:=(agg #[int .u16 0,bool false])) (cs:=(Qaa Qa9)) rfl (fun _=>rfl) rfl ?_
 intro b5 w hs
 refine Qac (Qaj (Qan [0,1,2,3,4,5,6,7,8] rfl ?_))
 refine Qab (v:=pointer (some ⟨b3,0,none⟩)) rfl rfl rfl ?_
 show G _ _ _ _ [_,_,_,_,_,_,_,_,_,_,_,_,_] _
 refine Qaw rfl rfl (v:=int .u16 a1.Qat) rfl rfl (fun _=>rfl) (cells_load (hs.cells 1 rfl) 0 1 rfl) ?_
 refine Qab (v:=int .u16 a2) rfl rfl rfl ?_
 refine Qab (v:=int .u16 (bXor .u16 a1.Qat a2)) rfl rfl rfl ?_
 show G _ _ _ _ [_,_,_,_,_,_,_,_,_,_,_,_,_] _
 refine Qab (v:=pointer (some ⟨b3,1,none⟩)) rfl rfl rfl ?_
 refine Qaw rfl rfl (v:=bool a1.Qbi) rfl rfl (fun _=>rfl) (cells_load (hs.cells 1 rfl) 1 1 rfl) ?_
 refine Qab (v:=bool (!a1.Qbi)) rfl rfl rfl ?_
 show G _ _ _ _ [_,_,_,_,_,_,_,_,_,_,_,_,_] _
 refine Qab (v:=agg (Qaa (⟨bXor .u16 a1.Qat a2,!a1.Qbi⟩:Qak)).toArray) rfl rfl (Qbt (cs:=(Qaa (⟨bXor .u16 a1.Qat a2,!a1.Qbi⟩:Qak))) (segs:=[[int .u16 0],[bool false]]) rfl rfl (fun _=>rfl) ⟨rfl,(fun _=>rfl),rfl,(fun _=>rfl),trivial⟩ (by simp only [List.map_cons,List.map_nil,List.forall_mem_cons,List.not_mem_nil,false_implies,implies_true,and_true];exact ⟨⟨_,rfl,rfl⟩,⟨_,rfl,rfl⟩⟩) (by first|rfl|(simp [ev,Qaa];done)|(simp [ev,Qaa];rfl))) ?_
 refine QaY (n:=2) hs (Qam.len _) rfl rfl (vs:=(Qaa (⟨bXor .u16 a1.Qat a2,!a1.Qbi⟩:Qak))) rfl rfl rfl (fun _=>rfl) (Qam.len _) (Qam.one _) ?_
 intro w hs
 refine Qac ?_
 obtain rfl:=QsJ H
 refine QaB Tryz.func46 (v:=agg (Qaa (⟨bXor .u16 a1.Qat a2,!a1.Qbi⟩:Qak)).toArray) (resC rfl ⟨⟨_,rfl,(run_loadVar_agg (es:=(Qaa (⟨bXor .u16 a1.Qat a2,!a1.Qbi⟩:Qak))) rfl (congrArg (Result.ok · _) (Qam.len _).symm) (cells_all (hs.cells 0 rfl)))⟩,trivial⟩) ?_
 have hs:St _ [] _:=St.take (Γ':=[_,_]) hs
 exact ⟨_,rfl,rfl,hs⟩
def QbP.post (w0:World) (r:Bool) (v:Value) (w:World):Prop:=v=bool r∧St w0 [] w
theorem QbP.calls {N:Nat} {a1:Int} {a2:Int} {b3:Nat} {w0:World} {r:Bool} (hp1000:w0.heap[b3]?=some (.cells (((encI .u16) a2):List Value).toArray 46 (0,0))) (H:QbP.f N a1 a2=some r):
 Calls Tryz.prog 84 #[int .u16 a1,pointer (some ⟨b3,0,none⟩)] w0 fun e w=>∃ v,e= .returned v∧QbP.post w0 r v w:=by
 unfold QbP.f at H
 have hs:St w0 [] w0:=St.refl w0
 refine calls_of_g (n:=5) Tryz.func84 rfl rfl ?_
 show G _ _ _ _ [_,_,_,_,_,_,_] _
 refine Qaj (Qan [0] rfl ?_)
 refine Qab (v:=bool false) rfl rfl rfl (Qac (Qaj (Qan [0,1,2,3] rfl ?_)))
 refine Qab (v:=int .u16 a1) rfl rfl rfl ?_
 show G _ _ _ _ [_,_,_,_,_,_,_] _
 refine Qaw rfl rfl (v:=int .u16 a2) rfl rfl (fun _=>rfl) (cells_load (hs.box hp1000) 0 1 rfl) ?_
 obtain ⟨r5,Hr5,H⟩:=bind_get H
 refine Qaz (args:=[int .u16 a1,int .u16 a2]) rfl rfl (QaA rfl (callFunc_enter Tryz.func53 rfl rfl) rfl) (Qby.calls (a1:=a1) (a2:=a2) Hr5) ?_
 rintro _ w ⟨rfl,hs2⟩
 have hs:St _ [] _:=hs.call hs2
 refine Qab (v:=bool r5) rfl rfl rfl ?_
 show G _ _ _ _ [_,_,_,_,_,_,_] _
 refine Qac ?_
 obtain rfl:=QsJ H
 refine QaB Tryz.func84 (v:=bool r5) (res1 rfl rfl) ?_
 have hs:St _ [] _:=St.take (Γ':=[]) hs
 exact ⟨_,rfl,rfl,hs⟩
def Qav.post (w0:World) (r:Int) (v:Value) (w:World):Prop:=v=int .i64 r∧St w0 [] w
theorem Qav.calls {N:Nat} {a1:(List Int)} {a3:Int} {v2:Value} {b4:Nat} {w0:World} {r:Int} (hr0:RdRow (K.int .u16) w0 v2 a1) (hp200:w0.heap[b4]?=some (.cells (((encI .u16) a3):List Value).toArray 46 (0,0))) (H:Qav.f N a1 a3=some r):
 Calls Tryz.prog 79 #[v2,Value.func (Fn.func 84) #[] #[pointer (some ⟨b4,0,none⟩)]] w0 fun e w=>∃ v,e= .returned v∧Qav.post w0 r v w:=by
 unfold Qav.f at H
 have hs:St w0 [] w0:=St.refl w0
 refine calls_of_g (n:=17) Tryz.func79 rfl rfl ?_
 show G _ _ _ _ [_,_,_,_,_,_,_,_,_,_,_,_,_,_,_,_,_,_,_] _
 refine Qaj (Qan [0] rfl ?_)
 refine Qab (v:=int .i64 0) rfl rfl rfl (Qac (Qaj (Qaj (Qan [0,1,2] rfl ?_))))
 refine Qab (v:=v2) rfl rfl rfl ?_
 show G _ _ _ _ [_,_,_,_,_,_,_,_,_,_,_,_,_,_,_,_,_,_,_] _
 refine QbC (hs.rd hr0) rfl rfl rfl rfl rfl ?_
 refine Qab (v:=int .i64 0) rfl rfl rfl (Qac ?_)
 obtain ⟨o1_,Ho,Hr1_⟩:=bind_get H
 refine QaR (J:=fun t w=>Qav.a0 N=some r∧Fr t (fun O=>([O 0,O 1,O 2,O 3,O 4,O 5,O 6,O 7,O 8,O 9,O 10,O 11,O 12,O 13,O 14,O 15,O 16,O 17,O 18]:List Value))∧St w0 [] w) ?_ ?_
 ·
  rintro t w ⟨H,hf,hs⟩
  obtain ⟨O,rfl⟩:=hf.open
  show G _ _ _ _ [_,_,_,_,_,_,_,_,_,_,_,_,_,_,_,_,_,_,_] _
  unfold Qav.a0 at H
  refine Qaj (Qan [0] rfl ?_)
  refine Qab (v:=int .i64 (-1)) rfl rfl rfl ?_
  show G _ _ _ _ [_,_,_,_,_,_,_,_,_,_,_,_,_,_,_,_,_,_,_] _
  refine Qac ?_
  obtain rfl:=QsJ H
  refine QaB Tryz.func79 (v:=int .i64 (-1)) (res1 rfl rfl) ?_
  have hs:St _ [] _:=St.take (Γ':=[]) hs
  exact ⟨_,rfl,rfl,hs⟩
 intro ha1_
 have hs:St _ [] _:=St.take (Γ':=[]) hs
 refine Qba (I:=fun n_ t w=>∃ x6:Int,rounds (fun s=>Qav.b0 N a1 a3 s) n_ x6=some o1_∧Fr t (fun O=>([v2,Value.func (Fn.func 84) #[] #[pointer (some ⟨b4,0,none⟩)],O 2,O 3,O 4,O 5,O 6,int .i64 (a1.length:Int),int .i64 x6,O 9,O 10,O 11,O 12,O 13,O 14,O 15,O 16,O 17,O 18]:List Value))∧St w0 [] w) N ⟨0,Ho,rfl,hs⟩ ?_ ?_
 ·
  rintro _ _ ⟨x6,h,_⟩
  exact rounds_zero h
 intro n_ ih1_
 rintro t w ⟨x6,Ho,hf,hs⟩
 obtain ⟨O,rfl⟩:=hf.open
 show G _ _ _ _ [_,_,_,_,_,_,_,_,_,_,_,_,_,_,_,_,_,_,_] _
 obtain ⟨x2_,H,Hx1_⟩:=rounds_succ Ho
 have H:Qav.b0 N a1 a3 x6=some x2_:=H
 unfold Qav.b0 at H
 refine Qaj (Qan [0] rfl ?_)
 refine QaI (B:=decide (x6< (a1.length:Int))) rfl rfl rfl ?_ ?_
 ·
  intro hb
  rw [if_pos (b_dec_t hb)] at H
  refine Qac (Qaj (Qaq rfl (QaK (Qaj ?_))))
  refine QbG (Qaj (Qan [0,1] rfl ?_))
  refine Qab (v:=int .i64 x6) rfl rfl rfl ?_
  refine Qab (v:=int .i64 x6) rfl rfl rfl ?_
  show G _ _ _ _ [_,_,_,_,_,_,_,_,_,_,_,_,_,_,_,_,_,_,_] _
  refine Qac (Qaj (Qan [0,1,2,3,4,5] rfl ?_))
  refine Qab (v:=Value.func (Fn.func 84) #[] #[pointer (some ⟨b4,0,none⟩)]) rfl rfl rfl ?_
  refine Qab (v:=v2) rfl rfl rfl ?_
  refine Qab (v:=int .i64 x6) rfl rfl rfl ?_
  show G _ _ _ _ [_,_,_,_,_,_,_,_,_,_,_,_,_,_,_,_,_,_,_] _
  obtain ⟨g1,H⟩:=ite_get H
  refine QbQ (fkI .u16) 0 (hs.rd hr0) rfl (fun _=>rfl) g1.1 g1.2 rfl rfl rfl rfl rfl ?_
  intro p7 hp7 lp7 op7
  refine Qaw rfl rfl (v:=int .u16 (rdL a1 x6 0)) rfl rfl (fun _=>rfl) hp7 ?_
  obtain ⟨r8,Hr8,H⟩:=bind_get H
  refine Qaz (args:=[int .u16 (rdL a1 x6 0),pointer (some ⟨b4,0,none⟩)]) rfl rfl (QcZ rfl (callFunc_enter Tryz.func84 rfl rfl) rfl rfl) (QbP.calls (a1:=rdL a1 x6 0) (a2:=a3) (hs.box hp200) Hr8) ?_
  rintro _ w ⟨rfl,hs2⟩
  have hs:St _ [] _:=hs.call hs2
  cases r8 with
  |true=>
   rw [if_pos rfl] at H
   show G _ _ _ _ [_,_,_,_,_,_,_,_,_,_,_,_,_,_,_,_,_,_,_] _
   refine Qac (Qaq rfl (Qaj (Qan [0,1] rfl ?_)))
   refine Qab (v:=int .i64 x6) rfl rfl rfl ?_
   refine Qab (v:=int .i64 x6) rfl rfl rfl (Qac ?_)
   obtain rfl:=QsJ H
   subst Hx1_
   have H:=QsJ Hr1_
   subst H
   refine QaB Tryz.func79 (v:=int .i64 x6) (res1 rfl rfl) ?_
   have hs:St _ [] _:=St.take (Γ':=[]) hs
   exact ⟨_,rfl,rfl,hs⟩
  |false=>
   rw [if_neg Bool.false_ne_true] at H
   show G _ _ _ _ [_,_,_,_,_,_,_,_,_,_,_,_,_,_,_,_,_,_,_] _
   refine Qac (Qas rfl (QaK ?_))
   refine Qa0 (Qan [0,1] rfl ?_)
   refine Qab (v:=int .i64 (i64w (x6+1))) rfl rfl rfl ?_
   refine Qab (v:=int .i64 (i64w (x6+1))) rfl rfl rfl (Qac ?_)
   obtain rfl:=QsJ H
   have hs:St _ [] _:=St.take (Γ':=[]) hs
   exact ih1_ _ _ ⟨i64w (x6+1),Hx1_,rfl,hs⟩
 intro hb
 rw [if_neg (b_dec_f hb)] at H
 show G _ _ _ _ [_,_,_,_,_,_,_,_,_,_,_,_,_,_,_,_,_,_,_] _
 refine Qac (Qaj (Qas rfl ?_))
 obtain rfl:=QsJ H
 subst Hx1_
 have hs:St _ [] _:=St.take (Γ':=[]) hs
 refine QbE rfl ?_
 exact ha1_ _ _ ⟨Hr1_,rfl,hs⟩
def QaU.post (w0:World) (r:Bool) (v:Value) (w:World):Prop:=v=bool r∧St w0 [] w
theorem QaU.calls {N:Nat} {a1:(List Int)} {a3:Int} {v2:Value} {b4:Nat} {w0:World} {r:Bool} (hr0:RdRow (K.int .u16) w0 v2 a1) (hp200:w0.heap[b4]?=some (.cells (((encI .u16) a3):List Value).toArray 46 (0,0))) (H:QaU.f N a1 a3=some r):
 Calls Tryz.prog 51 #[v2,Value.func (Fn.func 84) #[] #[pointer (some ⟨b4,0,none⟩)]] w0 fun e w=>∃ v,e= .returned v∧QaU.post w0 r v w:=by
 unfold QaU.f at H
 have hs:St w0 [] w0:=St.refl w0
 refine calls_of_g (n:=7) Tryz.func51 rfl rfl ?_
 show G _ _ _ _ [_,_,_,_,_,_,_,_,_] _
 refine Qaj (Qan [0] rfl ?_)
 refine Qab (v:=bool false) rfl rfl rfl ?_
 show G _ _ _ _ [_,_,_,_,_,_,_,_,_] _
 refine Qac (Qaj (Qan [0,1,2,3,4] rfl ?_))
 refine Qab (v:=v2) rfl rfl rfl ?_
 refine Qab (v:=Value.func (Fn.func 84) #[] #[pointer (some ⟨b4,0,none⟩)]) rfl rfl rfl ?_
 obtain ⟨r6,Hr6,H⟩:=bind_get H
 refine Qaz (args:=[v2,Value.func (Fn.func 84) #[] #[pointer (some ⟨b4,0,none⟩)]]) rfl rfl (QaA rfl (callFunc_enter Tryz.func79 rfl rfl) rfl) (Qav.calls (a1:=a1) (a3:=a3) (hs.rd hr0) (hs.box hp200) Hr6) ?_
 rintro _ w ⟨rfl,hs2⟩
 have hs:St _ [] _:=hs.call hs2
 show G _ _ _ _ [_,_,_,_,_,_,_,_,_] _
 refine Qab (v:=bool (decide (r6≥0))) rfl rfl rfl ?_
 refine Qab (v:=bool (decide (r6≥0))) rfl rfl rfl (Qac ?_)
 obtain rfl:=QsJ H
 refine QaB Tryz.func51 (v:=bool (decide (r6≥0))) (res1 rfl rfl) ?_
 have hs:St _ [] _:=St.take (Γ':=[]) hs
 exact ⟨_,rfl,rfl,hs⟩
def QbH.post (w0:World) (r:Bool) (v:Value) (w:World):Prop:=v=bool r∧St w0 [] w
theorem QbH.calls {N:Nat} {a1:Qaf} {a4:Int} {v2:Value} {w0:World} {r:Bool} (hr3:RdRow (K.int .u16) w0 v2 a1.Qal) (H:QbH.f N a1 a4=some r):
 Calls Tryz.prog 59 #[agg (([int .i8 a1.Qad,int .i8 a1.Qag,v2]:List Value)).toArray,int .u16 a4] w0 fun e w=>∃ v,e= .returned v∧QbH.post w0 r v w:=by
 unfold QbH.f at H
 have hs:St w0 [] w0:=St.refl w0
 refine calls_of_g (n:=8) Tryz.func59 rfl rfl ?_
 show G _ _ _ _ [_,_,_,_,_,_,_,_,_,_] _
 refine Qaj (Qan [0,1,2] rfl ?_)
 refine Qbw hs rfl rfl (cs:=(([int .i8 a1.Qad,int .i8 a1.Qag,v2]:List Value))) rfl rfl ?_
 intro b5 w hs
 show G _ _ _ _ [_,_,_,_,_,_,_,_,_,_] _
 refine Qbw hs rfl rfl (cs:=((encI .u16) a4)) rfl rfl ?_
 intro b7 w hs
 refine Qab (v:=bool false) rfl rfl rfl (Qac (Qaj (Qan [0,1,2,3,4,5] rfl ?_)))
 refine Qab (v:=pointer (some ⟨b5,2,none⟩)) rfl rfl rfl ?_
 show G _ _ _ _ [_,_,_,_,_,_,_,_,_,_] _
 refine Qaw rfl rfl (v:=v2) rfl rfl (fun _=>rfl) (cells_load (hs.cells 1 rfl) 2 1 rfl) ?_
 refine Qab (v:=Value.func (Fn.func 84) #[] #[pointer (some ⟨b7,0,none⟩)]) rfl rfl (QcW rfl rfl) ?_
 obtain ⟨r9,Hr9,H⟩:=bind_get H
 refine Qaz (args:=[v2,Value.func (Fn.func 84) #[] #[pointer (some ⟨b7,0,none⟩)]]) rfl rfl (QaA rfl (callFunc_enter Tryz.func51 rfl rfl) rfl) (QaU.calls (a1:=a1.Qal) (a3:=a4) (hs.rd hr3) (hs.cells 0 rfl) Hr9) ?_
 rintro _ w ⟨rfl,hs2⟩
 have hs:St _ [_,_] _:=hs.call hs2
 show G _ _ _ _ [_,_,_,_,_,_,_,_,_,_] _
 refine Qab (v:=bool (!r9)) rfl rfl rfl ?_
 refine Qab (v:=bool (!r9)) rfl rfl rfl (Qac ?_)
 obtain rfl:=QsJ H
 refine QaB Tryz.func59 (v:=bool (!r9)) (res1 rfl rfl) ?_
 have hs:St _ [] _:=St.take (Γ':=[_,_]) hs
 exact ⟨_,rfl,rfl,hs⟩
def Qbx.post (w0:World) (r:Bool) (v:Value) (w:World):Prop:=v=bool r∧St w0 [] w
theorem Qbx.calls {N:Nat} {a1:Qaf} {a4:Qak} {v2:Value} {w0:World} {r:Bool} (hr3:RdRow (K.int .u16) w0 v2 a1.Qal) (H:Qbx.f N a1 a4=some r):
 Calls Tryz.prog 60 #[agg (([int .i8 a1.Qad,int .i8 a1.Qag,v2]:List Value)).toArray,agg (Qaa a4).toArray] w0 fun e w=>∃ v,e= .returned v∧Qbx.post w0 r v w:=by
 unfold Qbx.f at H
 have hs:St w0 [] w0:=St.refl w0
 refine calls_of_g (n:=21) Tryz.func60 rfl rfl ?_
 show G _ _ _ _ [_,_,_,_,_,_,_,_,_,_,_,_,_,_,_,_,_,_,_,_,_,_,_] _
 refine Qaj (Qan [0,1,2] rfl ?_)
 refine Qbw hs rfl rfl (cs:=(([int .i8 a1.Qad,int .i8 a1.Qag,v2]:List Value))) rfl rfl ?_
 intro b5 w hs
 show G _ _ _ _ [_,_,_,_,_,_,_,_,_,_,_,_,_,_,_,_,_,_,_,_,_,_,_] _
 refine Qbw hs rfl rfl (cs:=(Qaa a4)) rfl rfl ?_
 intro b7 w hs
 refine Qab (v:=bool false) rfl rfl rfl (Qac (Qaj (Qan [0,1,2,3,4,5,6,7] rfl ?_)))
 refine QaF rfl rfl (es:=(([int .i8 a1.Qad,int .i8 a1.Qag,v2]:List Value))) rfl rfl (fun _=>rfl) (n:=3) (fun _=>rfl) rfl (cells_all (hs.cells 1 rfl)) ?_
 show G _ _ _ _ [_,_,_,_,_,_,_,_,_,_,_,_,_,_,_,_,_,_,_,_,_,_,_] _
 refine QaF rfl rfl (es:=(Qaa a4)) rfl rfl (fun _=>rfl) (n:=2) (fun _=>rfl) (Qam.len _) (cells_all (hs.cells 0 rfl)) ?_
 obtain ⟨r9,Hr9,H⟩:=bind_get H
 refine Qaz (args:=[agg (([int .i8 a1.Qad,int .i8 a1.Qag,v2]:List Value)).toArray,agg (Qaa a4).toArray]) rfl rfl (QaA rfl (callFunc_enter Tryz.func80 rfl rfl) rfl) (QbF.calls (a1:=(⟨a1.Qad,a1.Qag,a1.Qal⟩:Qaf)) (a4:=a4) (hs.rd hr3) Hr9) ?_
 rintro _ w ⟨rfl,hs2⟩
 have hs:St _ [_,_] _:=hs.call hs2
 refine Qab (v:=tuple #[int .u16 r9.1,int .u16 r9.2]) rfl rfl rfl ?_
 show G _ _ _ _ [_,_,_,_,_,_,_,_,_,_,_,_,_,_,_,_,_,_,_,_,_,_,_] _
 refine Qab (v:=int .u16 r9.1) rfl rfl rfl ?_
 refine Qab (v:=int .u16 r9.2) rfl rfl rfl ?_
 refine Qab (v:=int .u16 r9.1) rfl rfl rfl ?_
 show G _ _ _ _ [_,_,_,_,_,_,_,_,_,_,_,_,_,_,_,_,_,_,_,_,_,_,_] _
 refine Qab (v:=int .u16 r9.2) rfl rfl rfl (Qac (Qaj ?_))
 refine Qck (n:=11) rfl [0,1,2,3,4,5,6,7,8,9,10] [0,1,2,3,4,5,6,7,8,9,10] rfl rfl ?_
 intro rest w hh hbw hO
 have hs:=hs.samew hh hbw
 show G _ _ _ _ [_,_,_,_,_,_,_,_,_,_,_,_,_,_,_,_,_,_,_,_,_,_,_] _
 obtain ⟨r10,Hr10,H⟩:=bind_get H
 refine QaV ?_
 intro T hT
 refine Qbb (m0:=0) hO rfl 15 [0,1,2,3] [0,1,0,4,15,31,63,63,255,511,1023] (by decide+kernel) (fun D t w=>∃ O:Nat→Value,t=[agg (([int .i8 a1.Qad,int .i8 a1.Qag,v2]:List Value)).toArray,agg (Qaa a4).toArray,pointer (some ⟨b5,0,none⟩),pointer (some ⟨b7,0,none⟩),bool false,int .u16 r9.1,int .u16 r9.2,tuple #[int .u16 r9.1,int .u16 r9.2],agg (([int .i8 a1.Qad,int .i8 a1.Qag,v2]:List Value)).toArray,agg (Qaa a4).toArray,tuple #[int .u16 r9.1,int .u16 r9.2],int .u16 r9.1,int .u16 r9.2,cnd (D 0) (pointer (some ⟨b7,0,none⟩)) (O 13),cnd (D 1) (int .u16 a4.Qat) (O 14),cnd (D 2) (agg (([int .i8 a1.Qad,int .i8 a1.Qag,v2]:List Value)).toArray) (O 15),cnd (D 3) (int .u16 r10) (O 16),O 17,O 18,O 19,O 20,O 21,O 22]∧St w0 [Cells b7 (Qaa a4) 48,Cells b5 (([int .i8 a1.Qad,int .i8 a1.Qag,v2]:List Value)) 27] w) ?_ ⟨?_,⟨?_,⟨?_,⟨?_,trivial⟩⟩⟩⟩ ?_
 ·exact ⟨fun i=>T.getD i undef,(by subst hT;rfl),hs⟩
 ·
  rintro D t w hD hp hcl ⟨O,ht,hs⟩ rest hk
  have hp:AllDone D []:=hp
  have q1_:=ny hcl 1 0 hD
  simp only [hD,q1_,cq,oT] at ht hs
  subst ht
  refine Qab (v:=pointer (some ⟨b7,0,none⟩)) rfl rfl rfl ?_
  show G _ _ _ _ [_,_,_,_,_,_,_,_,_,_,_,_,_,_,_,_,_,_,_,_,_,_,_] _
  refine hk _ _ ⟨O,?_,hs.cast ?_⟩<;>simp only [oT,lq,cq,Nat.reduceBEq,q1_]
 ·
  rintro D t w hD hp hcl ⟨O,ht,hs⟩ rest hk
  have hp:AllDone D [0]:=hp
  obtain ⟨p0_,_⟩:=hp
  simp only [hD,p0_,cq,oT] at ht hs
  subst ht
  refine Qaw rfl rfl (v:=int .u16 a4.Qat) rfl rfl (fun _=>rfl) (cells_load (hs.cells 0 rfl) 0 1 rfl) ?_
  show G _ _ _ _ [_,_,_,_,_,_,_,_,_,_,_,_,_,_,_,_,_,_,_,_,_,_,_] _
  refine hk _ _ ⟨O,?_,hs.cast ?_⟩<;>simp only [oT,lq,cq,Nat.reduceBEq,p0_]
 ·
  rintro D t w hD hp hcl ⟨O,ht,hs⟩ rest hk
  have hp:AllDone D []:=hp
  have q3_:=ny hcl 3 0 hD
  simp only [hD,q3_,cq,oT] at ht hs
  subst ht
  refine QaF rfl rfl (es:=(([int .i8 a1.Qad,int .i8 a1.Qag,v2]:List Value))) rfl rfl (fun _=>rfl) (n:=3) (fun _=>rfl) rfl (cells_all (hs.cells 1 rfl)) ?_
  show G _ _ _ _ [_,_,_,_,_,_,_,_,_,_,_,_,_,_,_,_,_,_,_,_,_,_,_] _
  refine hk _ _ ⟨O,?_,hs.cast ?_⟩<;>simp only [oT,lq,cq,Nat.reduceBEq,q3_]
 ·
  rintro D t w hD hp hcl ⟨O,ht,hs⟩ rest hk
  have hp:AllDone D [2]:=hp
  obtain ⟨p2_,_⟩:=hp
  simp only [hD,p2_,cq,oT] at ht hs
  subst ht
  refine Qaz (args:=[agg (([int .i8 a1.Qad,int .i8 a1.Qag,v2]:List Value)).toArray]) rfl rfl (QaA rfl (callFunc_enter Tryz.func44 rfl rfl) rfl) (QaZ.calls (a1:=(⟨a1.Qad,a1.Qag,a1.Qal⟩:Qaf)) (hs.rd hr3) Hr10) ?_
  rintro _ w ⟨rfl,hs2⟩
  have hs:St _ [_,_] _:=hs.call hs2
  show G _ _ _ _ [_,_,_,_,_,_,_,_,_,_,_,_,_,_,_,_,_,_,_,_,_,_,_] _
  refine hk _ _ ⟨O,?_,hs.cast ?_⟩<;>simp only [oT,lq,cq,Nat.reduceBEq,p2_]
 intro D t w rest hall hO1_ hI
 obtain ⟨O,ht,hs⟩:=hI
 have p0_:=hall 0 (by decide) rfl
 have p1_:=hall 1 (by decide) rfl
 have p2_:=hall 2 (by decide) rfl
 have p3_:=hall 3 (by decide) rfl
 simp only [p0_,p1_,p2_,p3_,cq,oT] at ht hs
 subst ht
 obtain ⟨rest,rfl,hO2_⟩:=ord_one (m:=15) hO1_ rfl 4 (m':=31) (by decide+kernel) rfl
 clear hO1_
 obtain ⟨r11,Hr11,H⟩:=bind_get H
 refine Qaz (args:=[int .u16 a4.Qat,int .u16 r10]) rfl rfl (QaA rfl (callFunc_enter Tryz.func53 rfl rfl) rfl) (Qby.calls (a1:=a4.Qat) (a2:=r10) Hr11) ?_
 rintro _ w ⟨rfl,hs2⟩
 have hs:St _ [_,_] _:=hs.call hs2
 cases r11 with
 |true=>
  rw [if_pos rfl] at H
  obtain ⟨rest,rfl,hO3_⟩:=ord_one (m:=31) hO2_ rfl 5 (m':=63) (by decide+kernel) rfl
  clear hO2_
  refine Qab (v:=bool true) rfl rfl rfl ?_
  refine QaV ?_
  intro T hT
  refine Qbb (m0:=63) hO3_ rfl 255 [6,7] [0,1,0,4,15,31,63,63,255,511,1023] (by decide+kernel) (fun D t w=>∃ O:Nat→Value,t=[agg (([int .i8 a1.Qad,int .i8 a1.Qag,v2]:List Value)).toArray,agg (Qaa a4).toArray,pointer (some ⟨b5,0,none⟩),pointer (some ⟨b7,0,none⟩),bool false,int .u16 r9.1,int .u16 r9.2,tuple #[int .u16 r9.1,int .u16 r9.2],agg (([int .i8 a1.Qad,int .i8 a1.Qag,v2]:List Value)).toArray,agg (Qaa a4).toArray,tuple #[int .u16 r9.1,int .u16 r9.2],int .u16 r9.1,int .u16 r9.2,pointer (some ⟨b7,0,none⟩),int .u16 a4.Qat,agg (([int .i8 a1.Qad,int .i8 a1.Qag,v2]:List Value)).toArray,int .u16 r10,bool true,bool true,cnd (D 6) (agg (([int .i8 a1.Qad,int .i8 a1.Qag,v2]:List Value)).toArray) (O 19),cnd (D 7) (int .u16 r9.2) (O 20),O 21,O 22]∧St w0 [Cells b7 (Qaa a4) 48,Cells b5 (([int .i8 a1.Qad,int .i8 a1.Qag,v2]:List Value)) 27] w) ?_ ⟨?_,⟨?_,trivial⟩⟩ ?_
  ·exact ⟨fun i=>T.getD i undef,(by subst hT;rfl),hs⟩
  ·
   rintro D t w hD hp hcl ⟨O,ht,hs⟩ rest hk
   have hp:AllDone D [5]:=hp
   obtain ⟨p5_,_⟩:=hp
   simp only [hD,cq,oT] at ht hs
   subst ht
   refine QaF rfl rfl (es:=(([int .i8 a1.Qad,int .i8 a1.Qag,v2]:List Value))) rfl rfl (fun _=>rfl) (n:=3) (fun _=>rfl) rfl (cells_all (hs.cells 1 rfl)) ?_
   show G _ _ _ _ [_,_,_,_,_,_,_,_,_,_,_,_,_,_,_,_,_,_,_,_,_,_,_] _
   refine hk _ _ ⟨O,?_,hs.cast ?_⟩<;>simp only [oT,lq,cq,Nat.reduceBEq]
  ·
   rintro D t w hD hp hcl ⟨O,ht,hs⟩ rest hk
   have hp:AllDone D [5]:=hp
   obtain ⟨p5_,_⟩:=hp
   simp only [hD,cq,oT] at ht hs
   subst ht
   refine Qab (v:=int .u16 r9.2) rfl rfl rfl ?_
   show G _ _ _ _ [_,_,_,_,_,_,_,_,_,_,_,_,_,_,_,_,_,_,_,_,_,_,_] _
   refine hk _ _ ⟨O,?_,hs.cast ?_⟩<;>simp only [oT,lq,cq,Nat.reduceBEq]
  intro D t w rest hall hO4_ hI
  obtain ⟨O,ht,hs⟩:=hI
  have p6_:=hall 6 (by decide) rfl
  have p7_:=hall 7 (by decide) rfl
  simp only [p6_,p7_,cq,oT] at ht hs
  subst ht
  obtain ⟨rest,rfl,hO5_⟩:=ord_one (m:=255) hO4_ rfl 8 (m':=511) (by decide+kernel) rfl
  clear hO4_
  obtain ⟨r12,Hr12,H⟩:=bind_get H
  refine Qaz (args:=[agg (([int .i8 a1.Qad,int .i8 a1.Qag,v2]:List Value)).toArray,int .u16 r9.2]) rfl rfl (QaA rfl (callFunc_enter Tryz.func59 rfl rfl) rfl) (QbH.calls (a1:=(⟨a1.Qad,a1.Qag,a1.Qal⟩:Qaf)) (a4:=r9.2) (hs.rd hr3) Hr12) ?_
  rintro _ w ⟨rfl,hs2⟩
  have hs:St _ [_,_] _:=hs.call hs2
  show G _ _ _ _ [_,_,_,_,_,_,_,_,_,_,_,_,_,_,_,_,_,_,_,_,_,_,_] _
  obtain ⟨rest,rfl,hO6_⟩:=ord_one (m:=511) hO5_ rfl 9 (m':=1023) (by decide+kernel) rfl
  clear hO5_
  refine Qab (v:=bool r12) rfl rfl rfl ?_
  obtain ⟨rest,rfl,hO7_⟩:=ord_one (m:=1023) hO6_ rfl 10 (m':=2047) (by decide+kernel) rfl
  clear hO6_
  refine Qab (v:=bool r12) rfl rfl rfl ?_
  obtain rfl:=ord_end hO7_ rfl (by decide+kernel)
  refine Qac ?_
  obtain rfl:=QsJ H
  refine QaB Tryz.func60 (v:=bool r12) (res1 rfl rfl) ?_
  have hs:St _ [] _:=St.take (Γ':=[_,_]) hs
  exact ⟨_,rfl,rfl,hs⟩
 |false=>
  rw [if_neg Bool.false_ne_true] at H
  obtain ⟨rest,rfl,hO8_⟩:=ord_one (m:=31) hO2_ rfl 5 (m':=63) (by decide+kernel) rfl
  clear hO2_
  refine Qab (v:=bool false) rfl rfl rfl ?_
  show G _ _ _ _ [_,_,_,_,_,_,_,_,_,_,_,_,_,_,_,_,_,_,_,_,_,_,_] _
  refine QaV ?_
  intro T hT
  refine Qbb (m0:=63) hO8_ rfl 255 [6,7] [0,1,0,4,15,31,63,63,255,511,1023] (by decide+kernel) (fun D t w=>∃ O:Nat→Value,t=[agg (([int .i8 a1.Qad,int .i8 a1.Qag,v2]:List Value)).toArray,agg (Qaa a4).toArray,pointer (some ⟨b5,0,none⟩),pointer (some ⟨b7,0,none⟩),bool false,int .u16 r9.1,int .u16 r9.2,tuple #[int .u16 r9.1,int .u16 r9.2],agg (([int .i8 a1.Qad,int .i8 a1.Qag,v2]:List Value)).toArray,agg (Qaa a4).toArray,tuple #[int .u16 r9.1,int .u16 r9.2],int .u16 r9.1,int .u16 r9.2,pointer (some ⟨b7,0,none⟩),int .u16 a4.Qat,agg (([int .i8 a1.Qad,int .i8 a1.Qag,v2]:List Value)).toArray,int .u16 r10,bool false,bool false,cnd (D 6) undef (O 19),cnd (D 7) undef (O 20),O 21,O 22]∧St w0 [Cells b7 (Qaa a4) 48,Cells b5 (([int .i8 a1.Qad,int .i8 a1.Qag,v2]:List Value)) 27] w) ?_ ⟨?_,⟨?_,trivial⟩⟩ ?_
  ·exact ⟨fun i=>T.getD i undef,(by subst hT;rfl),hs⟩
  ·
   rintro D t w hD hp hcl ⟨O,ht,hs⟩ rest hk
   have hp:AllDone D [5]:=hp
   obtain ⟨p5_,_⟩:=hp
   simp only [hD,cq,oT] at ht hs
   subst ht
   refine Qae rfl rfl ?_
   show G _ _ _ _ [_,_,_,_,_,_,_,_,_,_,_,_,_,_,_,_,_,_,_,_,_,_,_] _
   refine hk _ _ ⟨O,?_,hs.cast ?_⟩<;>simp only [oT,cq,Nat.reduceBEq]
  ·
   rintro D t w hD hp hcl ⟨O,ht,hs⟩ rest hk
   have hp:AllDone D [5]:=hp
   obtain ⟨p5_,_⟩:=hp
   simp only [hD,cq,oT] at ht hs
   subst ht
   refine Qae rfl rfl ?_
   show G _ _ _ _ [_,_,_,_,_,_,_,_,_,_,_,_,_,_,_,_,_,_,_,_,_,_,_] _
   refine hk _ _ ⟨O,?_,hs.cast ?_⟩<;>simp only [oT,cq,Nat.reduceBEq]
  intro D t w rest hall hO9_ hI
  obtain ⟨O,ht,hs⟩:=hI
  have p6_:=hall 6 (by decide) rfl
  have p7_:=hall 7 (by decide) rfl
  simp only [p6_,p7_,cq,oT] at ht hs
  subst ht
  obtain ⟨rest,rfl,hO10_⟩:=ord_one (m:=255) hO9_ rfl 8 (m':=511) (by decide+kernel) rfl
  clear hO9_
  refine Qae rfl rfl ?_
  obtain ⟨rest,rfl,hO11_⟩:=ord_one (m:=511) hO10_ rfl 9 (m':=1023) (by decide+kernel) rfl
  clear hO10_
  refine Qab (v:=bool false) rfl rfl rfl ?_
  obtain ⟨rest,rfl,hO12_⟩:=ord_one (m:=1023) hO11_ rfl 10 (m':=2047) (by decide+kernel) rfl
  clear hO11_
  refine Qab (v:=bool false) rfl rfl rfl ?_
  show G _ _ _ _ [_,_,_,_,_,_,_,_,_,_,_,_,_,_,_,_,_,_,_,_,_,_,_] _
  obtain rfl:=ord_end hO12_ rfl (by decide+kernel)
  refine Qac ?_
  obtain rfl:=QsJ H
  refine QaB Tryz.func60 (v:=bool false) (res1 rfl rfl) ?_
  have hs:St _ [] _:=St.take (Γ':=[_,_]) hs
  exact ⟨_,rfl,rfl,hs⟩
def Qb7.post (w0:World) (r:Int) (v:Value) (w:World):Prop:=v=int .i64 r∧St w0 [] w
theorem Qb7.calls {N:Nat} {a1:Bool} {a2:Int} {w0:World} {r:Int} (H:Qb7.f N a1 a2=some r):
 Calls Tryz.prog 81 #[bool a1,int .i64 a2] w0 fun e w=>∃ v,e= .returned v∧Qb7.post w0 r v w:=by
 unfold Qb7.f at H
 have hs:St w0 [] w0:=St.refl w0
 refine calls_of_g (n:=5) Tryz.func81 rfl rfl ?_
 show G _ _ _ _ [_,_,_,_,_,_,_] _
 refine Qaj (Qan [0] rfl ?_)
 refine Qab (v:=int .i64 0) rfl rfl rfl (Qac (Qaj (Qaj (Qan [0] rfl ?_))))
 refine QaI (B:=a1) rfl rfl rfl ?_ ?_
 ·
  intro hb
  rw [if_pos (b_var_t hb)] at H
  refine Qac (Qaq rfl (Qaj (Qan [0] rfl ?_)))
  refine Qab (v:=int .i64 0) rfl rfl rfl ?_
  show G _ _ _ _ [_,_,_,_,_,_,_] _
  refine Qac ?_
  obtain rfl:=QsJ H
  refine QaB Tryz.func81 (v:=int .i64 0) (res1 rfl rfl) ?_
  have hs:St _ [] _:=St.take (Γ':=[]) hs
  exact ⟨_,rfl,rfl,hs⟩
 intro hb
 rw [if_neg (b_var_f hb)] at H
 show G _ _ _ _ [_,_,_,_,_,_,_] _
 refine Qac (Qas rfl (QaK (Qaj (Qan [0,1] rfl ?_))))
 refine Qab (v:=int .i64 a2) rfl rfl rfl ?_
 refine Qab (v:=int .i64 a2) rfl rfl rfl (Qac ?_)
 obtain rfl:=QsJ H
 refine QaB Tryz.func81 (v:=int .i64 a2) (res1 rfl rfl) ?_
 have hs:St _ [] _:=St.take (Γ':=[]) hs
 exact ⟨_,rfl,rfl,hs⟩
end Go.Proofs.YtblbfnngmeoipaaGreatDoorX
