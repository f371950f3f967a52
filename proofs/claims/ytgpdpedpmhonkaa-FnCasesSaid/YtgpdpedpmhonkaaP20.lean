import Derived.Test.YtgpdpedpmhonkaaProg
import Derived.Test.YtgpdpedpmhonkaaP3
import Derived.Test.YtgpdpedpmhonkaaP4
import Derived.Test.YtgpdpedpmhonkaaP5
import Derived.Test.YtgpdpedpmhonkaaP6
import Derived.Test.YtgpdpedpmhonkaaP7
import Derived.Test.YtgpdpedpmhonkaaP8
import Derived.Test.YtgpdpedpmhonkaaP9
import Derived.Test.YtgpdpedpmhonkaaP10
import Derived.Test.YtgpdpedpmhonkaaP18
import Derived.Test.YtgpdpedpmhonkaaP19
namespace Go.Proofs.YtgpdpedpmhonkaaX
open Go Go.RowKit Go.Proofs
open Go.Value (int pointer bool agg slice string tuple)
set_option maxHeartbeats 8000000
set_option maxRecDepth 100000
set_option linter.unusedVariables false
set_option linter.unusedSimpArgs false
theorem Qak.seg6 {N:Nat} {a1:(List Int)} {a3:(List Int)} {v2:Value} {v4:Value} {r15:((List Qai)×Int)} {r18:((List Qai)×Int)} {x42:Int} {r43:((Ar (List Qai) 3)×Int)} {x14:(Ar Int 14)} {r7:Qaq} {x34:(List Qai)} {x37:(List Qai)} {x40:(List Qai)} {b8:Nat} {b13:Nat} {v16:Value} {v19:Value} {b32:Nat} {b50:Nat} {v33:Value} {v36:Value} {v39:Value} {v44:Value} {v45:Value} {v46:Value} {w0:World} {r:Bool} (hr0:RdRow (K.int .u8) w0 v2 a1) (hr1:RdRow (K.int .u8) w0 v4 a3):
 ∀ t w,(fun t w=>∃ b65:Nat,∃ x66:(Ar Int 14),∃ x67:Int,Qak.j2 N r15 r18 x42 r43 x14 r7 x34 x37 x40 x66 x67=some r∧Fr t (fun O=>(O 0::O 1::O 2::O 3::O 4::pointer (some ⟨b8,0,none⟩)::pointer (some ⟨b13,0,none⟩)::v16::int .i64 r15.2::v19::int .i64 r18.2::pointer (some ⟨b32,0,none⟩)::int .i64 x42::pointer (some ⟨b50,0,none⟩)::int .i64 r43.2::pointer (some ⟨b65,0,none⟩)::int .i64 x67::O 17::O 18::O 19::oT O 2 (oT O 3 (oT O 4 (oT O 5 (oT O 6 (oT O 7 (oT O 8 (oT O 9 (oT O 10 (oT O 11 (oT O 12 (oT O 13 (oT O 14 (oT O 15 (oT O 16 (oT O 17 (oT O 18 (oT O 19 (oT O 20 (oT O 21 (oT O 22 (oT O 23 (oT O 24 (oT O 25 (oT O 26 (oT O 27 (oT O 28 (oT O 29 (O 300::O 301::O 302::O 303::[])))))))))))))))))))))))))))):List Value))∧St w0 [Cells b8 (Qae r7) 27,Cells b13 ((encA (encI .i8)) x14) 37,Row 53 Qah v16 r15.1,Row 53 Qah v19 r18.1,Cells b32 (([v33,v36,v39]:List Value)) 42,Row 53 Qah v33 x34,Row 53 Qah v36 x37,Row 53 Qah v39 x40,Cells b50 (([v44,v45,v46]:List Value)) 42,Row 53 Qah v44 (r43.1.get 0 []),Row 53 Qah v45 (r43.1.get 1 []),Row 53 Qah v46 (r43.1.get 2 []),Cells b65 ((encA (encI .i8)) x66) 37] w) t w→G Try.prog 5 (fun e w=>∃ v,e= .returned v∧Qak.post w0 r v w) [.code (Code.at_ (Try.f5.body.getD .skip) [1,1,1,1,1,1,1,1,1])] t w:=by
 rintro t w ⟨b65,x66,x67,H,hf,hs⟩
 obtain ⟨O,rfl⟩:=hf.open
 try dsimp only [oT]
 unfold Qak.j2 at H
 refine Qag (Qag ?_)
 refine QcB (J:=(fun t w=>Qak.j3 N x34 r43 r7 x14 x37 x40 r18=some r∧Fr t (fun O=>(O 0::O 1::O 2::O 3::O 4::pointer (some ⟨b8,0,none⟩)::pointer (some ⟨b13,0,none⟩)::O 7::O 8::v19::O 10::pointer (some ⟨b32,0,none⟩)::O 12::pointer (some ⟨b50,0,none⟩)::O 14::O 15::O 16::O 17::O 18::O 19::oT O 2 (oT O 3 (oT O 4 (oT O 5 (oT O 6 (oT O 7 (oT O 8 (oT O 9 (oT O 10 (oT O 11 (oT O 12 (oT O 13 (oT O 14 (oT O 15 (oT O 16 (oT O 17 (oT O 18 (oT O 19 (oT O 20 (oT O 21 (oT O 22 (oT O 23 (oT O 24 (oT O 25 (oT O 26 (oT O 27 (oT O 28 (oT O 29 (O 300::O 301::O 302::O 303::[])))))))))))))))))))))))))))):List Value))∧St w0 [Cells b8 (Qae r7) 27,Cells b13 ((encA (encI .i8)) x14) 37,Row 53 Qah v19 r18.1,Cells b32 (([v33,v36,v39]:List Value)) 42,Row 53 Qah v33 x34,Row 53 Qah v36 x37,Row 53 Qah v39 x40,Cells b50 (([v44,v45,v46]:List Value)) 42,Row 53 Qah v44 (r43.1.get 0 []),Row 53 Qah v45 (r43.1.get 1 []),Row 53 Qah v46 (r43.1.get 2 [])] w)) ?_ ?_
 ·exact Qak.seg5 hr0 hr1
 intro ha
 refine Qan [0,1,2,3,4,5,6,7,8,9,10,11,12,13,14,15,16,17,18,19,20,21,22,23,24,25,26,27,28,29,30,31,32,33,34,35,36,37,38,39,40,41] rfl ?_
 refine Qab (v:=int .i64 r15.2) rfl rfl rfl (g_d rfl ?_)
 refine Qab (v:=int .i64 r18.2) rfl rfl rfl (g_d rfl ?_)
 refine QaR (B:=r15.2 !=r18.2) rfl rfl rfl ?_ ?_
 ·
  intro hb
  rw [if_neg (b_bne_t hb)] at H
  refine g_d rfl ?_
  refine Qab (v:=bool true) rfl rfl rfl (g_d rfl (Qal rfl rfl (g_d rfl (Qal rfl rfl (g_d rfl ?_)))))
  try dsimp only [set0,setS]
  refine Qab (v:=bool true) rfl rfl rfl (g_d rfl ?_)
  refine Qab (v:=bool true) rfl rfl rfl (g_d rfl (Qal rfl rfl (g_d rfl (Qal rfl rfl (g_d rfl (Qal rfl rfl (g_d rfl ?_)))))))
  try dsimp only [set0,setS]
  refine Qal rfl rfl (g_d rfl ?_)
  refine Qab (v:=bool true) rfl rfl rfl (g_d rfl ?_)
  try dsimp only [set0,setS]
  refine Qab (v:=bool true) rfl rfl rfl (g_d rfl (Qal rfl rfl (g_d rfl (Qal rfl rfl (g_d rfl (Qal rfl rfl (g_d rfl ?_)))))))
  refine Qab (v:=bool true) rfl rfl rfl (g_d rfl ?_)
  try dsimp only [set0,setS]
  refine Qab (v:=bool true) rfl rfl rfl (g_d rfl (Qal rfl rfl (g_d rfl (Qal rfl rfl (g_d rfl ?_)))))
  refine Qab (v:=bool true) rfl rfl rfl (g_d rfl ?_)
  try dsimp only [set0,setS]
  refine Qab (v:=bool true) rfl rfl rfl (g_d rfl (Qal rfl rfl (g_d rfl (Qal rfl rfl (g_d rfl ?_)))))
  refine Qab (v:=bool true) rfl rfl rfl (g_d rfl ?_)
  try dsimp only [set0,setS]
  refine Qab (v:=bool true) rfl rfl rfl (g_d rfl (Qal rfl rfl (g_d rfl (Qal rfl rfl (g_d rfl ?_)))))
  try dsimp only [set0,setS]
  refine Qal rfl rfl (g_d rfl ?_)
  refine Qab (v:=bool true) rfl rfl rfl (g_d rfl ?_)
  try dsimp only [set0,setS]
  refine Qab (v:=bool true) rfl rfl rfl (g_d rfl (Qal rfl rfl (g_d rfl (Qal rfl rfl (g_d rfl ?_)))))
  try dsimp only [set0,setS]
  refine Qal rfl rfl (g_d rfl ?_)
  refine Qab (v:=bool true) rfl rfl rfl (g_d rfl ?_)
  try dsimp only [set0,setS]
  refine Qab (v:=bool true) rfl rfl rfl (g_d rfl (Qal rfl rfl (g_d rfl (Qal rfl rfl (g_d rfl ?_)))))
  try dsimp only [set0,setS]
  refine Qal rfl rfl (g_d rfl (Qal rfl rfl (g_d rfl ?_)))
  try dsimp only [set0,setS]
  refine Qab (v:=bool true) rfl rfl rfl (g_d rfl (Qaa (Qaw rfl (Qag (Qan [0] rfl ?_)))))
  refine Qab (v:=bool false) rfl rfl rfl (g_d rfl ?_)
  try dsimp only [set0,setS]
  refine Qaa ?_
  obtain rfl:=QsJ H
  refine QaK Try.func5 (v:=bool false) (res1 rfl rfl) ?_
  have hs:St _ [] _:=St.take (Γ':=[_,_,_,_,_,_,_,_,_,_,_,_,_]) hs
  exact ⟨_,rfl,rfl,hs⟩
 intro hb
 rw [if_pos (b_bne_f hb)] at H
 refine g_d rfl ?_
 try dsimp only [set0,setS]
 refine Qab (v:=bool false) rfl rfl rfl (g_d rfl ?_)
 refine Qab (v:=int .i64 r15.2) rfl rfl rfl (g_d rfl ?_)
 refine Qab (v:=bool (r15.2 !=0)) rfl rfl rfl (g_d rfl ?_)
 refine QaR (B:=r15.2 !=0) rfl rfl rfl ?_ ?_
 ·
  intro hb
  rw [if_neg (b_bne_t hb)] at H
  refine g_d rfl ?_
  refine Qab (v:=bool true) rfl rfl rfl (g_d rfl (Qal rfl rfl (g_d rfl (Qal rfl rfl (g_d rfl (Qal rfl rfl (g_d rfl ?_)))))))
  try dsimp only [set0,setS]
  refine Qal rfl rfl (g_d rfl ?_)
  refine Qab (v:=bool true) rfl rfl rfl (g_d rfl ?_)
  try dsimp only [set0,setS]
  refine Qab (v:=bool true) rfl rfl rfl (g_d rfl (Qal rfl rfl (g_d rfl (Qal rfl rfl (g_d rfl (Qal rfl rfl (g_d rfl ?_)))))))
  refine Qab (v:=bool true) rfl rfl rfl (g_d rfl ?_)
  try dsimp only [set0,setS]
  refine Qab (v:=bool true) rfl rfl rfl (g_d rfl (Qal rfl rfl (g_d rfl (Qal rfl rfl (g_d rfl ?_)))))
  refine Qab (v:=bool true) rfl rfl rfl (g_d rfl ?_)
  try dsimp only [set0,setS]
  refine Qab (v:=bool true) rfl rfl rfl (g_d rfl (Qal rfl rfl (g_d rfl (Qal rfl rfl (g_d rfl ?_)))))
  refine Qab (v:=bool true) rfl rfl rfl (g_d rfl ?_)
  try dsimp only [set0,setS]
  refine Qab (v:=bool true) rfl rfl rfl (g_d rfl (Qal rfl rfl (g_d rfl (Qal rfl rfl (g_d rfl ?_)))))
  try dsimp only [set0,setS]
  refine Qal rfl rfl (g_d rfl ?_)
  refine Qab (v:=bool true) rfl rfl rfl (g_d rfl ?_)
  try dsimp only [set0,setS]
  refine Qab (v:=bool true) rfl rfl rfl (g_d rfl (Qal rfl rfl (g_d rfl (Qal rfl rfl (g_d rfl ?_)))))
  try dsimp only [set0,setS]
  refine Qal rfl rfl (g_d rfl ?_)
  refine Qab (v:=bool true) rfl rfl rfl (g_d rfl ?_)
  try dsimp only [set0,setS]
  refine Qab (v:=bool true) rfl rfl rfl (g_d rfl (Qal rfl rfl (g_d rfl (Qal rfl rfl (g_d rfl ?_)))))
  try dsimp only [set0,setS]
  refine Qal rfl rfl (g_d rfl (Qal rfl rfl (g_d rfl ?_)))
  try dsimp only [set0,setS]
  refine Qab (v:=bool true) rfl rfl rfl (g_d rfl (Qaa (Qaw rfl (Qag (Qan [0] rfl ?_)))))
  refine Qab (v:=bool false) rfl rfl rfl (g_d rfl ?_)
  try dsimp only [set0,setS]
  refine Qaa ?_
  obtain rfl:=QsJ H
  refine QaK Try.func5 (v:=bool false) (res1 rfl rfl) ?_
  have hs:St _ [] _:=St.take (Γ':=[_,_,_,_,_,_,_,_,_,_,_,_,_]) hs
  exact ⟨_,rfl,rfl,hs⟩
 intro hb
 rw [if_pos (b_bne_f hb)] at H
 refine g_d rfl ?_
 try dsimp only [set0,setS]
 refine Qab (v:=bool false) rfl rfl rfl (g_d rfl ?_)
 refine Qab (v:=v16) rfl rfl rfl (g_d rfl ?_)
 refine Qab (v:=v19) rfl rfl rfl (g_d rfl ?_)
 obtain ⟨r68,Hr68,H⟩:=bind_get H
 refine QaP (args:=[v16,v19]) rfl rfl (QaT rfl (callFunc_enter Try.func20 rfl rfl) rfl) (Qbo.calls (a1:=r15.1) (a3:=r18.1) (hs.row 2 rfl) (hs.row 3 rfl) Hr68) ?_
 rintro _ w ⟨rfl,hs2⟩
 have hs:St _ [_,_,_,_,_,_,_,_,_,_,_,_,_] _:=hs.call hs2
 refine g_d rfl ?_
 refine Qab (v:=bool (!r68)) rfl rfl rfl (g_d rfl ?_)
 try dsimp only [set0,setS]
 refine QaR (B:=!r68) rfl rfl rfl ?_ ?_
 ·
  intro hb
  rw [if_neg (b_not_t hb)] at H
  refine g_d rfl ?_
  try dsimp only [set0,setS]
  refine Qab (v:=bool true) rfl rfl rfl (g_d rfl (Qal rfl rfl (g_d rfl (Qal rfl rfl (g_d rfl (Qal rfl rfl (g_d rfl ?_)))))))
  refine Qab (v:=bool true) rfl rfl rfl (g_d rfl ?_)
  try dsimp only [set0,setS]
  refine Qab (v:=bool true) rfl rfl rfl (g_d rfl (Qal rfl rfl (g_d rfl (Qal rfl rfl (g_d rfl ?_)))))
  refine Qab (v:=bool true) rfl rfl rfl (g_d rfl ?_)
  try dsimp only [set0,setS]
  refine Qab (v:=bool true) rfl rfl rfl (g_d rfl (Qal rfl rfl (g_d rfl (Qal rfl rfl (g_d rfl ?_)))))
  refine Qab (v:=bool true) rfl rfl rfl (g_d rfl ?_)
  try dsimp only [set0,setS]
  refine Qab (v:=bool true) rfl rfl rfl (g_d rfl (Qal rfl rfl (g_d rfl (Qal rfl rfl (g_d rfl ?_)))))
  try dsimp only [set0,setS]
  refine Qal rfl rfl (g_d rfl ?_)
  refine Qab (v:=bool true) rfl rfl rfl (g_d rfl ?_)
  try dsimp only [set0,setS]
  refine Qab (v:=bool true) rfl rfl rfl (g_d rfl (Qal rfl rfl (g_d rfl (Qal rfl rfl (g_d rfl ?_)))))
  try dsimp only [set0,setS]
  refine Qal rfl rfl (g_d rfl ?_)
  refine Qab (v:=bool true) rfl rfl rfl (g_d rfl ?_)
  try dsimp only [set0,setS]
  refine Qab (v:=bool true) rfl rfl rfl (g_d rfl (Qal rfl rfl (g_d rfl (Qal rfl rfl (g_d rfl ?_)))))
  try dsimp only [set0,setS]
  refine Qal rfl rfl (g_d rfl (Qal rfl rfl (g_d rfl ?_)))
  try dsimp only [set0,setS]
  refine Qab (v:=bool true) rfl rfl rfl (g_d rfl (Qaa (Qaw rfl (Qag (Qan [0] rfl ?_)))))
  refine Qab (v:=bool false) rfl rfl rfl (g_d rfl ?_)
  try dsimp only [set0,setS]
  refine Qaa ?_
  obtain rfl:=QsJ H
  refine QaK Try.func5 (v:=bool false) (res1 rfl rfl) ?_
  have hs:St _ [] _:=St.take (Γ':=[_,_,_,_,_,_,_,_,_,_,_,_,_]) hs
  exact ⟨_,rfl,rfl,hs⟩
 intro hb
 rw [if_pos (b_not_f hb)] at H
 refine g_d rfl ?_
 refine Qab (v:=bool false) rfl rfl rfl (g_d rfl ?_)
 refine Qab (v:=int .i64 x42) rfl rfl rfl (g_d rfl ?_)
 refine Qab (v:=int .i64 r43.2) rfl rfl rfl (g_d rfl ?_)
 refine Qab (v:=bool (x42 !=r43.2)) rfl rfl rfl (g_d rfl ?_)
 try dsimp only [set0,setS]
 refine QaR (B:=x42 !=r43.2) rfl rfl rfl ?_ ?_
 ·
  intro hb
  rw [if_neg (b_bne_t hb)] at H
  refine g_d rfl ?_
  refine Qab (v:=bool true) rfl rfl rfl (g_d rfl (Qal rfl rfl (g_d rfl (Qal rfl rfl (g_d rfl ?_)))))
  try dsimp only [set0,setS]
  refine Qab (v:=bool true) rfl rfl rfl (g_d rfl ?_)
  refine Qab (v:=bool true) rfl rfl rfl (g_d rfl (Qal rfl rfl (g_d rfl (Qal rfl rfl (g_d rfl ?_)))))
  try dsimp only [set0,setS]
  refine Qab (v:=bool true) rfl rfl rfl (g_d rfl ?_)
  refine Qab (v:=bool true) rfl rfl rfl (g_d rfl (Qal rfl rfl (g_d rfl ?_)))
  try dsimp only [set0,setS]
  refine Qal rfl rfl (g_d rfl (Qal rfl rfl (g_d rfl ?_)))
  try dsimp only [set0,setS]
  refine Qab (v:=bool true) rfl rfl rfl (g_d rfl ?_)
  refine Qab (v:=bool true) rfl rfl rfl (g_d rfl (Qal rfl rfl (g_d rfl ?_)))
  try dsimp only [set0,setS]
  refine Qal rfl rfl (g_d rfl (Qal rfl rfl (g_d rfl ?_)))
  try dsimp only [set0,setS]
  refine Qab (v:=bool true) rfl rfl rfl (g_d rfl ?_)
  refine Qab (v:=bool true) rfl rfl rfl (g_d rfl (Qal rfl rfl (g_d rfl ?_)))
  try dsimp only [set0,setS]
  refine Qal rfl rfl (g_d rfl (Qal rfl rfl (g_d rfl ?_)))
  try dsimp only [set0,setS]
  refine Qal rfl rfl (g_d rfl ?_)
  refine Qab (v:=bool true) rfl rfl rfl (g_d rfl ?_)
  try dsimp only [set0,setS]
  refine Qaa (Qaw rfl (Qag (Qan [0] rfl ?_)))
  refine Qab (v:=bool false) rfl rfl rfl (g_d rfl (Qaa ?_))
  obtain rfl:=QsJ H
  refine QaK Try.func5 (v:=bool false) (res1 rfl rfl) ?_
  have hs:St _ [] _:=St.take (Γ':=[_,_,_,_,_,_,_,_,_,_,_,_,_]) hs
  exact ⟨_,rfl,rfl,hs⟩
 intro hb
 rw [if_pos (b_bne_f hb)] at H
 refine g_d rfl ?_
 refine Qab (v:=bool false) rfl rfl rfl (g_d rfl ?_)
 refine Qab (v:=int .i64 x42) rfl rfl rfl (g_d rfl ?_)
 refine Qab (v:=bool (x42 !=0)) rfl rfl rfl (g_d rfl ?_)
 try dsimp only [set0,setS]
 refine QaR (B:=x42 !=0) rfl rfl rfl ?_ ?_
 ·
  intro hb
  rw [if_neg (b_bne_t hb)] at H
  refine g_d rfl ?_
  try dsimp only [set0,setS]
  refine Qab (v:=bool true) rfl rfl rfl (g_d rfl (Qal rfl rfl (g_d rfl (Qal rfl rfl (g_d rfl ?_)))))
  refine Qab (v:=bool true) rfl rfl rfl (g_d rfl ?_)
  try dsimp only [set0,setS]
  refine Qab (v:=bool true) rfl rfl rfl (g_d rfl (Qal rfl rfl (g_d rfl (Qal rfl rfl (g_d rfl ?_)))))
  try dsimp only [set0,setS]
  refine Qal rfl rfl (g_d rfl ?_)
  refine Qab (v:=bool true) rfl rfl rfl (g_d rfl ?_)
  try dsimp only [set0,setS]
  refine Qab (v:=bool true) rfl rfl rfl (g_d rfl (Qal rfl rfl (g_d rfl (Qal rfl rfl (g_d rfl ?_)))))
  try dsimp only [set0,setS]
  refine Qal rfl rfl (g_d rfl ?_)
  refine Qab (v:=bool true) rfl rfl rfl (g_d rfl ?_)
  try dsimp only [set0,setS]
  refine Qab (v:=bool true) rfl rfl rfl (g_d rfl (Qal rfl rfl (g_d rfl (Qal rfl rfl (g_d rfl ?_)))))
  try dsimp only [set0,setS]
  refine Qal rfl rfl (g_d rfl (Qal rfl rfl (g_d rfl ?_)))
  try dsimp only [set0,setS]
  refine Qab (v:=bool true) rfl rfl rfl (g_d rfl (Qaa (Qaw rfl (Qag (Qan [0] rfl ?_)))))
  refine Qab (v:=bool false) rfl rfl rfl (g_d rfl ?_)
  try dsimp only [set0,setS]
  refine Qaa ?_
  obtain rfl:=QsJ H
  refine QaK Try.func5 (v:=bool false) (res1 rfl rfl) ?_
  have hs:St _ [] _:=St.take (Γ':=[_,_,_,_,_,_,_,_,_,_,_,_,_]) hs
  exact ⟨_,rfl,rfl,hs⟩
 intro hb
 rw [if_pos (b_bne_f hb)] at H
 refine g_d rfl ?_
 refine Qab (v:=bool false) rfl rfl rfl (g_d rfl ?_)
 refine Qab (v:=int .i64 x67) rfl rfl rfl (g_d rfl ?_)
 refine Qab (v:=bool (x67 !=0)) rfl rfl rfl (g_d rfl ?_)
 try dsimp only [set0,setS]
 refine QaR (B:=x67 !=0) rfl rfl rfl ?_ ?_
 ·
  intro hb
  rw [if_neg (b_bne_t hb)] at H
  refine g_d rfl ?_
  refine Qab (v:=bool true) rfl rfl rfl (g_d rfl (Qal rfl rfl (g_d rfl ?_)))
  try dsimp only [set0,setS]
  refine Qal rfl rfl (g_d rfl (Qal rfl rfl (g_d rfl ?_)))
  try dsimp only [set0,setS]
  refine Qab (v:=bool true) rfl rfl rfl (g_d rfl ?_)
  refine Qab (v:=bool true) rfl rfl rfl (g_d rfl (Qal rfl rfl (g_d rfl ?_)))
  try dsimp only [set0,setS]
  refine Qal rfl rfl (g_d rfl (Qal rfl rfl (g_d rfl ?_)))
  try dsimp only [set0,setS]
  refine Qab (v:=bool true) rfl rfl rfl (g_d rfl ?_)
  refine Qab (v:=bool true) rfl rfl rfl (g_d rfl (Qal rfl rfl (g_d rfl ?_)))
  try dsimp only [set0,setS]
  refine Qal rfl rfl (g_d rfl (Qal rfl rfl (g_d rfl ?_)))
  try dsimp only [set0,setS]
  refine Qal rfl rfl (g_d rfl ?_)
  refine Qab (v:=bool true) rfl rfl rfl (g_d rfl ?_)
  try dsimp only [set0,setS]
  refine Qaa (Qaw rfl (Qag (Qan [0] rfl ?_)))
  refine Qab (v:=bool false) rfl rfl rfl (g_d rfl (Qaa ?_))
  obtain rfl:=QsJ H
  refine QaK Try.func5 (v:=bool false) (res1 rfl rfl) ?_
  have hs:St _ [] _:=St.take (Γ':=[_,_,_,_,_,_,_,_,_,_,_,_,_]) hs
  exact ⟨_,rfl,rfl,hs⟩
 intro hb
 rw [if_pos (b_bne_f hb)] at H
 refine g_d rfl ?_
 refine Qab (v:=bool false) rfl rfl rfl (g_d rfl ?_)
 refine QaG rfl rfl (es:=((encA (encI .i8)) x66)) rfl rfl (fun _=>rfl) (n:=14) (fun _=>rfl) ((fkA (n:=14) (he:=(fkI .i8).len) (h1:=(fkI .i8).one)).len _) (cells_all (hs.cells 12 rfl)) (g_d rfl ?_)
 try dsimp only [set0,setS]
 refine QaG rfl rfl (es:=((encA (encI .i8)) x14)) rfl rfl (fun _=>rfl) (n:=14) (fun _=>rfl) ((fkA (n:=14) (he:=(fkI .i8).len) (h1:=(fkI .i8).one)).len _) (cells_all (hs.cells 1 rfl)) (g_d rfl ?_)
 refine Qab (v:=bool (!decide (x66=x14))) rfl rfl (QdG rfl rfl rfl Qdl (Qds _ _ _)) (g_d rfl ?_)
 try dsimp only [set0,setS]
 refine QaR (B:=!decide (x66=x14)) rfl rfl rfl ?_ ?_
 ·
  intro hb
  rw [if_neg (b_ndec_t hb)] at H
  refine g_d rfl ?_
  try dsimp only [set0,setS]
  refine Qab (v:=bool true) rfl rfl rfl (g_d rfl (Qal rfl rfl (g_d rfl (Qal rfl rfl (g_d rfl ?_)))))
  try dsimp only [set0,setS]
  refine Qal rfl rfl (g_d rfl ?_)
  refine Qab (v:=bool true) rfl rfl rfl (g_d rfl ?_)
  try dsimp only [set0,setS]
  refine Qab (v:=bool true) rfl rfl rfl (g_d rfl (Qal rfl rfl (g_d rfl (Qal rfl rfl (g_d rfl ?_)))))
  try dsimp only [set0,setS]
  refine Qal rfl rfl (g_d rfl (Qal rfl rfl (g_d rfl ?_)))
  try dsimp only [set0,setS]
  refine Qab (v:=bool true) rfl rfl rfl (g_d rfl (Qaa (Qaw rfl (Qag (Qan [0] rfl ?_)))))
  refine Qab (v:=bool false) rfl rfl rfl (g_d rfl ?_)
  try dsimp only [set0,setS]
  refine Qaa ?_
  obtain rfl:=QsJ H
  refine QaK Try.func5 (v:=bool false) (res1 rfl rfl) ?_
  have hs:St _ [] _:=St.take (Γ':=[_,_,_,_,_,_,_,_,_,_,_,_,_]) hs
  exact ⟨_,rfl,rfl,hs⟩
 intro hb
 rw [if_pos (b_ndec_f hb)] at H
 refine g_d rfl ?_
 refine Qab (v:=bool false) rfl rfl rfl (g_d rfl ?_)
 refine QaG rfl rfl (es:=(Qae r7)) rfl rfl (fun _=>rfl) (n:=4) (fun _=>rfl) (QaJ.len _) (cells_all (hs.cells 0 rfl)) (g_d rfl ?_)
 try dsimp only [set0,setS]
 obtain ⟨r69,Hr69,H⟩:=bind_get H
 refine QaP (args:=[agg (Qae r7).toArray]) rfl rfl (QaT rfl (callFunc_enter Try.func21 rfl rfl) rfl) (Qbr.calls (a1:=r7) Hr69) ?_
 rintro _ w ⟨rfl,hs2⟩
 have hs:St _ [_,_,_,_,_,_,_,_,_,_,_,_,_] _:=hs.call hs2
 refine g_d rfl ?_
 refine Qab (v:=bool (!r69)) rfl rfl rfl (g_d rfl ?_)
 try dsimp only [set0,setS]
 refine QaR (B:=!r69) rfl rfl rfl ?_ ?_
 ·
  intro hb
  rw [if_neg (b_not_t hb)] at H
  refine g_d rfl ?_
  refine Qab (v:=bool true) rfl rfl rfl (g_d rfl (Qal rfl rfl (g_d rfl ?_)))
  try dsimp only [set0,setS]
  refine Qal rfl rfl (g_d rfl (Qal rfl rfl (g_d rfl ?_)))
  try dsimp only [set0,setS]
  refine Qal rfl rfl (g_d rfl ?_)
  refine Qab (v:=bool true) rfl rfl rfl (g_d rfl ?_)
  try dsimp only [set0,setS]
  refine Qaa (Qaw rfl (Qag (Qan [0] rfl ?_)))
  refine Qab (v:=bool false) rfl rfl rfl (g_d rfl (Qaa ?_))
  obtain rfl:=QsJ H
  refine QaK Try.func5 (v:=bool false) (res1 rfl rfl) ?_
  have hs:St _ [] _:=St.take (Γ':=[_,_,_,_,_,_,_,_,_,_,_,_,_]) hs
  exact ⟨_,rfl,rfl,hs⟩
 intro hb
 rw [if_pos (b_not_f hb)] at H
 refine g_d rfl ?_
 refine Qab (v:=bool false) rfl rfl rfl (g_d rfl ?_)
 refine QaG rfl rfl (es:=(Qae r7)) rfl rfl (fun _=>rfl) (n:=4) (fun _=>rfl) (QaJ.len _) (cells_all (hs.cells 0 rfl)) (g_d rfl ?_)
 try dsimp only [set0,setS]
 refine QaG rfl rfl (es:=((encA (encI .i8)) x14)) rfl rfl (fun _=>rfl) (n:=14) (fun _=>rfl) ((fkA (n:=14) (he:=(fkI .i8).len) (h1:=(fkI .i8).one)).len _) (cells_all (hs.cells 1 rfl)) (g_d rfl ?_)
 obtain ⟨r70,Hr70,H⟩:=bind_get H
 refine QaP (args:=[agg (Qae r7).toArray,agg ((encA (encI .i8)) x14).toArray]) rfl rfl (QaT rfl (callFunc_enter Try.func22 rfl rfl) rfl) (QaW.calls (a1:=r7) (a2:=x14) Hr70) ?_
 rintro _ w ⟨rfl,hs2⟩
 have hs:St _ [_,_,_,_,_,_,_,_,_,_,_,_,_] _:=hs.call hs2
 cases r70 with
 |true=>
  rw [if_pos rfl] at H
  refine g_d rfl ?_
  try dsimp only [set0,setS]
  refine Qab (v:=bool false) rfl rfl rfl (g_d rfl ?_)
  refine Qab (v:=bool false) rfl rfl rfl (g_d rfl ?_)
  try dsimp only [set0,setS]
  refine Qaa (Qax rfl (QaS ?_))
  have hs:=hs.pull 11 rfl
  have hs:=hs.pull 11 rfl
  have hs:=hs.pull 11 rfl
  have hs:=hs.pull 11 rfl
  have hs:=hs.pull 11 rfl
  have hs:=hs.pull 11 rfl
  have hs:=hs.pull 11 rfl
  have hs:=hs.pull 11 rfl
  have hs:=hs.pull 11 rfl
  have hs:=hs.pull 10 rfl
  have hs:=hs.pull 10 rfl
  have hs:St _ [_,_,_,_,_,_,_,_,_,_,_] _:=St.take (Γ':=[_,_]) hs
  exact ha _ _ ⟨H,rfl,hs⟩
 |false=>
  rw [if_neg Bool.false_ne_true] at H
  refine g_d rfl ?_
  try dsimp only [set0,setS]
  refine Qab (v:=bool true) rfl rfl rfl (g_d rfl ?_)
  refine Qab (v:=bool true) rfl rfl rfl (g_d rfl ?_)
  try dsimp only [set0,setS]
  refine Qaa (Qaw rfl (Qag (Qan [0] rfl ?_)))
  refine Qab (v:=bool false) rfl rfl rfl (g_d rfl (Qaa ?_))
  obtain rfl:=QsJ H
  refine QaK Try.func5 (v:=bool false) (res1 rfl rfl) ?_
  have hs:St _ [] _:=St.take (Γ':=[_,_,_,_,_,_,_,_,_,_,_,_,_]) hs
  exact ⟨_,rfl,rfl,hs⟩
theorem Qak.seg7 {N:Nat} {a1:(List Int)} {a3:(List Int)} {v2:Value} {v4:Value} {r7:Qaq} {x14:(Ar Int 14)} {r18:((List Qai)×Int)} {r15:((List Qai)×Int)} {b8:Nat} {b13:Nat} {v16:Value} {v19:Value} {w0:World} {r:Bool} (hr0:RdRow (K.int .u8) w0 v2 a1) (hr1:RdRow (K.int .u8) w0 v4 a3):
 ∀ t w,(fun t w=>∃ b32:Nat,∃ v33:Value,∃ x34:(List Qai),∃ v36:Value,∃ x37:(List Qai),∃ v39:Value,∃ x40:(List Qai),∃ x42:Int,Qak.j1 N r7 x14 r18 r15 x34 x37 x40 x42=some r∧Fr t (fun O=>(O 0::O 1::O 2::O 3::O 4::pointer (some ⟨b8,0,none⟩)::pointer (some ⟨b13,0,none⟩)::v16::int .i64 r15.2::v19::int .i64 r18.2::pointer (some ⟨b32,0,none⟩)::int .i64 x42::O 13::O 14::O 15::O 16::O 17::O 18::O 19::oT O 2 (oT O 3 (oT O 4 (oT O 5 (oT O 6 (oT O 7 (oT O 8 (oT O 9 (oT O 10 (oT O 11 (oT O 12 (oT O 13 (oT O 14 (oT O 15 (oT O 16 (oT O 17 (oT O 18 (oT O 19 (oT O 20 (oT O 21 (oT O 22 (oT O 23 (oT O 24 (oT O 25 (oT O 26 (oT O 27 (oT O 28 (oT O 29 (O 300::O 301::O 302::O 303::[])))))))))))))))))))))))))))):List Value))∧St w0 [Cells b8 (Qae r7) 27,Cells b13 ((encA (encI .i8)) x14) 37,Row 53 Qah v16 r15.1,Row 53 Qah v19 r18.1,Cells b32 (([v33,v36,v39]:List Value)) 42,Row 53 Qah v33 x34,Row 53 Qah v36 x37,Row 53 Qah v39 x40] w) t w→G Try.prog 5 (fun e w=>∃ v,e= .returned v∧Qak.post w0 r v w) [.code (Code.at_ (Try.f5.body.getD .skip) [1,1,1,1,1,1,1])] t w:=by
 rintro t w ⟨b32,v33,x34,v36,x37,v39,x40,x42,H,hf,hs⟩
 obtain ⟨O,rfl⟩:=hf.open
 try dsimp only [oT]
 unfold Qak.j1 at H
 refine Qag (Qan [0,1,2,3,4,5,6,7,8,9] rfl ?_)
 refine QaG rfl rfl (es:=(Qae r7)) rfl rfl (fun _=>rfl) (n:=4) (fun _=>rfl) (QaJ.len _) (cells_all (hs.cells 0 rfl)) (g_d rfl ?_)
 refine QaG rfl rfl (es:=((encA (encI .i8)) x14)) rfl rfl (fun _=>rfl) (n:=14) (fun _=>rfl) ((fkA (n:=14) (he:=(fkI .i8).len) (h1:=(fkI .i8).one)).len _) (cells_all (hs.cells 1 rfl)) (g_d rfl ?_)
 try dsimp only [set0,setS]
 refine Qab (v:=v19) rfl rfl rfl (g_d rfl ?_)
 obtain ⟨r43,Hr43,H⟩:=bind_get H
 refine QaP (args:=[agg (Qae r7).toArray,agg ((encA (encI .i8)) x14).toArray,v19]) rfl rfl (QaT rfl (callFunc_enter Try.func17 rfl rfl) rfl) (Qci.calls (a1:=r7) (a2:=x14) (a3:=r18.1) (hs.row 3 rfl) Hr43) ?_
 rintro _ w ⟨v44,v45,v46,rfl,hs2⟩
 have hs:St _ [_,_,_,_,_,_,_,_,_,_,_] _:=hs.call hs2
 refine g_d rfl ?_
 refine Qab (v:=tuple #[agg (([v44,v45,v46]:List Value)).toArray,int .i64 r43.2]) rfl rfl rfl (g_d rfl ?_)
 refine Qab (v:=agg (([v44,v45,v46]:List Value)).toArray) rfl rfl rfl (g_d rfl ?_)
 refine Qab (v:=int .i64 r43.2) rfl rfl rfl (g_d rfl ?_)
 refine QbH hs rfl rfl (z:=(agg #[slice none 0 0,slice none 0 0,slice none 0 0])) (cs:=(([slice none 0 0,slice none 0 0,slice none 0 0]:List Value))) rfl (fun _=>rfl) rfl ?_
 intro b50 w hs
 refine g_d rfl ?_
 try dsimp only [set0,setS]
 refine Qa9 (n:=3) hs rfl rfl rfl (vs:=(([v44,v45,v46]:List Value))) rfl rfl rfl (fun _=>rfl) rfl (by intro v hv;simp only [List.mem_append,List.mem_cons,List.not_mem_nil,or_false] at hv;repeat (first|(subst hv;first|rfl|exact slOne (hs.row 1 rfl)|exact slOne (hs.row 2 rfl)|exact slOne (hs.row 3 rfl))|(rcases hv with hv|hv))) ?_
 intro w hs
 refine g_n rfl ?_
 refine Qab (v:=int .i64 r43.2) rfl rfl rfl (g_d rfl (Qaa (Qag ?_)))
 refine QcR (J:=(fun t w=>∃ b65:Nat,∃ x66:(Ar Int 14),∃ x67:Int,Qak.j2 N r15 r18 x42 r43 x14 r7 x34 x37 x40 x66 x67=some r∧Fr t (fun O=>(O 0::O 1::O 2::O 3::O 4::pointer (some ⟨b8,0,none⟩)::pointer (some ⟨b13,0,none⟩)::v16::int .i64 r15.2::v19::int .i64 r18.2::pointer (some ⟨b32,0,none⟩)::int .i64 x42::pointer (some ⟨b50,0,none⟩)::int .i64 r43.2::pointer (some ⟨b65,0,none⟩)::int .i64 x67::O 17::O 18::O 19::oT O 2 (oT O 3 (oT O 4 (oT O 5 (oT O 6 (oT O 7 (oT O 8 (oT O 9 (oT O 10 (oT O 11 (oT O 12 (oT O 13 (oT O 14 (oT O 15 (oT O 16 (oT O 17 (oT O 18 (oT O 19 (oT O 20 (oT O 21 (oT O 22 (oT O 23 (oT O 24 (oT O 25 (oT O 26 (oT O 27 (oT O 28 (oT O 29 (O 300::O 301::O 302::O 303::[])))))))))))))))))))))))))))):List Value))∧St w0 [Cells b8 (Qae r7) 27,Cells b13 ((encA (encI .i8)) x14) 37,Row 53 Qah v16 r15.1,Row 53 Qah v19 r18.1,Cells b32 (([v33,v36,v39]:List Value)) 42,Row 53 Qah v33 x34,Row 53 Qah v36 x37,Row 53 Qah v39 x40,Cells b50 (([v44,v45,v46]:List Value)) 42,Row 53 Qah v44 (r43.1.get 0 []),Row 53 Qah v45 (r43.1.get 1 []),Row 53 Qah v46 (r43.1.get 2 []),Cells b65 ((encA (encI .i8)) x66) 37] w)) ?_ ?_
 ·exact Qak.seg6 hr0 hr1
 intro ha
 obtain ⟨r52,Hr52,H⟩:=bind_get H
 obtain ⟨r53,Hr53,H⟩:=bind_get H
 refine QbT ?_
 intro T hT
 refine Qcg (n:=11) rfl [0,1,2,3,4,5,6,7,8,9,10] [0,1,2,3,4,5,6,9,7,8,10] rfl rfl (Inv:=fun D t w=>∃ b54:Nat,∃ O:Nat→Value,t=(O 0::O 1::O 2::O 3::O 4::pointer (some ⟨b8,0,none⟩)::pointer (some ⟨b13,0,none⟩)::v16::int .i64 r15.2::v19::int .i64 r18.2::pointer (some ⟨b32,0,none⟩)::int .i64 x42::pointer (some ⟨b50,0,none⟩)::int .i64 r43.2::cnd (D 8) (pointer (some ⟨b54,0,none⟩)) (O 15)::cnd (D 10) (int .i64 r53.2) (O 16)::O 17::O 18::O 19::oT O 2 (oT O 3 (oT O 4 (oT O 5 (O 60::O 61::O 62::O 63::O 64::O 65::O 66::tuple #[agg (([v44,v45,v46]:List Value)).toArray,int .i64 r43.2]::agg (Qae r7).toArray::agg ((encA (encI .i8)) x14).toArray::v19::tuple #[agg (([v44,v45,v46]:List Value)).toArray,int .i64 r43.2]::agg (([v44,v45,v46]:List Value)).toArray::int .i64 r43.2::cnd (D 5) (tuple #[agg ((encA (encI .i8)) r53.1).toArray,int .i64 r53.2]) (O 74)::cnd (D 0) (agg (Qae r7).toArray) (O 75)::cnd (D 1) (agg (Qae r7).toArray) (O 76)::cnd (D 2) (agg ((encA (encI .i8)) x14).toArray) (O 77)::cnd (D 3) (string r52) (O 78)::cnd (D 4) (tuple #[agg ((encA (encI .i8)) r53.1).toArray,int .i64 r53.2]) (O 79)::cnd (D 6) (agg ((encA (encI .i8)) r53.1).toArray) (O 80)::cnd (D 7) (int .i64 r53.2) (O 81)::O 82::O 83::O 84::O 85::O 86::O 87::O 88::O 89::oT O 9 (oT O 10 (oT O 11 (oT O 12 (oT O 13 (oT O 14 (oT O 15 (oT O 16 (oT O 17 (oT O 18 (oT O 19 (oT O 20 (oT O 21 (oT O 22 (oT O 23 (oT O 24 (oT O 25 (oT O 26 (oT O 27 (oT O 28 (oT O 29 (O 300::O 301::O 302::O 303::[]))))))))))))))))))))))))))∧St w0 [Asc (D 8) (Cells b54 (cnd (D 9) ((encA (encI .i8)) r53.1) ((encA (encI .i8)) (Ar.rep 14 0))) 37),Cells b50 (([v44,v45,v46]:List Value)) 42,Row 53 Qah v44 (r43.1.get 0 []),Row 53 Qah v45 (r43.1.get 1 []),Row 53 Qah v46 (r43.1.get 2 []),Cells b8 (Qae r7) 27,Cells b13 ((encA (encI .i8)) x14) 37,Row 53 Qah v16 r15.1,Row 53 Qah v19 r18.1,Cells b32 (([v33,v36,v39]:List Value)) 42,Row 53 Qah v33 x34,Row 53 Qah v36 x37,Row 53 Qah v39 x40] w) ?_ ⟨⟨⟨⟨⟨⟨⟨⟨⟨⟨⟨trivial,?_⟩,?_⟩,?_⟩,?_⟩,?_⟩,?_⟩,?_⟩,?_⟩,?_⟩,?_⟩,?_⟩ ?_
 ·
  intro w hh hbw
  have hs:=hs.samew hh hbw
  have hs:=hs.emp
  exact ⟨0,fun i=>T.getD i undef,(by subst hT;rfl),hs⟩
 ·
  rintro D t w hD hp hcl ⟨b54,O,ht,hs⟩ rest hk
  have q4_:=nz hcl 4 0 hD
  have q5_:=nz hcl 5 0 q4_
  have q6_:=nz hcl 6 0 q5_
  have q7_:=nz hcl 7 0 q5_
  have q9_:=nz hcl 9 1 q6_
  have q10_:=nz hcl 10 0 q7_
  simp only [hD,q4_,q5_,q6_,q7_,q9_,q10_,cq,oT] at ht hs
  subst ht
  refine QaG rfl rfl (es:=(Qae r7)) rfl rfl (fun _=>rfl) (n:=4) (fun _=>rfl) (QaJ.len _) (cells_all (hs.cells 5 rfl)) (g_d rfl ?_)
  try dsimp only [set0,setS]
  refine hk _ _ ⟨b54,O,?_,hs.cast ?_⟩<;>simp only [oT,lq,cq,Nat.reduceBEq,q4_,q5_,q6_,q7_,q9_,q10_]
 ·
  rintro D t w hD hp hcl ⟨b54,O,ht,hs⟩ rest hk
  have q3_:=nz hcl 3 0 hD
  have q4_:=nz hcl 4 1 q3_
  have q5_:=nz hcl 5 0 q4_
  have q6_:=nz hcl 6 0 q5_
  have q7_:=nz hcl 7 0 q5_
  have q9_:=nz hcl 9 1 q6_
  have q10_:=nz hcl 10 0 q7_
  simp only [hD,q3_,q4_,q5_,q6_,q7_,q9_,q10_,cq,oT] at ht hs
  subst ht
  refine QaG rfl rfl (es:=(Qae r7)) rfl rfl (fun _=>rfl) (n:=4) (fun _=>rfl) (QaJ.len _) (cells_all (hs.cells 5 rfl)) (g_d rfl ?_)
  try dsimp only [set0,setS]
  refine hk _ _ ⟨b54,O,?_,hs.cast ?_⟩<;>simp only [oT,lq,cq,Nat.reduceBEq,q3_,q4_,q5_,q6_,q7_,q9_,q10_]
 ·
  rintro D t w hD hp hcl ⟨b54,O,ht,hs⟩ rest hk
  have q3_:=nz hcl 3 1 hD
  have q4_:=nz hcl 4 1 q3_
  have q5_:=nz hcl 5 0 q4_
  have q6_:=nz hcl 6 0 q5_
  have q7_:=nz hcl 7 0 q5_
  have q9_:=nz hcl 9 1 q6_
  have q10_:=nz hcl 10 0 q7_
  simp only [hD,q3_,q4_,q5_,q6_,q7_,q9_,q10_,cq,oT] at ht hs
  subst ht
  refine QaG rfl rfl (es:=((encA (encI .i8)) x14)) rfl rfl (fun _=>rfl) (n:=14) (fun _=>rfl) ((fkA (n:=14) (he:=(fkI .i8).len) (h1:=(fkI .i8).one)).len _) (cells_all (hs.cells 6 rfl)) (g_d rfl ?_)
  try dsimp only [set0,setS]
  refine hk _ _ ⟨b54,O,?_,hs.cast ?_⟩<;>simp only [oT,lq,cq,Nat.reduceBEq,q3_,q4_,q5_,q6_,q7_,q9_,q10_]
 ·
  rintro D t w hD hp hcl ⟨b54,O,ht,hs⟩ rest hk
  obtain ⟨p1_,p2_,_⟩:=hp
  have q4_:=nz hcl 4 1 hD
  have q5_:=nz hcl 5 0 q4_
  have q6_:=nz hcl 6 0 q5_
  have q7_:=nz hcl 7 0 q5_
  have q9_:=nz hcl 9 1 q6_
  have q10_:=nz hcl 10 0 q7_
  simp only [hD,p1_,p2_,q4_,q5_,q6_,q7_,q9_,q10_,cq,oT] at ht hs
  subst ht
  refine QaP (args:=[agg (Qae r7).toArray,agg ((encA (encI .i8)) x14).toArray]) rfl rfl (QaT rfl (callFunc_enter Try.func19 rfl rfl) rfl) (Qca.calls (a1:=r7) (a2:=x14) Hr52) ?_
  rintro _ w ⟨rfl,hs2⟩
  have hs:St _ [_,_,_,_,_,_,_,_,_,_,_,_,_] _:=hs.call hs2
  refine g_d rfl ?_
  try dsimp only [set0,setS]
  refine hk _ _ ⟨b54,O,?_,hs.cast ?_⟩<;>simp only [oT,lq,cq,Nat.reduceBEq,p1_,p2_,q4_,q5_,q6_,q7_,q9_,q10_]
 ·
  rintro D t w hD hp hcl ⟨b54,O,ht,hs⟩ rest hk
  obtain ⟨p0_,p3_,_,_⟩:=hp
  obtain ⟨p1_,p2_,_⟩:=(hcl.get 3 (by decide)) p3_
  have q5_:=nz hcl 5 0 hD
  have q6_:=nz hcl 6 0 q5_
  have q7_:=nz hcl 7 0 q5_
  have q9_:=nz hcl 9 1 q6_
  have q10_:=nz hcl 10 0 q7_
  simp only [hD,p0_,p1_,p2_,p3_,q5_,q6_,q7_,q9_,q10_,cq,oT] at ht hs
  subst ht
  refine QaP (args:=[agg (Qae r7).toArray,string r52]) rfl rfl (QaT rfl (callFunc_enter Try.func18 rfl rfl) rfl) (Qb9.calls (a1:=r7) (a2:=r52) Hr53) ?_
  rintro _ w ⟨rfl,hs2⟩
  have hs:St _ [_,_,_,_,_,_,_,_,_,_,_,_,_] _:=hs.call hs2
  refine g_d rfl ?_
  try dsimp only [set0,setS]
  refine hk _ _ ⟨b54,O,?_,hs.cast ?_⟩<;>simp only [oT,lq,cq,Nat.reduceBEq,p0_,p1_,p2_,p3_,q5_,q6_,q7_,q9_,q10_]
 ·
  rintro D t w hD hp hcl ⟨b54,O,ht,hs⟩ rest hk
  obtain ⟨p4_,_⟩:=hp
  obtain ⟨p0_,p3_,_,_⟩:=(hcl.get 4 (by decide)) p4_
  obtain ⟨p1_,p2_,_⟩:=(hcl.get 3 (by decide)) p3_
  have q6_:=nz hcl 6 0 hD
  have q7_:=nz hcl 7 0 hD
  have q9_:=nz hcl 9 1 q6_
  have q10_:=nz hcl 10 0 q7_
  simp only [hD,p0_,p1_,p2_,p3_,p4_,q6_,q7_,q9_,q10_,cq,oT] at ht hs
  subst ht
  refine Qab (v:=tuple #[agg ((encA (encI .i8)) r53.1).toArray,int .i64 r53.2]) rfl rfl rfl (g_d rfl ?_)
  try dsimp only [set0,setS]
  refine hk _ _ ⟨b54,O,?_,hs.cast ?_⟩<;>simp only [oT,lq,cq,Nat.reduceBEq,p0_,p1_,p2_,p3_,p4_,q6_,q7_,q9_,q10_]
 ·
  rintro D t w hD hp hcl ⟨b54,O,ht,hs⟩ rest hk
  obtain ⟨p5_,_⟩:=hp
  obtain ⟨p4_,_⟩:=(hcl.get 5 (by decide)) p5_
  obtain ⟨p0_,p3_,_,_⟩:=(hcl.get 4 (by decide)) p4_
  obtain ⟨p1_,p2_,_⟩:=(hcl.get 3 (by decide)) p3_
  have q9_:=nz hcl 9 1 hD
  have q10_:=nz hcl 10 1 q9_
  simp only [hD,p0_,p1_,p2_,p3_,p4_,p5_,q9_,q10_,cq,oT] at ht hs
  subst ht
  refine Qab (v:=agg ((encA (encI .i8)) r53.1).toArray) rfl rfl rfl (g_d rfl ?_)
  try dsimp only [set0,setS]
  refine hk _ _ ⟨b54,O,?_,hs.cast ?_⟩<;>simp only [oT,lq,cq,Nat.reduceBEq,p0_,p1_,p2_,p3_,p4_,p5_,q9_,q10_]
 ·
  rintro D t w hD hp hcl ⟨b54,O,ht,hs⟩ rest hk
  obtain ⟨p5_,_⟩:=hp
  obtain ⟨p4_,_⟩:=(hcl.get 5 (by decide)) p5_
  obtain ⟨p0_,p3_,_,_⟩:=(hcl.get 4 (by decide)) p4_
  obtain ⟨p1_,p2_,_⟩:=(hcl.get 3 (by decide)) p3_
  have q10_:=nz hcl 10 0 hD
  simp only [hD,p0_,p1_,p2_,p3_,p4_,p5_,q10_,cq,oT] at ht hs
  subst ht
  refine Qab (v:=int .i64 r53.2) rfl rfl rfl (g_d rfl ?_)
  try dsimp only [set0,setS]
  refine hk _ _ ⟨b54,O,?_,hs.cast ?_⟩<;>simp only [oT,lq,cq,Nat.reduceBEq,p0_,p1_,p2_,p3_,p4_,p5_,q10_]
 ·
  rintro D t w hD hp hcl ⟨b54,O,ht,hs⟩ rest hk
  have q9_:=nz hcl 9 0 hD
  have q10_:=nz hcl 10 1 q9_
  simp only [hD,q9_,q10_,cq,oT] at ht hs
  subst ht
  refine QbH hs rfl rfl (z:=(agg #[int .i8 0,int .i8 0,int .i8 0,int .i8 0,int .i8 0,int .i8 0,int .i8 0,int .i8 0,int .i8 0,int .i8 0,int .i8 0,int .i8 0,int .i8 0,int .i8 0])) (cs:=((encA (encI .i8)) (Ar.rep 14 0))) rfl (fun _=>rfl) rfl ?_
  intro b54 w hs
  refine g_d rfl ?_
  try dsimp only [set0,setS]
  have hs:=hs.fill 0 rfl
  refine hk _ _ ⟨b54,O,?_,hs.cast ?_⟩<;>simp only [oT,lq,cq,Nat.reduceBEq,q9_,q10_]
 ·
  rintro D t w hD hp hcl ⟨b54,O,ht,hs⟩ rest hk
  obtain ⟨p8_,p6_,p4_,p0_,p1_,p2_,p3_,_,p5_,_,_,_⟩:=hp
  have q10_:=nz hcl 10 1 hD
  simp only [hD,p0_,p1_,p2_,p3_,p4_,p5_,p6_,p8_,q10_,cq,oT] at ht hs
  subst ht
  refine Qa9 (n:=14) hs ((fkA (n:=14) (he:=(fkI .i8).len) (h1:=(fkI .i8).one)).len _) rfl rfl (vs:=((encA (encI .i8)) r53.1)) rfl rfl rfl (fun _=>rfl) ((fkA (n:=14) (he:=(fkI .i8).len) (h1:=(fkI .i8).one)).len _) ((fkA (n:=14) (he:=(fkI .i8).len) (h1:=(fkI .i8).one)).one _) ?_
  intro w hs
  refine g_n rfl ?_
  try dsimp only [set0,setS]
  have hs:=hs.push 0 (by simp)
  refine hk _ _ ⟨b54,O,?_,hs.cast ?_⟩<;>simp only [oT,lq,cq,Nat.reduceBEq,p0_,p1_,p2_,p3_,p4_,p5_,p6_,p8_,q10_]
 ·
  rintro D t w hD hp hcl ⟨b54,O,ht,hs⟩ rest hk
  obtain ⟨p7_,p9_,p0_,p1_,p2_,p3_,p4_,p5_,p6_,_,p8_,_,_⟩:=hp
  simp only [hD,p0_,p1_,p2_,p3_,p4_,p5_,p6_,p7_,p8_,p9_,cq,oT] at ht hs
  subst ht
  refine Qab (v:=int .i64 r53.2) rfl rfl rfl (g_d rfl ?_)
  try dsimp only [set0,setS]
  refine hk _ _ ⟨b54,O,?_,hs.cast ?_⟩<;>simp only [oT,lq,cq,Nat.reduceBEq,p0_,p1_,p2_,p3_,p4_,p5_,p6_,p7_,p8_,p9_]
 intro D t w hall hI
 obtain ⟨b54,O,ht,hs⟩:=hI
 have p0_:=hall 0 (by decide)
 have p1_:=hall 1 (by decide)
 have p2_:=hall 2 (by decide)
 have p3_:=hall 3 (by decide)
 have p4_:=hall 4 (by decide)
 have p5_:=hall 5 (by decide)
 have p6_:=hall 6 (by decide)
 have p7_:=hall 7 (by decide)
 have p8_:=hall 8 (by decide)
 have p9_:=hall 9 (by decide)
 have p10_:=hall 10 (by decide)
 simp only [p0_,p1_,p2_,p3_,p4_,p5_,p6_,p7_,p8_,p9_,p10_,cq,oT] at ht hs
 subst ht
 have hs:=hs.pull 0 rfl
 have hs:=hs.pull 4 rfl
 have hs:=hs.pull 4 rfl
 have hs:=hs.pull 4 rfl
 have hs:=hs.pull 4 rfl
 have hs:=hs.pull 12 rfl
 have hs:=hs.pull 12 rfl
 have hs:=hs.pull 12 rfl
 have hs:=hs.pull 12 rfl
 have hs:=hs.pull 12 rfl
 have hs:=hs.pull 12 rfl
 have hs:=hs.pull 12 rfl
 have hs:=hs.pull 12 rfl
 have hs:St _ [_,_,_,_,_,_,_,_,_,_,_,_,_] _:=St.take (Γ':=[]) hs
 exact ha _ _ ⟨b54,r53.1,r53.2,H,rfl,hs⟩
theorem Qak.seg8 {N:Nat} {a1:(List Int)} {a3:(List Int)} {v2:Value} {v4:Value} {r7:Qaq} {b8:Nat} {w0:World} {r:Bool} (hr0:RdRow (K.int .u8) w0 v2 a1) (hr1:RdRow (K.int .u8) w0 v4 a3):
 ∀ t w,(fun t w=>∃ b13:Nat,∃ x14:(Ar Int 14),Qak.j0 N r7 x14=some r∧Fr t (fun O=>(O 0::O 1::O 2::O 3::O 4::pointer (some ⟨b8,0,none⟩)::pointer (some ⟨b13,0,none⟩)::O 7::O 8::O 9::oT O 1 (oT O 2 (oT O 3 (oT O 4 (oT O 5 (oT O 6 (oT O 7 (oT O 8 (oT O 9 (oT O 10 (oT O 11 (oT O 12 (oT O 13 (oT O 14 (oT O 15 (oT O 16 (oT O 17 (oT O 18 (oT O 19 (oT O 20 (oT O 21 (oT O 22 (oT O 23 (oT O 24 (oT O 25 (oT O 26 (oT O 27 (oT O 28 (oT O 29 (O 300::O 301::O 302::O 303::[]))))))))))))))))))))))))))))):List Value))∧St w0 [Cells b8 (Qae r7) 27,Cells b13 ((encA (encI .i8)) x14) 37] w) t w→G Try.prog 5 (fun e w=>∃ v,e= .returned v∧Qak.post w0 r v w) [.code (Code.at_ (Try.f5.body.getD .skip) [1,1,1,1])] t w:=by
 rintro t w ⟨b13,x14,H,hf,hs⟩
 obtain ⟨O,rfl⟩:=hf.open
 try dsimp only [oT]
 unfold Qak.j0 at H
 refine Qag (Qan [0,1,2,3,4,5,6] rfl ?_)
 refine QaG rfl rfl (es:=(Qae r7)) rfl rfl (fun _=>rfl) (n:=4) (fun _=>rfl) (QaJ.len _) (cells_all (hs.cells 0 rfl)) (g_d rfl ?_)
 try dsimp only [set0,setS]
 obtain ⟨r15,Hr15,H⟩:=bind_get H
 refine QaP (args:=[agg (Qae r7).toArray]) rfl rfl (QaT rfl (callFunc_enter Try.func14 rfl rfl) rfl) (Qcz.calls (a1:=r7) Hr15) ?_
 rintro _ w ⟨v16,rfl,hs2⟩
 have hs:St _ [_,_,_] _:=hs.call hs2
 refine g_d rfl ?_
 refine Qab (v:=tuple #[v16,int .i64 r15.2]) rfl rfl rfl (g_d rfl ?_)
 refine Qab (v:=v16) rfl rfl rfl (g_d rfl ?_)
 refine Qab (v:=int .i64 r15.2) rfl rfl rfl (g_d rfl ?_)
 refine Qab (v:=v16) rfl rfl rfl (g_d rfl ?_)
 try dsimp only [set0,setS]
 refine Qab (v:=int .i64 r15.2) rfl rfl rfl (g_d rfl (Qaa (Qag (Qan [0,1,2,3,4,5,6] rfl ?_))))
 refine QaG rfl rfl (es:=(Qae r7)) rfl rfl (fun _=>rfl) (n:=4) (fun _=>rfl) (QaJ.len _) (cells_all (hs.cells 1 rfl)) (g_d rfl ?_)
 try dsimp only [set0,setS]
 obtain ⟨r18,Hr18,H⟩:=bind_get H
 refine QaP (args:=[agg (Qae r7).toArray]) rfl rfl (QaT rfl (callFunc_enter Try.func15 rfl rfl) rfl) (QcA.calls (a1:=r7) Hr18) ?_
 rintro _ w ⟨v19,rfl,hs2⟩
 have hs:St _ [_,_,_,_] _:=hs.call hs2
 refine g_d rfl ?_
 refine Qab (v:=tuple #[v19,int .i64 r18.2]) rfl rfl rfl (g_d rfl ?_)
 refine Qab (v:=v19) rfl rfl rfl (g_d rfl ?_)
 refine Qab (v:=int .i64 r18.2) rfl rfl rfl (g_d rfl ?_)
 refine Qab (v:=v19) rfl rfl rfl (g_d rfl ?_)
 try dsimp only [set0,setS]
 refine Qab (v:=int .i64 r18.2) rfl rfl rfl (g_d rfl (Qaa (Qag ?_)))
 refine QcR (J:=(fun t w=>∃ b32:Nat,∃ v33:Value,∃ x34:(List Qai),∃ v36:Value,∃ x37:(List Qai),∃ v39:Value,∃ x40:(List Qai),∃ x42:Int,Qak.j1 N r7 x14 r18 r15 x34 x37 x40 x42=some r∧Fr t (fun O=>(O 0::O 1::O 2::O 3::O 4::pointer (some ⟨b8,0,none⟩)::pointer (some ⟨b13,0,none⟩)::v16::int .i64 r15.2::v19::int .i64 r18.2::pointer (some ⟨b32,0,none⟩)::int .i64 x42::O 13::O 14::O 15::O 16::O 17::O 18::O 19::oT O 2 (oT O 3 (oT O 4 (oT O 5 (oT O 6 (oT O 7 (oT O 8 (oT O 9 (oT O 10 (oT O 11 (oT O 12 (oT O 13 (oT O 14 (oT O 15 (oT O 16 (oT O 17 (oT O 18 (oT O 19 (oT O 20 (oT O 21 (oT O 22 (oT O 23 (oT O 24 (oT O 25 (oT O 26 (oT O 27 (oT O 28 (oT O 29 (O 300::O 301::O 302::O 303::[])))))))))))))))))))))))))))):List Value))∧St w0 [Cells b8 (Qae r7) 27,Cells b13 ((encA (encI .i8)) x14) 37,Row 53 Qah v16 r15.1,Row 53 Qah v19 r18.1,Cells b32 (([v33,v36,v39]:List Value)) 42,Row 53 Qah v33 x34,Row 53 Qah v36 x37,Row 53 Qah v39 x40] w)) ?_ ?_
 ·exact Qak.seg7 hr0 hr1
 intro ha
 refine Qan [0,1,2,3,4,5,6,7,8,9] rfl ?_
 refine QaG rfl rfl (es:=(Qae r7)) rfl rfl (fun _=>rfl) (n:=4) (fun _=>rfl) (QaJ.len _) (cells_all (hs.cells 2 rfl)) (g_d rfl ?_)
 try dsimp only [set0,setS]
 refine QaG rfl rfl (es:=((encA (encI .i8)) x14)) rfl rfl (fun _=>rfl) (n:=14) (fun _=>rfl) ((fkA (n:=14) (he:=(fkI .i8).len) (h1:=(fkI .i8).one)).len _) (cells_all (hs.cells 3 rfl)) (g_d rfl ?_)
 refine Qab (v:=v19) rfl rfl rfl (g_d rfl ?_)
 obtain ⟨r21,Hr21,H⟩:=bind_get H
 refine QaP (args:=[agg (Qae r7).toArray,agg ((encA (encI .i8)) x14).toArray,v19]) rfl rfl (QaT rfl (callFunc_enter Try.func16 rfl rfl) rfl) (Qch.calls (a1:=r7) (a2:=x14) (a3:=r18.1) (hs.row 0 rfl) Hr21) ?_
 rintro _ w ⟨v22,v23,v24,rfl,hs2⟩
 have hs:St _ [_,_,_,_,_,_,_] _:=hs.call hs2
 refine g_d rfl ?_
 try dsimp only [set0,setS]
 refine Qab (v:=tuple #[agg (([v22,v23,v24]:List Value)).toArray,int .i64 r21.2]) rfl rfl rfl (g_d rfl ?_)
 refine Qab (v:=agg (([v22,v23,v24]:List Value)).toArray) rfl rfl rfl (g_d rfl ?_)
 refine Qab (v:=int .i64 r21.2) rfl rfl rfl (g_d rfl ?_)
 refine QbH hs rfl rfl (z:=(agg #[slice none 0 0,slice none 0 0,slice none 0 0])) (cs:=(([slice none 0 0,slice none 0 0,slice none 0 0]:List Value))) rfl (fun _=>rfl) rfl ?_
 intro b28 w hs
 refine g_d rfl ?_
 refine Qa9 (n:=3) hs rfl rfl rfl (vs:=(([v22,v23,v24]:List Value))) rfl rfl rfl (fun _=>rfl) rfl (by intro v hv;simp only [List.mem_append,List.mem_cons,List.not_mem_nil,or_false] at hv;repeat (first|(subst hv;first|rfl|exact slOne (hs.row 1 rfl)|exact slOne (hs.row 2 rfl)|exact slOne (hs.row 3 rfl))|(rcases hv with hv|hv))) ?_
 intro w hs
 refine g_n rfl ?_
 refine Qab (v:=int .i64 r21.2) rfl rfl rfl (g_d rfl ?_)
 try dsimp only [set0,setS]
 refine Qaa ?_
 have hs:=hs.pull 3 rfl
 have hs:=hs.pull 3 rfl
 have hs:=hs.pull 3 rfl
 have hs:=hs.pull 3 rfl
 have hs:=hs.pull 4 rfl
 have hs:=hs.pull 5 rfl
 have hs:=hs.pull 7 rfl
 have hs:=hs.pull 7 rfl
 have hs:St _ [_,_,_,_,_,_,_,_] _:=St.take (Γ':=[]) hs
 exact ha _ _ ⟨b28,v22,(r21.1.get 0 []),v23,(r21.1.get 1 []),v24,(r21.1.get 2 []),r21.2,H,rfl,hs⟩
theorem Qak.calls {N:Nat} {a1:(List Int)} {a3:(List Int)} {v2:Value} {v4:Value} {w0:World} {r:Bool} (hr0:RdRow (K.int .u8) w0 v2 a1) (hr1:RdRow (K.int .u8) w0 v4 a3) (H:Qak.f N a1 a3=some r):
 Calls Try.prog 5 #[v2,v4] w0 fun e w=>∃ v,e= .returned v∧Qak.post w0 r v w:=by
 unfold Qak.f at H
 have hs:St w0 [] w0:=St.refl w0
 refine calls_of_g (n:=302) Try.func5 rfl rfl ?_
 show G _ _ _ _ (_::_::_::_::_::_::_::_::_::_::_::_::_::_::_::_::_::_::_::_::_::_::_::_::_::_::_::_::_::_::_::_::_::_::_::_::_::_::_::_::_::_::_::_::_::_::_::_::_::_::_::_::_::_::_::_::_::_::_::_::_::_::_::_::_::_::_::_::_::_::_::_::_::_::_::_::_::_::_::_::_::_::_::_::_::_::_::_::_::_::_::_::_::_::_::_::_::_::_::_::_::_::_::_::_::_::_::_::_::_::_::_::_::_::_::_::_::_::_::_::_::_::_::_::_::_::_::_::_::_::_::_::_::_::_::_::_::_::_::_::_::_::_::_::_::_::_::_::_::_::_::_::_::_::_::_::_::_::_::_::_::_::_::_::_::_::_::_::_::_::_::_::_::_::_::_::_::_::_::_::_::_::_::_::_::_::_::_::_::_::_::_::_::_::_::_::_::_::_::_::_::_::_::_::_::_::_::_::_::_::_::_::_::_::_::_::_::_::_::_::_::_::_::_::_::_::_::_::_::_::_::_::_::_::_::_::_::_::_::_::_::_::_::_::_::_::_::_::_::_::_::_::_::_::_::_::_::_::_::_::_::_::_::_::_::_::_::_::_::_::_::_::_::_::_::_::_::_::_::_::_::_::_::_::_::_::_::_::_::_::_::_::_::_::_::_::_::_::_::_::_::_::_::_::[]) _
 refine Qag (Qan [0] rfl ?_)
 refine Qab (v:=bool false) rfl rfl rfl (g_d rfl (Qaa (Qag (Qag (Qan [0,1,2,3,4,5] rfl ?_)))))
 refine Qab (v:=v2) rfl rfl rfl (g_d rfl ?_)
 obtain ⟨r5,Hr5,H⟩:=bind_get H
 refine QaP (args:=[v2]) rfl rfl (QaT rfl (callFunc_enter Try.func11 rfl rfl) rfl) (QcD.calls (a1:=a1) (hs.rd hr0) Hr5) ?_
 rintro _ w ⟨rfl,hs2⟩
 have hs:St _ [] _:=hs.call hs2
 cases r5 with
 |true=>
  rw [if_pos rfl] at H
  refine g_d rfl ?_
  refine Qab (v:=bool true) rfl rfl rfl (g_d rfl (Qal rfl rfl (g_d rfl (Qal rfl rfl (g_d rfl ?_)))))
  try dsimp only [set0,setS]
  refine Qab (v:=bool true) rfl rfl rfl (g_d rfl (Qaa (Qaw rfl (Qag (Qan [0] rfl ?_)))))
  refine Qab (v:=bool true) rfl rfl rfl (g_d rfl ?_)
  try dsimp only [set0,setS]
  refine Qaa ?_
  obtain rfl:=QsJ H
  refine QaK Try.func5 (v:=bool true) (res1 rfl rfl) ?_
  have hs:St _ [] _:=St.take (Γ':=[]) hs
  exact ⟨_,rfl,rfl,hs⟩
 |false=>
  rw [if_neg Bool.false_ne_true] at H
  refine g_d rfl ?_
  try dsimp only [set0,setS]
  refine Qab (v:=bool false) rfl rfl rfl (g_d rfl ?_)
  refine Qab (v:=v4) rfl rfl rfl (g_d rfl ?_)
  obtain ⟨r6,Hr6,H⟩:=bind_get H
  refine QaP (args:=[v4]) rfl rfl (QaT rfl (callFunc_enter Try.func11 rfl rfl) rfl) (QcD.calls (a1:=a3) (hs.rd hr1) Hr6) ?_
  rintro _ w ⟨rfl,hs2⟩
  have hs:St _ [] _:=hs.call hs2
  cases r6 with
  |true=>
   rw [if_pos rfl] at H
   refine g_d rfl ?_
   try dsimp only [set0,setS]
   refine Qab (v:=bool true) rfl rfl rfl (g_d rfl (Qaa (Qaw rfl (Qag (Qan [0] rfl ?_)))))
   refine Qab (v:=bool true) rfl rfl rfl (g_d rfl ?_)
   try dsimp only [set0,setS]
   refine Qaa ?_
   obtain rfl:=QsJ H
   refine QaK Try.func5 (v:=bool true) (res1 rfl rfl) ?_
   have hs:St _ [] _:=St.take (Γ':=[]) hs
   exact ⟨_,rfl,rfl,hs⟩
  |false=>
   rw [if_neg Bool.false_ne_true] at H
   refine g_d rfl ?_
   refine Qab (v:=bool false) rfl rfl rfl (g_d rfl ?_)
   try dsimp only [set0,setS]
   refine Qaa (Qax rfl (QaS (Qag (Qan [0,1,2,3] rfl ?_))))
   refine Qab (v:=v2) rfl rfl rfl (g_d rfl ?_)
   obtain ⟨r7,Hr7,H⟩:=bind_get H
   refine QaP (args:=[v2]) rfl rfl (QaT rfl (callFunc_enter Try.func12 rfl rfl) rfl) (QcF.calls (a1:=a1) (hs.rd hr0) Hr7) ?_
   rintro _ w ⟨rfl,hs2⟩
   have hs:St _ [] _:=hs.call hs2
   refine g_d rfl ?_
   refine QbH hs rfl rfl (z:=(agg #[int .i8 0,int .i8 0,bool false,bool false])) (cs:=(Qae QcL)) rfl (fun _=>rfl) rfl ?_
   intro b8 w hs
   refine g_d rfl ?_
   try dsimp only [set0,setS]
   refine Qa9 (n:=4) hs (QaJ.len _) rfl rfl (vs:=(Qae r7)) rfl rfl rfl (fun _=>rfl) (QaJ.len _) (QaJ.one _) ?_
   intro w hs
   refine g_n rfl (Qaa (Qag ?_))
   refine QcR (J:=(fun t w=>∃ b13:Nat,∃ x14:(Ar Int 14),Qak.j0 N r7 x14=some r∧Fr t (fun O=>(O 0::O 1::O 2::O 3::O 4::pointer (some ⟨b8,0,none⟩)::pointer (some ⟨b13,0,none⟩)::O 7::O 8::O 9::oT O 1 (oT O 2 (oT O 3 (oT O 4 (oT O 5 (oT O 6 (oT O 7 (oT O 8 (oT O 9 (oT O 10 (oT O 11 (oT O 12 (oT O 13 (oT O 14 (oT O 15 (oT O 16 (oT O 17 (oT O 18 (oT O 19 (oT O 20 (oT O 21 (oT O 22 (oT O 23 (oT O 24 (oT O 25 (oT O 26 (oT O 27 (oT O 28 (oT O 29 (O 300::O 301::O 302::O 303::[]))))))))))))))))))))))))))))):List Value))∧St w0 [Cells b8 (Qae r7) 27,Cells b13 ((encA (encI .i8)) x14) 37] w)) ?_ ?_
   ·exact Qak.seg8 hr0 hr1
   intro ha
   refine Qan [0,1,2,3,4] rfl ?_
   refine Qab (v:=v4) rfl rfl rfl (g_d rfl ?_)
   refine QaG rfl rfl (es:=(Qae r7)) rfl rfl (fun _=>rfl) (n:=4) (fun _=>rfl) (QaJ.len _) (cells_all (hs.cells 0 rfl)) (g_d rfl ?_)
   obtain ⟨r10,Hr10,H⟩:=bind_get H
   refine QaP (args:=[v4,agg (Qae r7).toArray]) rfl rfl (QaT rfl (callFunc_enter Try.func13 rfl rfl) rfl) (QcE.calls (a1:=a3) (a3:=r7) (hs.rd hr1) Hr10) ?_
   rintro _ w ⟨rfl,hs2⟩
   have hs:St _ [_] _:=hs.call hs2
   refine g_d rfl ?_
   try dsimp only [set0,setS]
   refine QbH hs rfl rfl (z:=(agg #[int .i8 0,int .i8 0,int .i8 0,int .i8 0,int .i8 0,int .i8 0,int .i8 0,int .i8 0,int .i8 0,int .i8 0,int .i8 0,int .i8 0,int .i8 0,int .i8 0])) (cs:=((encA (encI .i8)) (Ar.rep 14 0))) rfl (fun _=>rfl) rfl ?_
   intro b11 w hs
   refine g_d rfl ?_
   refine Qa9 (n:=14) hs ((fkA (n:=14) (he:=(fkI .i8).len) (h1:=(fkI .i8).one)).len _) rfl rfl (vs:=((encA (encI .i8)) r10)) rfl rfl rfl (fun _=>rfl) ((fkA (n:=14) (he:=(fkI .i8).len) (h1:=(fkI .i8).one)).len _) ((fkA (n:=14) (he:=(fkI .i8).len) (h1:=(fkI .i8).one)).one _) ?_
   intro w hs
   refine g_n rfl (Qaa ?_)
   have hs:=hs.pull 0 rfl
   have hs:=hs.pull 1 rfl
   have hs:St _ [_,_] _:=St.take (Γ':=[]) hs
   exact ha _ _ ⟨b11,r10,H,rfl,hs⟩
end Go.Proofs.YtgpdpedpmhonkaaX
