/- Contracts, printed by gen.py. -/
import Derived.Test.YtmnaclghakalmaaXT
import Derived.Test.YtmnaclghakalmaaProg
import Derived.Test.YtmnaclghakalmaaXRowR
import Derived.Test.YtmnaclghakalmaaXSq
import Derived.Test.YtmnaclghakalmaaXSeg
import Derived.Test.YtmnaclghakalmaaXKey
import Derived.Test.YtmnaclghakalmaaXIter
import Derived.Test.YtmnaclghakalmaaXRow2
import Derived.Test.YtmnaclghakalmaaXEla
import Derived.Test.YtmnaclghakalmaaTCX
import Derived.Test.YtmnaclghakalmaaXC1
import Derived.Test.YtmnaclghakalmaaXC2
import Derived.Test.YtmnaclghakalmaaXC3
namespace Go.Proofs.YtmnaclghakalmaaX
open Go Go.RowKit Go.Proofs
set_option linter.unusedVariables false
set_option linter.unusedSimpArgs false
/- function 14 spec_l07Table -/
def spec_l07Table.post (w0 : World) (r : (List (List Int))) (v : Value) (w : World) : Prop := ∃ u1 : Value, ∃ ms2 : (List HS), v = u1 ∧ St w0 [Rows2 38 kHS (RowO 2 (K.int .i64)) u1 ms2 r] w
set_option maxHeartbeats 8000000 in
set_option maxRecDepth 100000 in
theorem spec_l07Table.calls {N : Nat} {a1 : (List Int)} {a3 : (Ar Int 4)} {a4 : Int} {v2 : Value} {w0 : World} {r : (List (List Int))} (hr0 : RdRow (K.int .i16) w0 v2 a1) (H : spec_l07Table.f N a1 a3 a4 = some r) :
    Calls Try.prog 14 #[v2, Value.agg ((encA (encI .i16)) a3).toArray, Value.int .i64 a4] w0 fun e w => ∃ v, e = .returned v ∧ spec_l07Table.post w0 r v w := by
  unfold spec_l07Table.f at H
  have hs : St w0 [] w0 := St.refl w0
  refine calls_of_g (n := 141) Try.func14 rfl rfl ?_
  show G _ _ _ _ (_::_::_::_::_::_::_::_::_::_::_::_::_::_::_::_::_::_::_::_::_::_::_::_::_::_::_::_::_::_::_::_::_::_::_::_::_::_::_::_::_::_::_::_::_::_::_::_::_::_::_::_::_::_::_::_::_::_::_::_::_::_::_::_::_::_::_::_::_::_::_::_::_::_::_::_::_::_::_::_::_::_::_::_::_::_::_::_::_::_::_::_::_::_::_::_::_::_::_::_::_::_::_::_::_::_::_::_::_::_::_::_::_::_::_::_::_::_::_::_::_::_::_::_::_::_::_::_::_::_::_::_::_::_::_::_::_::_::_::_::_::_::_::_::[]) _
  refine g_seq (g_rg [0, 1] rfl ?_)
  refine s_box hs rfl rfl (cs := ((encA (encI .i16)) a3)) rfl rfl ?_
  intro b5 w hs
  refine g_d rfl ?_
  try dsimp only [set0,setS]
  refine g_op (v := Value.slice none 0 0) rfl rfl rfl (g_d rfl (g_ops_nil (g_seq (g_rg [0, 1, 2] rfl ?_))))
  refine g_op (v := v2) rfl rfl rfl (g_d rfl ?_)
  obtain ⟨r7, Hr7, H⟩ := bind_get H
  refine s_call (args := [v2]) rfl rfl (x_call rfl (callFunc_enter Try.func25 rfl rfl) rfl) (spec_l07States.calls (a1 := a1) (hs.rd hr0) Hr7) ?_
  rintro _ w ⟨rfl, hs2⟩
  have hs : St _ [_] _ := hs.call hs2
  refine g_d rfl ?_
  try dsimp only [set0,setS]
  refine g_op (v := Value.int .i64 r7) rfl rfl rfl (g_d rfl (g_ops_nil (g_seq (g_rg [0, 1, 2, 3] rfl ?_))))
  refine g_op (v := Value.int .i64 a4) rfl rfl rfl (g_d rfl ?_)
  refine g_op (v := Value.int .i64 (i64w (a4 + 1))) rfl rfl rfl (g_d rfl ?_)
  try dsimp only [set0,setS]
  obtain ⟨g, H⟩ := ite_get H
  refine s_make (κ := kHS) (z := zHS) (zc := (encHS zHS)) (zv := (Value.slice none 0 0)) (B := 24) hs rfl rfl rfl rfl rfl g.1 rfl rfl rfl rfl rfl (fun _ => ⟨rfl, rfl⟩) rfl (by decide) (by have := g.2; omega) ?_
  intro v8 w hs
  have hs := hs.r2make (I := (RowO 2 (K.int .i64))) (y := ([] : (List Int))) rowO0
  have hs : St _ [_,_] _ := hs
  refine g_d rfl ?_
  refine g_op (v := v8) rfl rfl rfl (g_d rfl ?_)
  try dsimp only [set0,setS]
  refine g_ops_nil (g_seq (g_seq (g_rg [0] rfl ?_)))
  refine g_op (v := Value.int .i64 0) rfl rfl rfl (g_d rfl (g_ops_nil ?_))
  obtain ⟨o1_, Ho, Hr1_⟩ := bind_get H
  refine g_block_join (J := fun t w => ∃ ms38 : (List HS), ∃ x39 : (List (List Int)), spec_l07Table.a0 N a1 a3 a4 r7 x39 = some r ∧ Fr t (fun O => (v2::O 1::Value.int .i64 a4::O 3::Value.pointer (some ⟨b5, 0, none⟩)::O 5::O 6::Value.int .i64 r7::v8::O 9::O 10::O 11::O 12::O 13::O 14::O 15::O 16::O 17::O 18::O 19::O 20::O 21::O 22::O 23::O 24::O 25::O 26::O 27::O 28::O 29::O 30::O 31::O 32::O 33::O 34::O 35::O 36::O 37::O 38::O 39::O 40::O 41::O 42::O 43::O 44::O 45::O 46::O 47::O 48::O 49::O 50::O 51::O 52::O 53::O 54::O 55::O 56::O 57::O 58::O 59::O 60::O 61::O 62::O 63::O 64::O 65::O 66::O 67::O 68::O 69::O 70::O 71::O 72::O 73::O 74::O 75::O 76::O 77::O 78::O 79::O 80::O 81::O 82::O 83::O 84::O 85::O 86::O 87::O 88::O 89::O 90::O 91::O 92::O 93::O 94::O 95::O 96::O 97::O 98::O 99::O 100::O 101::O 102::O 103::O 104::O 105::O 106::O 107::O 108::O 109::O 110::O 111::O 112::O 113::O 114::O 115::O 116::O 117::O 118::O 119::O 120::O 121::O 122::O 123::O 124::O 125::O 126::O 127::O 128::O 129::O 130::O 131::O 132::O 133::O 134::O 135::O 136::O 137::O 138::O 139::O 140::O 141::O 142::O 143::[] : List Value)) ∧ St w0 [Cells b5 ((encA (encI .i16)) a3) 30, Rows2 38 kHS (RowO 2 (K.int .i64)) v8 ms38 x39] w) ?_ ?_
  ·
   rintro t w ⟨ms38, x39, H, hf, hs⟩
   obtain ⟨O, rfl⟩ := hf.open
   try dsimp only
   unfold spec_l07Table.a0 at H
   refine g_seq ?_
   obtain ⟨gd13, H⟩ := ite_get H
   obtain ⟨ad14_, ad14_N, ad14_C, had14_⟩ := sl_at (hs.r2row 1 rfl) gd13.1 (hs.r2lt 1 rfl gd13.2)
   obtain ⟨r40, Hr40, H⟩ := bind_get H
   obtain ⟨gd15, H⟩ := ite_get H
   obtain ⟨ad16_, ad16_N, ad16_C, had16_⟩ := sl_at (hs.r2rd 1 rfl gd13.1 gd13.2) gd15.1 gd15.2
   refine g_name ?_
   intro T hT
   refine g_any (n := 8) rfl [0, 1, 2, 3, 4, 5, 6, 7] [0, 1, 2, 3, 4, 5, 6, 7] rfl rfl (Inv := fun D t w => ∃ O : Nat → Value, t = (v2::O 1::Value.int .i64 a4::O 3::Value.pointer (some ⟨b5, 0, none⟩)::O 5::O 6::Value.int .i64 r7::v8::O 9::O 10::O 11::O 12::O 13::O 14::O 15::O 16::O 17::O 18::O 19::O 20::O 21::O 22::O 23::O 24::O 25::O 26::O 27::O 28::O 29::O 30::O 31::O 32::O 33::O 34::O 35::O 36::O 37::O 38::O 39::O 40::O 41::O 42::O 43::O 44::cnd (D 0) v8 (O 45)::cnd (D 1) (Value.pointer (some (ad14_.add ((0 : Int).toNat * 1)))) (O 46)::cnd (D 2) (Value.slice (rdL ms38 0 zHS).a (rdL ms38 0 zHS).n (rdL ms38 0 zHS).c) (O 47)::cnd (D 3) v2 (O 48)::cnd (D 4) (Value.agg ((encA (encI .i16)) a3).toArray) (O 49)::cnd (D 5) (Value.int .i64 r40) (O 50)::cnd (D 6) (Value.pointer (some (ad16_.add (r40.toNat * 1)))) (O 51)::O 52::O 53::O 54::O 55::O 56::O 57::O 58::O 59::O 60::O 61::O 62::O 63::O 64::O 65::O 66::O 67::O 68::O 69::O 70::O 71::O 72::O 73::O 74::O 75::O 76::O 77::O 78::O 79::O 80::O 81::O 82::O 83::O 84::O 85::O 86::O 87::O 88::O 89::O 90::O 91::O 92::O 93::O 94::O 95::O 96::O 97::O 98::O 99::O 100::O 101::O 102::O 103::O 104::O 105::O 106::O 107::O 108::O 109::O 110::O 111::O 112::O 113::O 114::O 115::O 116::O 117::O 118::O 119::O 120::O 121::O 122::O 123::O 124::O 125::O 126::O 127::O 128::O 129::O 130::O 131::O 132::O 133::O 134::O 135::O 136::O 137::O 138::O 139::O 140::O 141::O 142::O 143::[]) ∧ St w0 [Cells b5 ((encA (encI .i16)) a3) 30, Rows2 38 kHS (RowO 2 (K.int .i64)) v8 ms38 (cnd (D 7) (stL x39 0 (stL (rdL x39 0 []) r40 0)) x39)] w) ?_ ⟨⟨⟨⟨⟨⟨⟨⟨trivial, ?_⟩, ?_⟩, ?_⟩, ?_⟩, ?_⟩, ?_⟩, ?_⟩, ?_⟩ ?_
   ·
    intro w hh hbw
    have hs := hs.samew hh hbw
    exact ⟨fun i => T.getD i undef, (by subst hT; rfl), hs⟩
   ·
    rintro D t w hD hp hcl ⟨O, ht, hs⟩ rest hk
    have q1_ := nz hcl 1 0 hD
    have q2_ := nz hcl 2 0 q1_
    have q6_ := nz hcl 6 0 q2_
    have q7_ := nz hcl 7 0 q6_
    simp only [hD, q1_, q2_, q6_, q7_, cq] at ht hs
    subst ht
    refine g_op (v := v8) rfl rfl rfl (g_d rfl ?_)
    try dsimp only [set0,setS]
    refine hk _ _ ⟨O, ?_, hs.cast ?_⟩ <;> simp only [lq, cq, Nat.reduceBEq, q1_, q2_, q6_, q7_]
   ·
    rintro D t w hD hp hcl ⟨O, ht, hs⟩ rest hk
    obtain ⟨p0_, _⟩ := hp
    have q2_ := nz hcl 2 0 hD
    have q6_ := nz hcl 6 0 q2_
    have q7_ := nz hcl 7 0 q6_
    simp only [hD, p0_, q2_, q6_, q7_, cq] at ht hs
    subst ht
    refine s_idxD (κ := kHS) (m := 1) rfl (hs.r2row 1 rfl) rfl (fun _ => rfl) gd13.1 (hs.r2lt 1 rfl gd13.2) had14_ rfl rfl rfl rfl rfl (g_d rfl ?_)
    try dsimp only [set0,setS]
    refine hk _ _ ⟨O, ?_, hs.cast ?_⟩ <;> simp only [lq, cq, Nat.reduceBEq, p0_, q2_, q6_, q7_]
   ·
    rintro D t w hD hp hcl ⟨O, ht, hs⟩ rest hk
    obtain ⟨p1_, _⟩ := hp
    obtain ⟨p0_, _⟩ := (hcl.get 1 (by decide)) p1_
    have q6_ := nz hcl 6 0 hD
    have q7_ := nz hcl 7 0 q6_
    simp only [hD, p0_, p1_, q6_, q7_, cq] at ht hs
    subst ht
    refine s_load1 rfl rfl (v := Value.slice (rdL ms38 0 zHS).a (rdL ms38 0 zHS).n (rdL ms38 0 zHS).c) rfl rfl (fun _ => rfl) (cellsAt_of fkHS zHS (hs.r2row 1 rfl) had14_ gd13.1 (hs.r2lt 1 rfl gd13.2)) (g_d rfl ?_)
    try dsimp only [set0,setS]
    refine hk _ _ ⟨O, ?_, hs.cast ?_⟩ <;> simp only [lq, cq, Nat.reduceBEq, p0_, p1_, q6_, q7_]
   ·
    rintro D t w hD hp hcl ⟨O, ht, hs⟩ rest hk
    have q5_ := nz hcl 5 0 hD
    have q6_ := nz hcl 6 1 q5_
    have q7_ := nz hcl 7 0 q6_
    simp only [hD, q5_, q6_, q7_, cq] at ht hs
    subst ht
    refine g_op (v := v2) rfl rfl rfl (g_d rfl ?_)
    try dsimp only [set0,setS]
    refine hk _ _ ⟨O, ?_, hs.cast ?_⟩ <;> simp only [lq, cq, Nat.reduceBEq, q5_, q6_, q7_]
   ·
    rintro D t w hD hp hcl ⟨O, ht, hs⟩ rest hk
    have q5_ := nz hcl 5 1 hD
    have q6_ := nz hcl 6 1 q5_
    have q7_ := nz hcl 7 0 q6_
    simp only [hD, q5_, q6_, q7_, cq] at ht hs
    subst ht
    refine s_loadA rfl rfl (es := ((encA (encI .i16)) a3)) rfl rfl (fun _ => rfl) (n := 4) (fun _ => rfl) ((fkA (n := 4) (he := (fkI .i16).len) (h1 := (fkI .i16).one)).len _) (cells_all (hs.cells 0 rfl)) (g_d rfl ?_)
    try dsimp only [set0,setS]
    refine hk _ _ ⟨O, ?_, hs.cast ?_⟩ <;> simp only [lq, cq, Nat.reduceBEq, q5_, q6_, q7_]
   ·
    rintro D t w hD hp hcl ⟨O, ht, hs⟩ rest hk
    obtain ⟨p3_, p4_, _⟩ := hp
    have q6_ := nz hcl 6 1 hD
    have q7_ := nz hcl 7 0 q6_
    simp only [hD, p3_, p4_, q6_, q7_, cq] at ht hs
    subst ht
    refine s_call (args := [v2, Value.agg ((encA (encI .i16)) a3).toArray]) rfl rfl (x_call rfl (callFunc_enter Try.func26 rfl rfl) rfl) (spec_l07Index.calls (a1 := a1) (a3 := a3) (hs.rd hr0) Hr40) ?_
    rintro _ w ⟨rfl, hs2⟩
    have hs : St _ [_,_] _ := hs.call hs2
    refine g_d rfl ?_
    try dsimp only [set0,setS]
    refine hk _ _ ⟨O, ?_, hs.cast ?_⟩ <;> simp only [lq, cq, Nat.reduceBEq, p3_, p4_, q6_, q7_]
   ·
    rintro D t w hD hp hcl ⟨O, ht, hs⟩ rest hk
    obtain ⟨p2_, p5_, p0_, p1_, _, p3_, p4_, _, _⟩ := hp
    have q7_ := nz hcl 7 0 hD
    simp only [hD, p0_, p1_, p2_, p3_, p4_, p5_, q7_, cq] at ht hs
    subst ht
    refine s_idxD (κ := (K.int .i64)) (m := 1) rfl (hs.r2rd 1 rfl gd13.1 gd13.2) rfl (fun _ => rfl) gd15.1 gd15.2 had16_ rfl rfl rfl rfl rfl (g_d rfl ?_)
    try dsimp only [set0,setS]
    refine hk _ _ ⟨O, ?_, hs.cast ?_⟩ <;> simp only [lq, cq, Nat.reduceBEq, p0_, p1_, p2_, p3_, p4_, p5_, q7_]
   ·
    rintro D t w hD hp hcl ⟨O, ht, hs⟩ rest hk
    obtain ⟨p6_, p5_, p0_, p1_, p2_, p3_, p4_, _, _⟩ := hp
    simp only [hD, p0_, p1_, p2_, p3_, p4_, p5_, p6_, cq] at ht hs
    subst ht
    have hs := hs.pull 1 rfl
    have hs : St _ [_,_] _ := hs
    refine s_r2st (y := 0) (fkI .i64) gd13.1 gd13.2 gd15.1 gd15.2 (hown_of had16_) hs rfl rfl rfl rfl rfl (fun _ => rfl) ?_
    intro w hs
    refine g_n rfl ?_
    try dsimp only [set0,setS]
    have hs := hs.push 1 (by simp)
    refine hk _ _ ⟨O, ?_, hs.cast ?_⟩ <;> simp only [lq, cq, Nat.reduceBEq, p0_, p1_, p2_, p3_, p4_, p5_, p6_]
   intro D t w hall hI
   obtain ⟨O, ht, hs⟩ := hI
   have p0_ := hall 0 (by decide)
   have p1_ := hall 1 (by decide)
   have p2_ := hall 2 (by decide)
   have p3_ := hall 3 (by decide)
   have p4_ := hall 4 (by decide)
   have p5_ := hall 5 (by decide)
   have p6_ := hall 6 (by decide)
   have p7_ := hall 7 (by decide)
   simp only [p0_, p1_, p2_, p3_, p4_, p5_, p6_, p7_, cq] at ht hs
   subst ht
   refine g_seq (g_seq (g_rg [0] rfl ?_))
   refine g_op (v := Value.int .i64 0) rfl rfl rfl (g_d rfl ?_)
   try dsimp only [set0,setS]
   refine g_ops_nil ?_
   obtain ⟨o1_, Ho, Hr1_⟩ := bind_get H
   refine g_block_join (J := fun t w => ∃ x220 : (List (List Int)), spec_l07Table.a2 N x220 = some r ∧ Fr t (fun O => (O 0::O 1::O 2::O 3::O 4::O 5::O 6::O 7::v8::O 9::O 10::O 11::O 12::O 13::O 14::O 15::O 16::O 17::O 18::O 19::O 20::O 21::O 22::O 23::O 24::O 25::O 26::O 27::O 28::O 29::O 30::O 31::O 32::O 33::O 34::O 35::O 36::O 37::O 38::O 39::O 40::O 41::O 42::O 43::O 44::O 45::O 46::O 47::O 48::O 49::O 50::O 51::O 52::O 53::O 54::O 55::O 56::O 57::O 58::O 59::O 60::O 61::O 62::O 63::O 64::O 65::O 66::O 67::O 68::O 69::O 70::O 71::O 72::O 73::O 74::O 75::O 76::O 77::O 78::O 79::O 80::O 81::O 82::O 83::O 84::O 85::O 86::O 87::O 88::O 89::O 90::O 91::O 92::O 93::O 94::O 95::O 96::O 97::O 98::O 99::O 100::O 101::O 102::O 103::O 104::O 105::O 106::O 107::O 108::O 109::O 110::O 111::O 112::O 113::O 114::O 115::O 116::O 117::O 118::O 119::O 120::O 121::O 122::O 123::O 124::O 125::O 126::O 127::O 128::O 129::O 130::O 131::O 132::O 133::O 134::O 135::O 136::O 137::O 138::O 139::O 140::O 141::O 142::O 143::[] : List Value)) ∧ St w0 [Rows2 38 kHS (RowO 2 (K.int .i64)) v8 ms38 x220] w) ?_ ?_
   ·
    rintro t w ⟨x220, H, hf, hs⟩
    obtain ⟨O, rfl⟩ := hf.open
    try dsimp only
    unfold spec_l07Table.a2 at H
    refine g_seq (g_rg [0, 1] rfl ?_)
    refine g_op (v := v8) rfl rfl rfl (g_d rfl ?_)
    refine g_op (v := v8) rfl rfl rfl (g_d rfl (g_ops_nil ?_))
    obtain rfl := Option.some.inj H
    refine g_ret Try.func14 (v := v8) (res1 rfl rfl) ?_
    have hs := hs.pull 0 rfl
    have hs : St _ [_] _ := St.take (Γ' := []) hs
    exact ⟨_, rfl, v8, ms38, rfl, hs⟩
   intro ha1_
   have hs := hs.pull 1 rfl
   have hs : St _ [_] _ := St.take (Γ' := [_]) hs
   refine g_loop_fuel (I := fun n_ t w => ∃ x130 : (List (List Int)), ∃ x131 : Int, rounds (fun s => spec_l07Table.b2 N a4 r7 a1 s.1 s.2) n_ (x130, x131) = some o1_ ∧ Fr t (fun O => (v2::O 1::Value.int .i64 a4::O 3::O 4::O 5::O 6::Value.int .i64 r7::v8::O 9::O 10::Value.int .i64 x131::O 12::O 13::O 14::O 15::O 16::O 17::O 18::O 19::O 20::O 21::O 22::O 23::O 24::O 25::O 26::O 27::O 28::O 29::O 30::O 31::O 32::O 33::O 34::O 35::O 36::O 37::O 38::O 39::O 40::O 41::O 42::O 43::O 44::O 45::O 46::O 47::O 48::O 49::O 50::O 51::O 52::O 53::O 54::O 55::O 56::O 57::O 58::O 59::O 60::O 61::O 62::O 63::O 64::O 65::O 66::O 67::O 68::O 69::O 70::O 71::O 72::O 73::O 74::O 75::O 76::O 77::O 78::O 79::O 80::O 81::O 82::O 83::O 84::O 85::O 86::O 87::O 88::O 89::O 90::O 91::O 92::O 93::O 94::O 95::O 96::O 97::O 98::O 99::O 100::O 101::O 102::O 103::O 104::O 105::O 106::O 107::O 108::O 109::O 110::O 111::O 112::O 113::O 114::O 115::O 116::O 117::O 118::O 119::O 120::O 121::O 122::O 123::O 124::O 125::O 126::O 127::O 128::O 129::O 130::O 131::O 132::O 133::O 134::O 135::O 136::O 137::O 138::O 139::O 140::O 141::O 142::O 143::[] : List Value)) ∧ St w0 [Rows2 38 kHS (RowO 2 (K.int .i64)) v8 ms38 x130] w) N ⟨stL x39 0 (stL (rdL x39 0 []) r40 0), 0, Ho, rfl, hs⟩ ?_ ?_
   ·
    rintro _ _ ⟨x130, x131, h, _⟩
    exact rounds_zero h
   intro n_ ih1_
   rintro t w ⟨x130, x131, Ho, hf, hs⟩
   obtain ⟨O, rfl⟩ := hf.open
   try dsimp only
   obtain ⟨x127_, H, Hx1_⟩ := rounds_succ Ho
   have H : spec_l07Table.b2 N a4 r7 a1 x130 x131 = some x127_ := H
   unfold spec_l07Table.b2 at H
   refine g_seq (g_seq (g_rg [0, 1, 2] rfl ?_))
   refine g_op (v := Value.int .i64 x131) rfl rfl rfl (g_d rfl ?_)
   refine g_op (v := Value.int .i64 a4) rfl rfl rfl (g_d rfl ?_)
   refine g_op_b (B := decide (x131 ≤ a4)) rfl rfl rfl ?_ ?_
   ·
    intro hb
    rw [if_pos (b_dec_t hb)] at H
    refine g_d rfl ?_
    try dsimp only [set0,setS]
    refine g_ops_nil (g_cond_true rfl (g_skip (g_seq ?_)))
    refine g_block (g_seq (g_rg [0] rfl ?_))
    refine g_op (v := Value.int .i64 0) rfl rfl rfl (g_d rfl (g_ops_nil ?_))
    obtain ⟨o2_, Ho, Hr2_⟩ := bind_get H
    refine g_block_join (J := fun t w => ∃ x219 : (List (List Int)), spec_l07Table.a4 N x131 x219 = some x127_ ∧ Fr t (fun O => (v2::O 1::Value.int .i64 a4::O 3::O 4::O 5::O 6::Value.int .i64 r7::v8::O 9::O 10::Value.int .i64 x131::O 12::O 13::O 14::O 15::O 16::O 17::O 18::O 19::O 20::O 21::O 22::O 23::O 24::O 25::O 26::O 27::O 28::O 29::O 30::O 31::O 32::O 33::O 34::O 35::O 36::O 37::O 38::O 39::O 40::O 41::O 42::O 43::O 44::O 45::O 46::O 47::O 48::O 49::O 50::O 51::O 52::O 53::O 54::O 55::O 56::O 57::O 58::O 59::O 60::O 61::O 62::O 63::O 64::O 65::O 66::O 67::O 68::O 69::O 70::O 71::O 72::O 73::O 74::O 75::O 76::O 77::O 78::O 79::O 80::O 81::O 82::O 83::O 84::O 85::O 86::O 87::O 88::O 89::O 90::O 91::O 92::O 93::O 94::O 95::O 96::O 97::O 98::O 99::O 100::O 101::O 102::O 103::O 104::O 105::O 106::O 107::O 108::O 109::O 110::O 111::O 112::O 113::O 114::O 115::O 116::O 117::O 118::O 119::O 120::O 121::O 122::O 123::O 124::O 125::O 126::O 127::O 128::O 129::O 130::O 131::O 132::O 133::O 134::O 135::O 136::O 137::O 138::O 139::O 140::O 141::O 142::O 143::[] : List Value)) ∧ St w0 [Rows2 38 kHS (RowO 2 (K.int .i64)) v8 ms38 x219] w) ?_ ?_
    ·
     rintro t w ⟨x219, H, hf, hs⟩
     obtain ⟨O, rfl⟩ := hf.open
     try dsimp only
     unfold spec_l07Table.a4 at H
     refine g_inBlock (g_rg [0, 1, 2] rfl ?_)
     refine g_op (v := Value.int .i64 x131) rfl rfl rfl (g_d rfl ?_)
     refine g_op (v := Value.int .i64 (i64w (x131 + 1))) rfl rfl rfl (g_d rfl ?_)
     refine g_op (v := Value.int .i64 (i64w (x131 + 1))) rfl rfl rfl (g_d rfl ?_)
     try dsimp only [set0,setS]
     refine g_ops_nil ?_
     obtain rfl := Option.some.inj H
     have hs := hs.pull 0 rfl
     have hs : St _ [_] _ := St.take (Γ' := []) hs
     exact ih1_ _ _ ⟨x219, i64w (x131 + 1), Hx1_, rfl, hs⟩
    intro ha2_
    have hs := hs.pull 0 rfl
    have hs : St _ [_] _ := St.take (Γ' := []) hs
    refine g_loop_fuel (I := fun n_ t w => ∃ x175 : (List (List Int)), ∃ x176 : Int, rounds (fun s => spec_l07Table.b4 N r7 x131 a1 a4 s.1 s.2) n_ (x175, x176) = some o2_ ∧ Fr t (fun O => (v2::O 1::Value.int .i64 a4::O 3::O 4::O 5::O 6::Value.int .i64 r7::v8::O 9::O 10::Value.int .i64 x131::Value.int .i64 x176::O 13::O 14::O 15::O 16::O 17::O 18::O 19::O 20::O 21::O 22::O 23::O 24::O 25::O 26::O 27::O 28::O 29::O 30::O 31::O 32::O 33::O 34::O 35::O 36::O 37::O 38::O 39::O 40::O 41::O 42::O 43::O 44::O 45::O 46::O 47::O 48::O 49::O 50::O 51::O 52::O 53::O 54::O 55::O 56::O 57::O 58::O 59::O 60::O 61::O 62::O 63::O 64::O 65::O 66::O 67::O 68::O 69::O 70::O 71::O 72::O 73::O 74::O 75::O 76::O 77::O 78::O 79::O 80::O 81::O 82::O 83::O 84::O 85::O 86::O 87::O 88::O 89::O 90::O 91::O 92::O 93::O 94::O 95::O 96::O 97::O 98::O 99::O 100::O 101::O 102::O 103::O 104::O 105::O 106::O 107::O 108::O 109::O 110::O 111::O 112::O 113::O 114::O 115::O 116::O 117::O 118::O 119::O 120::O 121::O 122::O 123::O 124::O 125::O 126::O 127::O 128::O 129::O 130::O 131::O 132::O 133::O 134::O 135::O 136::O 137::O 138::O 139::O 140::O 141::O 142::O 143::[] : List Value)) ∧ St w0 [Rows2 38 kHS (RowO 2 (K.int .i64)) v8 ms38 x175] w) N ⟨x130, 0, Ho, rfl, hs⟩ ?_ ?_
    ·
     rintro _ _ ⟨x175, x176, h, _⟩
     exact rounds_zero h
    intro n_ ih2_
    rintro t w ⟨x175, x176, Ho, hf, hs⟩
    obtain ⟨O, rfl⟩ := hf.open
    try dsimp only
    obtain ⟨x126_, H, Hx2_⟩ := rounds_succ Ho
    have H : spec_l07Table.b4 N r7 x131 a1 a4 x175 x176 = some x126_ := H
    unfold spec_l07Table.b4 at H
    refine g_seq (g_seq (g_rg [0, 1, 2] rfl ?_))
    refine g_op (v := Value.int .i64 x176) rfl rfl rfl (g_d rfl ?_)
    refine g_op (v := Value.int .i64 r7) rfl rfl rfl (g_d rfl ?_)
    refine g_op_b (B := decide (x176 < r7)) rfl rfl rfl ?_ ?_
    ·
     intro hb
     rw [if_pos (b_dec_t hb)] at H
     refine g_d rfl (g_ops_nil (g_cond_true rfl (g_skip (g_seq ?_))))
     refine g_block_join (J := (fun t w => ∃ x218 : (List (List Int)), spec_l07Table.j6 N x176 x218 = some x126_ ∧ Fr t (fun O => (v2::O 1::Value.int .i64 a4::O 3::O 4::O 5::O 6::Value.int .i64 r7::v8::O 9::O 10::Value.int .i64 x131::Value.int .i64 x176::O 13::O 14::O 15::O 16::O 17::O 18::O 19::O 20::O 21::O 22::O 23::O 24::O 25::O 26::O 27::O 28::O 29::O 30::O 31::O 32::O 33::O 34::O 35::O 36::O 37::O 38::O 39::O 40::O 41::O 42::O 43::O 44::O 45::O 46::O 47::O 48::O 49::O 50::O 51::O 52::O 53::O 54::O 55::O 56::O 57::O 58::O 59::O 60::O 61::O 62::O 63::O 64::O 65::O 66::O 67::O 68::O 69::O 70::O 71::O 72::O 73::O 74::O 75::O 76::O 77::O 78::O 79::O 80::O 81::O 82::O 83::O 84::O 85::O 86::O 87::O 88::O 89::O 90::O 91::O 92::O 93::O 94::O 95::O 96::O 97::O 98::O 99::O 100::O 101::O 102::O 103::O 104::O 105::O 106::O 107::O 108::O 109::O 110::O 111::O 112::O 113::O 114::O 115::O 116::O 117::O 118::O 119::O 120::O 121::O 122::O 123::O 124::O 125::O 126::O 127::O 128::O 129::O 130::O 131::O 132::O 133::O 134::O 135::O 136::O 137::O 138::O 139::O 140::O 141::O 142::O 143::[] : List Value)) ∧ St w0 [Rows2 38 kHS (RowO 2 (K.int .i64)) v8 ms38 x218] w)) ?_ ?_
     ·
      rintro t w ⟨x218, H, hf, hs⟩
      obtain ⟨O, rfl⟩ := hf.open
      try dsimp only
      unfold spec_l07Table.j6 at H
      refine g_rg [0, 1, 2] rfl ?_
      refine g_op (v := Value.int .i64 x176) rfl rfl rfl (g_d rfl ?_)
      refine g_op (v := Value.int .i64 (i64w (x176 + 1))) rfl rfl rfl (g_d rfl ?_)
      try dsimp only [set0,setS]
      refine g_op (v := Value.int .i64 (i64w (x176 + 1))) rfl rfl rfl (g_d rfl (g_ops_nil ?_))
      obtain rfl := Option.some.inj H
      have hs := hs.pull 0 rfl
      have hs : St _ [_] _ := St.take (Γ' := []) hs
      exact ih2_ _ _ ⟨x218, i64w (x176 + 1), Hx2_, rfl, hs⟩
     intro ha
     refine g_seq (g_seq (g_rg [0, 1, 2, 3, 4, 5, 6, 7] rfl ?_))
     refine g_op (v := v8) rfl rfl rfl (g_d rfl ?_)
     refine g_op (v := Value.int .i64 x131) rfl rfl rfl (g_d rfl ?_)
     obtain ⟨g99, H⟩ := ite_get H
     refine s_idx fkHS zHS (hs.r2row 0 rfl) rfl (fun _ => rfl) g99.1 (hs.r2lt 0 rfl g99.2) rfl rfl rfl rfl rfl ?_
     intro p177 hp177 lp177 op177
     refine g_d rfl ?_
     try dsimp only [set0,setS]
     refine s_load1 rfl rfl (v := Value.slice (rdL ms38 x131 zHS).a (rdL ms38 x131 zHS).n (rdL ms38 x131 zHS).c) rfl rfl (fun _ => rfl) hp177 (g_d rfl ?_)
     refine g_op (v := Value.int .i64 x176) rfl rfl rfl (g_d rfl ?_)
     obtain ⟨g100, H⟩ := ite_get H
     refine s_idx (fkI .i64) 0 (hs.r2rd 0 rfl g99.1 g99.2) rfl (fun _ => rfl) g100.1 g100.2 rfl rfl rfl rfl rfl ?_
     intro p178 hp178 lp178 op178
     refine g_d rfl ?_
     try dsimp only [set0,setS]
     refine s_load1 rfl rfl (v := Value.int .i64 (rdL (rdL x175 x131 []) x176 0)) rfl rfl (fun _ => rfl) hp178 (g_d rfl ?_)
     refine g_op_b (B := decide ((rdL (rdL x175 x131 []) x176 0) < 0)) rfl rfl rfl ?_ ?_
     ·
      intro hb
      rw [if_pos (b_dec_t hb)] at H
      refine g_d rfl (g_ops_nil (g_cond_true rfl ?_))
      refine g_exit rfl ?_
      have hs := hs.pull 0 rfl
      have hs : St _ [_] _ := St.take (Γ' := []) hs
      exact ha _ _ ⟨x175, H, rfl, hs⟩
     intro hb
     rw [if_neg (b_dec_f hb)] at H
     refine g_d rfl ?_
     try dsimp only [set0,setS]
     refine g_ops_nil (g_cond_false rfl (g_skip (g_seq (g_rg [0, 1, 2, 3, 4] rfl ?_))))
     refine g_op (v := v2) rfl rfl rfl (g_d rfl ?_)
     refine g_op (v := Value.int .i64 x176) rfl rfl rfl (g_d rfl ?_)
     obtain ⟨r179, Hr179, H⟩ := bind_get H
     refine s_call (args := [v2, Value.int .i64 x176]) rfl rfl (x_call rfl (callFunc_enter Try.func15 rfl rfl) rfl) (spec_l07At.calls (a1 := a1) (a3 := x176) (hs.rd hr0) Hr179) ?_
     rintro _ w ⟨rfl, hs2⟩
     have hs : St _ [_] _ := hs.call hs2
     refine g_d rfl ?_
     refine s_alloc hs rfl rfl (z := (Value.agg #[Value.int .i16 0, Value.int .i16 0, Value.int .i16 0, Value.int .i16 0])) (cs := ((encA (encI .i16)) (Ar.rep 4 0))) rfl (fun _ => rfl) rfl ?_
     intro b180 w hs
     refine g_d rfl ?_
     try dsimp only [set0,setS]
     refine s_storeAll (n := 4) hs ((fkA (n := 4) (he := (fkI .i16).len) (h1 := (fkI .i16).one)).len _) rfl rfl (vs := ((encA (encI .i16)) r179)) rfl rfl rfl (fun _ => rfl) ((fkA (n := 4) (he := (fkI .i16).len) (h1 := (fkI .i16).one)).len _) ((fkA (n := 4) (he := (fkI .i16).len) (h1 := (fkI .i16).one)).one _) ?_
     intro w hs
     refine g_n rfl (g_ops_nil (g_seq (g_rg [0] rfl ?_)))
     refine g_op (v := Value.int .i64 0) rfl rfl rfl (g_d rfl (g_ops_nil ?_))
     obtain ⟨o3_, Ho, Hr3_⟩ := bind_get H
     refine g_block_join (J := fun t w => ∃ x217 : (List (List Int)), spec_l07Table.a7 N x176 x217 = some x126_ ∧ Fr t (fun O => (v2::O 1::Value.int .i64 a4::O 3::O 4::O 5::O 6::Value.int .i64 r7::v8::O 9::O 10::Value.int .i64 x131::Value.int .i64 x176::O 13::O 14::O 15::O 16::O 17::O 18::O 19::O 20::O 21::O 22::O 23::O 24::O 25::O 26::O 27::O 28::O 29::O 30::O 31::O 32::O 33::O 34::O 35::O 36::O 37::O 38::O 39::O 40::O 41::O 42::O 43::O 44::O 45::O 46::O 47::O 48::O 49::O 50::O 51::O 52::O 53::O 54::O 55::O 56::O 57::O 58::O 59::O 60::O 61::O 62::O 63::O 64::O 65::O 66::O 67::O 68::O 69::O 70::O 71::O 72::O 73::O 74::O 75::O 76::O 77::O 78::O 79::O 80::O 81::O 82::O 83::O 84::O 85::O 86::O 87::O 88::O 89::O 90::O 91::O 92::O 93::O 94::O 95::O 96::O 97::O 98::O 99::O 100::O 101::O 102::O 103::O 104::O 105::O 106::O 107::O 108::O 109::O 110::O 111::O 112::O 113::O 114::O 115::O 116::O 117::O 118::O 119::O 120::O 121::O 122::O 123::O 124::O 125::O 126::O 127::O 128::O 129::O 130::O 131::O 132::O 133::O 134::O 135::O 136::O 137::O 138::O 139::O 140::O 141::O 142::O 143::[] : List Value)) ∧ St w0 [Rows2 38 kHS (RowO 2 (K.int .i64)) v8 ms38 x217] w) ?_ ?_
     ·
      rintro t w ⟨x217, H, hf, hs⟩
      obtain ⟨O, rfl⟩ := hf.open
      try dsimp only
      unfold spec_l07Table.a7 at H
      refine g_inBlock ?_
      have hs := hs.pull 0 rfl
      have hs : St _ [_] _ := St.take (Γ' := []) hs
      exact ha _ _ ⟨x217, H, rfl, hs⟩
     intro ha3_
     have hs := hs.pull 0 rfl
     have hs := hs.pull 1 rfl
     have hs : St _ [_,_] _ := St.take (Γ' := []) hs
     refine g_loop_fuel (I := fun n_ t w => ∃ x199 : (List (List Int)), ∃ x200 : Int, rounds (fun s => spec_l07Table.b7 N a1 r179 x131 a4 x176 s.1 s.2) n_ (x199, x200) = some o3_ ∧ Fr t (fun O => (v2::O 1::Value.int .i64 a4::O 3::O 4::O 5::O 6::Value.int .i64 r7::v8::O 9::O 10::Value.int .i64 x131::Value.int .i64 x176::Value.pointer (some ⟨b180, 0, none⟩)::Value.int .i64 x200::O 15::O 16::O 17::O 18::O 19::O 20::O 21::O 22::O 23::O 24::O 25::O 26::O 27::O 28::O 29::O 30::O 31::O 32::O 33::O 34::O 35::O 36::O 37::O 38::O 39::O 40::O 41::O 42::O 43::O 44::O 45::O 46::O 47::O 48::O 49::O 50::O 51::O 52::O 53::O 54::O 55::O 56::O 57::O 58::O 59::O 60::O 61::O 62::O 63::O 64::O 65::O 66::O 67::O 68::O 69::O 70::O 71::O 72::O 73::O 74::O 75::O 76::O 77::O 78::O 79::O 80::O 81::O 82::O 83::O 84::O 85::O 86::O 87::O 88::O 89::O 90::O 91::O 92::O 93::O 94::O 95::O 96::O 97::O 98::O 99::O 100::O 101::O 102::O 103::O 104::O 105::O 106::O 107::O 108::O 109::O 110::O 111::O 112::O 113::O 114::O 115::O 116::O 117::O 118::O 119::O 120::O 121::O 122::O 123::O 124::O 125::O 126::O 127::O 128::O 129::O 130::O 131::O 132::O 133::O 134::O 135::O 136::O 137::O 138::O 139::O 140::O 141::O 142::O 143::[] : List Value)) ∧ St w0 [Rows2 38 kHS (RowO 2 (K.int .i64)) v8 ms38 x199, Cells b180 ((encA (encI .i16)) r179) 30] w) N ⟨x175, 0, Ho, rfl, hs⟩ ?_ ?_
     ·
      rintro _ _ ⟨x199, x200, h, _⟩
      exact rounds_zero h
     intro n_ ih3_
     rintro t w ⟨x199, x200, Ho, hf, hs⟩
     obtain ⟨O, rfl⟩ := hf.open
     try dsimp only
     obtain ⟨x125_, H, Hx3_⟩ := rounds_succ Ho
     have H : spec_l07Table.b7 N a1 r179 x131 a4 x176 x199 x200 = some x125_ := H
     unfold spec_l07Table.b7 at H
     refine g_seq (g_seq (g_rg [0, 1, 2, 3] rfl ?_))
     refine g_op (v := Value.int .i64 x200) rfl rfl rfl (g_d rfl ?_)
     refine g_op (v := v2) rfl rfl rfl (g_d rfl ?_)
     obtain ⟨r201, Hr201, H⟩ := bind_get H
     refine s_call (args := [v2]) rfl rfl (x_call rfl (callFunc_enter Try.func27 rfl rfl) rfl) (spec_l07Sets.calls (a1 := a1) (hs.rd hr0) Hr201) ?_
     rintro _ w ⟨rfl, hs2⟩
     have hs : St _ [_,_] _ := hs.call hs2
     refine g_d rfl ?_
     try dsimp only [set0,setS]
     refine g_op_b (B := decide (x200 < r201)) rfl rfl rfl ?_ ?_
     ·
      intro hb
      rw [if_pos (b_dec_t hb)] at H
      refine g_d rfl ?_
      try dsimp only [set0,setS]
      refine g_ops_nil (g_cond_true rfl (g_skip (g_seq ?_)))
      refine g_block_join (J := (fun t w => ∃ x216 : (List (List Int)), spec_l07Table.j9 N x200 x216 = some x125_ ∧ Fr t (fun O => (v2::O 1::Value.int .i64 a4::O 3::O 4::O 5::O 6::Value.int .i64 r7::v8::O 9::O 10::Value.int .i64 x131::Value.int .i64 x176::Value.pointer (some ⟨b180, 0, none⟩)::Value.int .i64 x200::O 15::O 16::O 17::O 18::O 19::O 20::O 21::O 22::O 23::O 24::O 25::O 26::O 27::O 28::O 29::O 30::O 31::O 32::O 33::O 34::O 35::O 36::O 37::O 38::O 39::O 40::O 41::O 42::O 43::O 44::O 45::O 46::O 47::O 48::O 49::O 50::O 51::O 52::O 53::O 54::O 55::O 56::O 57::O 58::O 59::O 60::O 61::O 62::O 63::O 64::O 65::O 66::O 67::O 68::O 69::O 70::O 71::O 72::O 73::O 74::O 75::O 76::O 77::O 78::O 79::O 80::O 81::O 82::O 83::O 84::O 85::O 86::O 87::O 88::O 89::O 90::O 91::O 92::O 93::O 94::O 95::O 96::O 97::O 98::O 99::O 100::O 101::O 102::O 103::O 104::O 105::O 106::O 107::O 108::O 109::O 110::O 111::O 112::O 113::O 114::O 115::O 116::O 117::O 118::O 119::O 120::O 121::O 122::O 123::O 124::O 125::O 126::O 127::O 128::O 129::O 130::O 131::O 132::O 133::O 134::O 135::O 136::O 137::O 138::O 139::O 140::O 141::O 142::O 143::[] : List Value)) ∧ St w0 [Rows2 38 kHS (RowO 2 (K.int .i64)) v8 ms38 x216, Cells b180 ((encA (encI .i16)) r179) 30] w)) ?_ ?_
      ·
       rintro t w ⟨x216, H, hf, hs⟩
       obtain ⟨O, rfl⟩ := hf.open
       try dsimp only
       unfold spec_l07Table.j9 at H
       refine g_rg [0, 1, 2] rfl ?_
       refine g_op (v := Value.int .i64 x200) rfl rfl rfl (g_d rfl ?_)
       refine g_op (v := Value.int .i64 (i64w (x200 + 1))) rfl rfl rfl (g_d rfl ?_)
       refine g_op (v := Value.int .i64 (i64w (x200 + 1))) rfl rfl rfl (g_d rfl ?_)
       try dsimp only [set0,setS]
       refine g_ops_nil ?_
       obtain rfl := Option.some.inj H
       have hs := hs.pull 1 rfl
       have hs := hs.pull 1 rfl
       have hs : St _ [_,_] _ := St.take (Γ' := []) hs
       exact ih3_ _ _ ⟨x216, i64w (x200 + 1), Hx3_, rfl, hs⟩
      intro ha
      refine g_seq (g_rg [0, 1, 2, 3, 4, 5, 6, 7, 8, 9, 10, 11] rfl ?_)
      refine g_op (v := v2) rfl rfl rfl (g_d rfl ?_)
      refine s_loadA rfl rfl (es := ((encA (encI .i16)) r179)) rfl rfl (fun _ => rfl) (n := 4) (fun _ => rfl) ((fkA (n := 4) (he := (fkI .i16).len) (h1 := (fkI .i16).one)).len _) (cells_all (hs.cells 1 rfl)) (g_d rfl ?_)
      refine g_op (v := Value.int .i64 x200) rfl rfl rfl (g_d rfl ?_)
      refine g_op (v := Value.int .u8 (u8w x200)) rfl rfl rfl (g_d rfl ?_)
      obtain ⟨r202, Hr202, H⟩ := bind_get H
      refine s_call (args := [v2, Value.agg ((encA (encI .i16)) r179).toArray, Value.int .u8 (u8w x200)]) rfl rfl (x_call rfl (callFunc_enter Try.func29 rfl rfl) rfl) (spec_l07Turn.calls (a1 := a1) (a3 := r179) (a4 := u8w x200) (hs.rd hr0) Hr202) ?_
      rintro _ w ⟨rfl, hs2⟩
      have hs : St _ [_,_] _ := hs.call hs2
      refine g_d rfl ?_
      try dsimp only [set0,setS]
      obtain ⟨r203, Hr203, H⟩ := bind_get H
      refine s_call (args := [Value.agg ((encA (encI .i16)) r202).toArray]) rfl rfl (x_call rfl (callFunc_enter Try.func28 rfl rfl) rfl) (spec_l07Wait.calls (a1 := r202) Hr203) ?_
      rintro _ w ⟨rfl, hs2⟩
      have hs : St _ [_,_] _ := hs.call hs2
      refine g_d rfl ?_
      refine g_op (v := Value.tuple #[Value.agg ((encA (encI .i16)) r203.1).toArray, Value.int .i64 r203.2]) rfl rfl rfl (g_d rfl ?_)
      refine g_op (v := Value.agg ((encA (encI .i16)) r203.1).toArray) rfl rfl rfl (g_d rfl ?_)
      refine g_op (v := Value.int .i64 r203.2) rfl rfl rfl (g_d rfl ?_)
      refine s_alloc hs rfl rfl (z := (Value.agg #[Value.int .i16 0, Value.int .i16 0, Value.int .i16 0, Value.int .i16 0])) (cs := ((encA (encI .i16)) (Ar.rep 4 0))) rfl (fun _ => rfl) rfl ?_
      intro b204 w hs
      refine g_d rfl ?_
      try dsimp only [set0,setS]
      refine s_storeAll (n := 4) hs ((fkA (n := 4) (he := (fkI .i16).len) (h1 := (fkI .i16).one)).len _) rfl rfl (vs := ((encA (encI .i16)) r203.1)) rfl rfl rfl (fun _ => rfl) ((fkA (n := 4) (he := (fkI .i16).len) (h1 := (fkI .i16).one)).len _) ((fkA (n := 4) (he := (fkI .i16).len) (h1 := (fkI .i16).one)).one _) ?_
      intro w hs
      refine g_n rfl ?_
      refine g_op (v := Value.int .i64 r203.2) rfl rfl rfl (g_d rfl (g_ops_nil (g_seq (g_seq (g_rg [0, 1, 2, 3, 4, 5, 6, 7, 8] rfl ?_)))))
      refine g_op (v := Value.int .i64 r203.2) rfl rfl rfl (g_d rfl ?_)
      refine g_op_b (B := r203.2 == 0) rfl rfl rfl ?_ ?_
      ·
       intro hb
       rw [if_pos (b_beq_t hb)] at H
       refine g_d rfl ?_
       refine g_op (v := Value.bool true) rfl rfl rfl (g_d rfl (g_op_not rfl rfl (g_d rfl (g_op_not rfl rfl (g_d rfl (g_op_not rfl rfl (g_d rfl ?_)))))))
       try dsimp only [set0,setS]
       refine g_op_not rfl rfl (g_d rfl (g_op_not rfl rfl (g_d rfl ?_)))
       refine g_op (v := Value.bool true) rfl rfl rfl (g_d rfl ?_)
       try dsimp only [set0,setS]
       refine g_ops_nil (g_cond_true rfl ?_)
       refine g_exit rfl ?_
       have hs := hs.pull 2 rfl
       have hs := hs.pull 2 rfl
       have hs : St _ [_,_] _ := St.take (Γ' := [_]) hs
       exact ha _ _ ⟨x199, H, rfl, hs⟩
      intro hb
      rw [if_neg (b_beq_f hb)] at H
      refine g_d rfl ?_
      try dsimp only [set0,setS]
      refine g_op (v := Value.bool false) rfl rfl rfl (g_d rfl ?_)
      refine g_op (v := Value.int .i64 x131) rfl rfl rfl (g_d rfl ?_)
      refine g_op (v := Value.int .i64 r203.2) rfl rfl rfl (g_d rfl ?_)
      refine g_op (v := Value.int .i64 (i64w (x131 + r203.2))) rfl rfl rfl (g_d rfl ?_)
      refine g_op (v := Value.int .i64 a4) rfl rfl rfl (g_d rfl ?_)
      refine g_op_b (B := decide ((i64w (x131 + r203.2)) > a4)) rfl rfl rfl ?_ ?_
      ·
       intro hb
       rw [if_pos (b_dec_t hb)] at H
       refine g_d rfl ?_
       refine g_op (v := Value.bool true) rfl rfl rfl (g_d rfl ?_)
       try dsimp only [set0,setS]
       refine g_ops_nil (g_cond_true rfl ?_)
       refine g_exit rfl ?_
       have hs := hs.pull 2 rfl
       have hs := hs.pull 2 rfl
       have hs : St _ [_,_] _ := St.take (Γ' := [_]) hs
       exact ha _ _ ⟨x199, H, rfl, hs⟩
      intro hb
      rw [if_neg (b_dec_f hb)] at H
      refine g_d rfl ?_
      try dsimp only [set0,setS]
      refine g_op (v := Value.bool false) rfl rfl rfl (g_d rfl (g_ops_nil (g_cond_false rfl (g_skip (g_seq (g_rg [0, 1, 2, 3] rfl ?_))))))
      refine g_op (v := v2) rfl rfl rfl (g_d rfl ?_)
      refine s_loadA rfl rfl (es := ((encA (encI .i16)) r203.1)) rfl rfl (fun _ => rfl) (n := 4) (fun _ => rfl) ((fkA (n := 4) (he := (fkI .i16).len) (h1 := (fkI .i16).one)).len _) (cells_all (hs.cells 0 rfl)) (g_d rfl ?_)
      try dsimp only [set0,setS]
      obtain ⟨r206, Hr206, H⟩ := bind_get H
      refine s_call (args := [v2, Value.agg ((encA (encI .i16)) r203.1).toArray]) rfl rfl (x_call rfl (callFunc_enter Try.func26 rfl rfl) rfl) (spec_l07Index.calls (a1 := a1) (a3 := r203.1) (hs.rd hr0) Hr206) ?_
      rintro _ w ⟨rfl, hs2⟩
      have hs : St _ [_,_,_] _ := hs.call hs2
      refine g_d rfl ?_
      refine g_op (v := Value.int .i64 r206) rfl rfl rfl (g_d rfl ?_)
      try dsimp only [set0,setS]
      refine g_ops_nil (g_seq ?_)
      obtain ⟨gd113, H⟩ := ite_get H
      obtain ⟨ad114_, ad114_N, ad114_C, had114_⟩ := sl_at (hs.r2row 1 rfl) gd113.1 (hs.r2lt 1 rfl gd113.2)
      obtain ⟨gd115, H⟩ := ite_get H
      obtain ⟨ad116_, ad116_N, ad116_C, had116_⟩ := sl_at (hs.r2rd 1 rfl gd113.1 gd113.2) gd115.1 gd115.2
      obtain ⟨r207, Hr207, H⟩ := bind_get H
      refine g_name ?_
      intro T hT
      refine g_any (n := 12) rfl [0, 1, 2, 3, 4, 5, 6, 7, 8, 9, 10, 11] [0, 1, 2, 3, 4, 5, 6, 7, 8, 9, 10, 11] rfl rfl (Inv := fun D t w => ∃ O : Nat → Value, t = (v2::O 1::Value.int .i64 a4::O 3::O 4::O 5::O 6::Value.int .i64 r7::v8::O 9::O 10::Value.int .i64 x131::Value.int .i64 x176::Value.pointer (some ⟨b180, 0, none⟩)::Value.int .i64 x200::Value.pointer (some ⟨b204, 0, none⟩)::Value.int .i64 r203.2::Value.int .i64 r206::cnd (D 11) (Value.int .i64 (i64w ((rdL (rdL x199 x131 []) x176 0) + r207))) (O 18)::O 19::O 20::O 21::O 22::O 23::O 24::O 25::O 26::O 27::O 28::O 29::O 30::O 31::O 32::O 33::O 34::O 35::O 36::O 37::O 38::O 39::O 40::O 41::O 42::O 43::O 44::O 45::O 46::O 47::O 48::O 49::O 50::O 51::O 52::O 53::O 54::O 55::O 56::O 57::O 58::O 59::O 60::O 61::O 62::O 63::O 64::O 65::O 66::O 67::O 68::O 69::O 70::O 71::O 72::Value.int .i64 x200::v2::Value.int .i64 r201::Value.bool true::O 77::O 78::Value.tuple #[Value.agg ((encA (encI .i16)) r203.1).toArray, Value.int .i64 r203.2]::v2::Value.agg ((encA (encI .i16)) r179).toArray::Value.int .i64 x200::Value.int .u8 (u8w x200)::Value.agg ((encA (encI .i16)) r202).toArray::Value.tuple #[Value.agg ((encA (encI .i16)) r203.1).toArray, Value.int .i64 r203.2]::Value.agg ((encA (encI .i16)) r203.1).toArray::Value.int .i64 r203.2::Value.int .i64 r203.2::Value.bool false::Value.bool false::Value.int .i64 x131::Value.int .i64 r203.2::Value.int .i64 (i64w (x131 + r203.2))::Value.int .i64 a4::Value.bool false::Value.bool false::v2::Value.agg ((encA (encI .i16)) r203.1).toArray::Value.int .i64 r206::cnd (D 0) v8 (O 100)::cnd (D 1) (Value.int .i64 x131) (O 101)::cnd (D 2) (Value.pointer (some (ad114_.add (x131.toNat * 1)))) (O 102)::cnd (D 3) (Value.slice (rdL ms38 x131 zHS).a (rdL ms38 x131 zHS).n (rdL ms38 x131 zHS).c) (O 103)::cnd (D 4) (Value.int .i64 x176) (O 104)::cnd (D 5) (Value.pointer (some (ad116_.add (x176.toNat * 1)))) (O 105)::cnd (D 6) (Value.int .i64 (rdL (rdL x199 x131 []) x176 0)) (O 106)::cnd (D 7) (Value.int .i64 x200) (O 107)::cnd (D 8) (Value.int .u8 (u8w x200)) (O 108)::cnd (D 9) (Value.int .i64 r207) (O 109)::cnd (D 10) (Value.int .i64 (i64w ((rdL (rdL x199 x131 []) x176 0) + r207))) (O 110)::O 111::O 112::O 113::O 114::O 115::O 116::O 117::O 118::O 119::O 120::O 121::O 122::O 123::O 124::O 125::O 126::O 127::O 128::O 129::O 130::O 131::O 132::O 133::O 134::O 135::O 136::O 137::O 138::O 139::O 140::O 141::O 142::O 143::[]) ∧ St w0 [Cells b204 ((encA (encI .i16)) r203.1) 30, Rows2 38 kHS (RowO 2 (K.int .i64)) v8 ms38 x199, Cells b180 ((encA (encI .i16)) r179) 30] w) ?_ ⟨⟨⟨⟨⟨⟨⟨⟨⟨⟨⟨⟨trivial, ?_⟩, ?_⟩, ?_⟩, ?_⟩, ?_⟩, ?_⟩, ?_⟩, ?_⟩, ?_⟩, ?_⟩, ?_⟩, ?_⟩ ?_
      ·
       intro w hh hbw
       have hs := hs.samew hh hbw
       exact ⟨fun i => T.getD i undef, (by subst hT; rfl), hs⟩
      ·
       rintro D t w hD hp hcl ⟨O, ht, hs⟩ rest hk
       have q2_ := nz hcl 2 0 hD
       have q3_ := nz hcl 3 0 q2_
       have q5_ := nz hcl 5 0 q3_
       have q6_ := nz hcl 6 0 q5_
       have q10_ := nz hcl 10 0 q6_
       have q11_ := nz hcl 11 0 q10_
       simp only [hD, q2_, q3_, q5_, q6_, q10_, q11_, cq] at ht hs
       subst ht
       refine g_op (v := v8) rfl rfl rfl (g_d rfl ?_)
       try dsimp only [set0,setS]
       refine hk _ _ ⟨O, ?_, hs.cast ?_⟩ <;> simp only [lq, cq, Nat.reduceBEq, q2_, q3_, q5_, q6_, q10_, q11_]
      ·
       rintro D t w hD hp hcl ⟨O, ht, hs⟩ rest hk
       have q2_ := nz hcl 2 1 hD
       have q3_ := nz hcl 3 0 q2_
       have q5_ := nz hcl 5 0 q3_
       have q6_ := nz hcl 6 0 q5_
       have q10_ := nz hcl 10 0 q6_
       have q11_ := nz hcl 11 0 q10_
       simp only [hD, q2_, q3_, q5_, q6_, q10_, q11_, cq] at ht hs
       subst ht
       refine g_op (v := Value.int .i64 x131) rfl rfl rfl (g_d rfl ?_)
       try dsimp only [set0,setS]
       refine hk _ _ ⟨O, ?_, hs.cast ?_⟩ <;> simp only [lq, cq, Nat.reduceBEq, q2_, q3_, q5_, q6_, q10_, q11_]
      ·
       rintro D t w hD hp hcl ⟨O, ht, hs⟩ rest hk
       obtain ⟨p0_, p1_, _⟩ := hp
       have q3_ := nz hcl 3 0 hD
       have q5_ := nz hcl 5 0 q3_
       have q6_ := nz hcl 6 0 q5_
       have q10_ := nz hcl 10 0 q6_
       have q11_ := nz hcl 11 0 q10_
       simp only [hD, p0_, p1_, q3_, q5_, q6_, q10_, q11_, cq] at ht hs
       subst ht
       refine s_idxD (κ := kHS) (m := 1) rfl (hs.r2row 1 rfl) rfl (fun _ => rfl) gd113.1 (hs.r2lt 1 rfl gd113.2) had114_ rfl rfl rfl rfl rfl (g_d rfl ?_)
       try dsimp only [set0,setS]
       refine hk _ _ ⟨O, ?_, hs.cast ?_⟩ <;> simp only [lq, cq, Nat.reduceBEq, p0_, p1_, q3_, q5_, q6_, q10_, q11_]
      ·
       rintro D t w hD hp hcl ⟨O, ht, hs⟩ rest hk
       obtain ⟨p2_, _⟩ := hp
       obtain ⟨p0_, p1_, _⟩ := (hcl.get 2 (by decide)) p2_
       have q5_ := nz hcl 5 0 hD
       have q6_ := nz hcl 6 0 q5_
       have q10_ := nz hcl 10 0 q6_
       have q11_ := nz hcl 11 0 q10_
       simp only [hD, p0_, p1_, p2_, q5_, q6_, q10_, q11_, cq] at ht hs
       subst ht
       refine s_load1 rfl rfl (v := Value.slice (rdL ms38 x131 zHS).a (rdL ms38 x131 zHS).n (rdL ms38 x131 zHS).c) rfl rfl (fun _ => rfl) (cellsAt_of fkHS zHS (hs.r2row 1 rfl) had114_ gd113.1 (hs.r2lt 1 rfl gd113.2)) (g_d rfl ?_)
       try dsimp only [set0,setS]
       refine hk _ _ ⟨O, ?_, hs.cast ?_⟩ <;> simp only [lq, cq, Nat.reduceBEq, p0_, p1_, p2_, q5_, q6_, q10_, q11_]
      ·
       rintro D t w hD hp hcl ⟨O, ht, hs⟩ rest hk
       have q5_ := nz hcl 5 1 hD
       have q6_ := nz hcl 6 0 q5_
       have q10_ := nz hcl 10 0 q6_
       have q11_ := nz hcl 11 0 q10_
       simp only [hD, q5_, q6_, q10_, q11_, cq] at ht hs
       subst ht
       refine g_op (v := Value.int .i64 x176) rfl rfl rfl (g_d rfl ?_)
       try dsimp only [set0,setS]
       refine hk _ _ ⟨O, ?_, hs.cast ?_⟩ <;> simp only [lq, cq, Nat.reduceBEq, q5_, q6_, q10_, q11_]
      ·
       rintro D t w hD hp hcl ⟨O, ht, hs⟩ rest hk
       obtain ⟨p3_, p4_, _⟩ := hp
       obtain ⟨p2_, _⟩ := (hcl.get 3 (by decide)) p3_
       obtain ⟨p0_, p1_, _⟩ := (hcl.get 2 (by decide)) p2_
       have q6_ := nz hcl 6 0 hD
       have q10_ := nz hcl 10 0 q6_
       have q11_ := nz hcl 11 0 q10_
       simp only [hD, p0_, p1_, p2_, p3_, p4_, q6_, q10_, q11_, cq] at ht hs
       subst ht
       refine s_idxD (κ := (K.int .i64)) (m := 1) rfl (hs.r2rd 1 rfl gd113.1 gd113.2) rfl (fun _ => rfl) gd115.1 gd115.2 had116_ rfl rfl rfl rfl rfl (g_d rfl ?_)
       try dsimp only [set0,setS]
       refine hk _ _ ⟨O, ?_, hs.cast ?_⟩ <;> simp only [lq, cq, Nat.reduceBEq, p0_, p1_, p2_, p3_, p4_, q6_, q10_, q11_]
      ·
       rintro D t w hD hp hcl ⟨O, ht, hs⟩ rest hk
       obtain ⟨p5_, _⟩ := hp
       obtain ⟨p3_, p4_, _⟩ := (hcl.get 5 (by decide)) p5_
       obtain ⟨p2_, _⟩ := (hcl.get 3 (by decide)) p3_
       obtain ⟨p0_, p1_, _⟩ := (hcl.get 2 (by decide)) p2_
       have q10_ := nz hcl 10 0 hD
       have q11_ := nz hcl 11 0 q10_
       simp only [hD, p0_, p1_, p2_, p3_, p4_, p5_, q10_, q11_, cq] at ht hs
       subst ht
       refine s_load1 rfl rfl (v := Value.int .i64 (rdL (rdL x199 x131 []) x176 0)) rfl rfl (fun _ => rfl) (cellsAt_of (fkI .i64) 0 (hs.r2rd 1 rfl gd113.1 gd113.2) had116_ gd115.1 gd115.2) (g_d rfl ?_)
       try dsimp only [set0,setS]
       refine hk _ _ ⟨O, ?_, hs.cast ?_⟩ <;> simp only [lq, cq, Nat.reduceBEq, p0_, p1_, p2_, p3_, p4_, p5_, q10_, q11_]
      ·
       rintro D t w hD hp hcl ⟨O, ht, hs⟩ rest hk
       have q8_ := nz hcl 8 0 hD
       have q9_ := nz hcl 9 0 q8_
       have q10_ := nz hcl 10 1 q9_
       have q11_ := nz hcl 11 0 q10_
       simp only [hD, q8_, q9_, q10_, q11_, cq] at ht hs
       subst ht
       refine g_op (v := Value.int .i64 x200) rfl rfl rfl (g_d rfl ?_)
       try dsimp only [set0,setS]
       refine hk _ _ ⟨O, ?_, hs.cast ?_⟩ <;> simp only [lq, cq, Nat.reduceBEq, q8_, q9_, q10_, q11_]
      ·
       rintro D t w hD hp hcl ⟨O, ht, hs⟩ rest hk
       obtain ⟨p7_, _⟩ := hp
       have q9_ := nz hcl 9 0 hD
       have q10_ := nz hcl 10 1 q9_
       have q11_ := nz hcl 11 0 q10_
       simp only [hD, p7_, q9_, q10_, q11_, cq] at ht hs
       subst ht
       refine g_op (v := Value.int .u8 (u8w x200)) rfl rfl rfl (g_d rfl ?_)
       try dsimp only [set0,setS]
       refine hk _ _ ⟨O, ?_, hs.cast ?_⟩ <;> simp only [lq, cq, Nat.reduceBEq, p7_, q9_, q10_, q11_]
      ·
       rintro D t w hD hp hcl ⟨O, ht, hs⟩ rest hk
       obtain ⟨p8_, _⟩ := hp
       obtain ⟨p7_, _⟩ := (hcl.get 8 (by decide)) p8_
       have q10_ := nz hcl 10 1 hD
       have q11_ := nz hcl 11 0 q10_
       simp only [hD, p7_, p8_, q10_, q11_, cq] at ht hs
       subst ht
       refine s_call (args := [Value.int .u8 (u8w x200)]) rfl rfl (x_call rfl (callFunc_enter Try.func30 rfl rfl) rfl) (spec_l07Turns.calls (a1 := u8w x200) Hr207) ?_
       rintro _ w ⟨rfl, hs2⟩
       have hs : St _ [_,_,_] _ := hs.call hs2
       refine g_d rfl ?_
       try dsimp only [set0,setS]
       refine hk _ _ ⟨O, ?_, hs.cast ?_⟩ <;> simp only [lq, cq, Nat.reduceBEq, p7_, p8_, q10_, q11_]
      ·
       rintro D t w hD hp hcl ⟨O, ht, hs⟩ rest hk
       obtain ⟨p6_, p9_, _⟩ := hp
       obtain ⟨p8_, _⟩ := (hcl.get 9 (by decide)) p9_
       obtain ⟨p7_, _⟩ := (hcl.get 8 (by decide)) p8_
       obtain ⟨p5_, _⟩ := (hcl.get 6 (by decide)) p6_
       obtain ⟨p3_, p4_, _⟩ := (hcl.get 5 (by decide)) p5_
       obtain ⟨p2_, _⟩ := (hcl.get 3 (by decide)) p3_
       obtain ⟨p0_, p1_, _⟩ := (hcl.get 2 (by decide)) p2_
       have q11_ := nz hcl 11 0 hD
       simp only [hD, p0_, p1_, p2_, p3_, p4_, p5_, p6_, p7_, p8_, p9_, q11_, cq] at ht hs
       subst ht
       refine g_op (v := Value.int .i64 (i64w ((rdL (rdL x199 x131 []) x176 0) + r207))) rfl rfl rfl (g_d rfl ?_)
       try dsimp only [set0,setS]
       refine hk _ _ ⟨O, ?_, hs.cast ?_⟩ <;> simp only [lq, cq, Nat.reduceBEq, p0_, p1_, p2_, p3_, p4_, p5_, p6_, p7_, p8_, p9_, q11_]
      ·
       rintro D t w hD hp hcl ⟨O, ht, hs⟩ rest hk
       obtain ⟨p10_, p9_, p0_, p1_, p2_, p3_, p4_, p5_, p6_, p7_, p8_, _, _, _⟩ := hp
       simp only [hD, p0_, p1_, p2_, p3_, p4_, p5_, p6_, p7_, p8_, p9_, p10_, cq] at ht hs
       subst ht
       refine g_op (v := Value.int .i64 (i64w ((rdL (rdL x199 x131 []) x176 0) + r207))) rfl rfl rfl (g_d rfl ?_)
       try dsimp only [set0,setS]
       refine hk _ _ ⟨O, ?_, hs.cast ?_⟩ <;> simp only [lq, cq, Nat.reduceBEq, p0_, p1_, p2_, p3_, p4_, p5_, p6_, p7_, p8_, p9_, p10_]
      intro D t w hall hI
      obtain ⟨O, ht, hs⟩ := hI
      have p0_ := hall 0 (by decide)
      have p1_ := hall 1 (by decide)
      have p2_ := hall 2 (by decide)
      have p3_ := hall 3 (by decide)
      have p4_ := hall 4 (by decide)
      have p5_ := hall 5 (by decide)
      have p6_ := hall 6 (by decide)
      have p7_ := hall 7 (by decide)
      have p8_ := hall 8 (by decide)
      have p9_ := hall 9 (by decide)
      have p10_ := hall 10 (by decide)
      have p11_ := hall 11 (by decide)
      simp only [p0_, p1_, p2_, p3_, p4_, p5_, p6_, p7_, p8_, p9_, p10_, p11_, cq] at ht hs
      subst ht
      refine g_seq (g_rg [0, 1, 2, 3, 4, 5, 6, 7, 8, 9, 10, 11, 12, 13, 14, 15, 16, 17, 18, 19, 20, 21, 22] rfl ?_)
      refine g_op (v := v8) rfl rfl rfl (g_d rfl ?_)
      refine g_op (v := Value.int .i64 x131) rfl rfl rfl (g_d rfl ?_)
      refine g_op (v := Value.int .i64 r203.2) rfl rfl rfl (g_d rfl ?_)
      refine g_op (v := Value.int .i64 (i64w (x131 + r203.2))) rfl rfl rfl (g_d rfl ?_)
      obtain ⟨g117, H⟩ := ite_get H
      refine s_idx fkHS zHS (hs.r2row 1 rfl) rfl (fun _ => rfl) g117.1 (hs.r2lt 1 rfl g117.2) rfl rfl rfl rfl rfl ?_
      intro p208 hp208 lp208 op208
      refine g_d rfl ?_
      try dsimp only [set0,setS]
      refine s_load1 rfl rfl (v := Value.slice (rdL ms38 (i64w (x131 + r203.2)) zHS).a (rdL ms38 (i64w (x131 + r203.2)) zHS).n (rdL ms38 (i64w (x131 + r203.2)) zHS).c) rfl rfl (fun _ => rfl) hp208 (g_d rfl ?_)
      refine g_op (v := Value.int .i64 r206) rfl rfl rfl (g_d rfl ?_)
      obtain ⟨g118, H⟩ := ite_get H
      refine s_idx (fkI .i64) 0 (hs.r2rd 1 rfl g117.1 g117.2) rfl (fun _ => rfl) g118.1 g118.2 rfl rfl rfl rfl rfl ?_
      intro p209 hp209 lp209 op209
      refine g_d rfl ?_
      try dsimp only [set0,setS]
      refine s_load1 rfl rfl (v := Value.int .i64 (rdL (rdL x199 (i64w (x131 + r203.2)) []) r206 0)) rfl rfl (fun _ => rfl) hp209 (g_d rfl ?_)
      refine g_op_b (B := decide ((rdL (rdL x199 (i64w (x131 + r203.2)) []) r206 0) < 0)) rfl rfl rfl ?_ ?_
      ·
       intro hb
       rw [if_pos (b_dec_t hb)] at H
       refine g_d rfl ?_
       try dsimp only [set0,setS]
       refine g_op (v := Value.bool true) rfl rfl rfl (g_d rfl (g_op_not rfl rfl (g_d rfl (g_op_not rfl rfl (g_d rfl (g_op_not rfl rfl (g_d rfl ?_)))))))
       refine g_op_not rfl rfl (g_d rfl (g_op_not rfl rfl (g_d rfl (g_op_not rfl rfl (g_d rfl ?_)))))
       try dsimp only [set0,setS]
       refine g_op_not rfl rfl (g_d rfl (g_op_not rfl rfl (g_d rfl (g_op_not rfl rfl (g_d rfl ?_)))))
       try dsimp only [set0,setS]
       refine g_op_not rfl rfl (g_d rfl (g_op_not rfl rfl (g_d rfl ?_)))
       try dsimp only [set0,setS]
       refine g_op (v := Value.bool true) rfl rfl rfl (g_d rfl (g_ops_nil (g_cond_true rfl (g_rg [0, 1, 2, 3, 4, 5, 6, 7, 8, 9] rfl ?_))))
       refine g_op (v := v8) rfl rfl rfl (g_d rfl ?_)
       refine g_op (v := Value.int .i64 x131) rfl rfl rfl (g_d rfl ?_)
       refine g_op (v := Value.int .i64 r203.2) rfl rfl rfl (g_d rfl ?_)
       refine g_op (v := Value.int .i64 (i64w (x131 + r203.2))) rfl rfl rfl (g_d rfl ?_)
       try dsimp only [set0,setS]
       obtain ⟨g119, H⟩ := ite_get H
       refine s_idx fkHS zHS (hs.r2row 1 rfl) rfl (fun _ => rfl) g119.1 (hs.r2lt 1 rfl g119.2) rfl rfl rfl rfl rfl ?_
       intro p210 hp210 lp210 op210
       refine g_d rfl ?_
       refine s_load1 rfl rfl (v := Value.slice (rdL ms38 (i64w (x131 + r203.2)) zHS).a (rdL ms38 (i64w (x131 + r203.2)) zHS).n (rdL ms38 (i64w (x131 + r203.2)) zHS).c) rfl rfl (fun _ => rfl) hp210 (g_d rfl ?_)
       try dsimp only [set0,setS]
       refine g_op (v := Value.int .i64 r206) rfl rfl rfl (g_d rfl ?_)
       refine g_op (v := Value.int .i64 (i64w ((rdL (rdL x199 x131 []) x176 0) + r207))) rfl rfl rfl (g_d rfl ?_)
       obtain ⟨g120, H⟩ := ite_get H
       refine s_idx (fkI .i64) 0 (hs.r2rd 1 rfl g119.1 g119.2) rfl (fun _ => rfl) g120.1 g120.2 rfl rfl rfl rfl rfl ?_
       intro p211 hp211 lp211 op211
       refine g_d rfl ?_
       have hs := hs.pull 1 rfl
       have hs : St _ [_,_,_] _ := hs
       refine s_r2st (y := i64w ((rdL (rdL x199 x131 []) x176 0) + r207)) (fkI .i64) g119.1 g119.2 g120.1 g120.2 op211 hs rfl rfl rfl rfl rfl (fun _ => rfl) ?_
       intro w hs
       refine g_n rfl (g_ops_nil ?_)
       refine g_inBlock ?_
       have hs := hs.pull 2 rfl
       have hs := hs.pull 1 rfl
       have hs : St _ [_,_] _ := St.take (Γ' := [_]) hs
       exact ha _ _ ⟨stL x199 (i64w (x131 + r203.2)) (stL (rdL x199 (i64w (x131 + r203.2)) []) r206 (i64w ((rdL (rdL x199 x131 []) x176 0) + r207))), H, rfl, hs⟩
      intro hb
      rw [if_neg (b_dec_f hb)] at H
      refine g_d rfl ?_
      try dsimp only [set0,setS]
      refine g_op (v := Value.bool false) rfl rfl rfl (g_d rfl ?_)
      refine g_op (v := Value.int .i64 (i64w ((rdL (rdL x199 x131 []) x176 0) + r207))) rfl rfl rfl (g_d rfl ?_)
      refine g_op (v := v8) rfl rfl rfl (g_d rfl ?_)
      refine g_op (v := Value.int .i64 x131) rfl rfl rfl (g_d rfl ?_)
      refine g_op (v := Value.int .i64 r203.2) rfl rfl rfl (g_d rfl ?_)
      refine g_op (v := Value.int .i64 (i64w (x131 + r203.2))) rfl rfl rfl (g_d rfl ?_)
      obtain ⟨g121, H⟩ := ite_get H
      refine s_idx fkHS zHS (hs.r2row 1 rfl) rfl (fun _ => rfl) g121.1 (hs.r2lt 1 rfl g121.2) rfl rfl rfl rfl rfl ?_
      intro p212 hp212 lp212 op212
      refine g_d rfl ?_
      try dsimp only [set0,setS]
      refine s_load1 rfl rfl (v := Value.slice (rdL ms38 (i64w (x131 + r203.2)) zHS).a (rdL ms38 (i64w (x131 + r203.2)) zHS).n (rdL ms38 (i64w (x131 + r203.2)) zHS).c) rfl rfl (fun _ => rfl) hp212 (g_d rfl ?_)
      refine g_op (v := Value.int .i64 r206) rfl rfl rfl (g_d rfl ?_)
      obtain ⟨g122, H⟩ := ite_get H
      refine s_idx (fkI .i64) 0 (hs.r2rd 1 rfl g121.1 g121.2) rfl (fun _ => rfl) g122.1 g122.2 rfl rfl rfl rfl rfl ?_
      intro p213 hp213 lp213 op213
      refine g_d rfl ?_
      try dsimp only [set0,setS]
      refine s_load1 rfl rfl (v := Value.int .i64 (rdL (rdL x199 (i64w (x131 + r203.2)) []) r206 0)) rfl rfl (fun _ => rfl) hp213 (g_d rfl ?_)
      refine g_op_b (B := decide ((i64w ((rdL (rdL x199 x131 []) x176 0) + r207)) < (rdL (rdL x199 (i64w (x131 + r203.2)) []) r206 0))) rfl rfl rfl ?_ ?_
      ·
       intro hb
       rw [if_pos (b_dec_t hb)] at H
       refine g_d rfl ?_
       try dsimp only [set0,setS]
       refine g_op (v := Value.bool true) rfl rfl rfl (g_d rfl (g_ops_nil (g_cond_true rfl (g_rg [0, 1, 2, 3, 4, 5, 6, 7, 8, 9] rfl ?_))))
       refine g_op (v := v8) rfl rfl rfl (g_d rfl ?_)
       refine g_op (v := Value.int .i64 x131) rfl rfl rfl (g_d rfl ?_)
       refine g_op (v := Value.int .i64 r203.2) rfl rfl rfl (g_d rfl ?_)
       refine g_op (v := Value.int .i64 (i64w (x131 + r203.2))) rfl rfl rfl (g_d rfl ?_)
       try dsimp only [set0,setS]
       obtain ⟨g123, H⟩ := ite_get H
       refine s_idx fkHS zHS (hs.r2row 1 rfl) rfl (fun _ => rfl) g123.1 (hs.r2lt 1 rfl g123.2) rfl rfl rfl rfl rfl ?_
       intro p214 hp214 lp214 op214
       refine g_d rfl ?_
       refine s_load1 rfl rfl (v := Value.slice (rdL ms38 (i64w (x131 + r203.2)) zHS).a (rdL ms38 (i64w (x131 + r203.2)) zHS).n (rdL ms38 (i64w (x131 + r203.2)) zHS).c) rfl rfl (fun _ => rfl) hp214 (g_d rfl ?_)
       try dsimp only [set0,setS]
       refine g_op (v := Value.int .i64 r206) rfl rfl rfl (g_d rfl ?_)
       refine g_op (v := Value.int .i64 (i64w ((rdL (rdL x199 x131 []) x176 0) + r207))) rfl rfl rfl (g_d rfl ?_)
       obtain ⟨g124, H⟩ := ite_get H
       refine s_idx (fkI .i64) 0 (hs.r2rd 1 rfl g123.1 g123.2) rfl (fun _ => rfl) g124.1 g124.2 rfl rfl rfl rfl rfl ?_
       intro p215 hp215 lp215 op215
       refine g_d rfl ?_
       have hs := hs.pull 1 rfl
       have hs : St _ [_,_,_] _ := hs
       refine s_r2st (y := i64w ((rdL (rdL x199 x131 []) x176 0) + r207)) (fkI .i64) g123.1 g123.2 g124.1 g124.2 op215 hs rfl rfl rfl rfl rfl (fun _ => rfl) ?_
       intro w hs
       refine g_n rfl (g_ops_nil ?_)
       refine g_inBlock ?_
       have hs := hs.pull 2 rfl
       have hs := hs.pull 1 rfl
       have hs : St _ [_,_] _ := St.take (Γ' := [_]) hs
       exact ha _ _ ⟨stL x199 (i64w (x131 + r203.2)) (stL (rdL x199 (i64w (x131 + r203.2)) []) r206 (i64w ((rdL (rdL x199 x131 []) x176 0) + r207))), H, rfl, hs⟩
      intro hb
      rw [if_neg (b_dec_f hb)] at H
      refine g_d rfl ?_
      try dsimp only [set0,setS]
      refine g_op (v := Value.bool false) rfl rfl rfl (g_d rfl (g_ops_nil (g_cond_false rfl (g_skip ?_))))
      refine g_inBlock ?_
      have hs := hs.pull 2 rfl
      have hs := hs.pull 2 rfl
      have hs : St _ [_,_] _ := St.take (Γ' := [_]) hs
      exact ha _ _ ⟨x199, H, rfl, hs⟩
     intro hb
     rw [if_neg (b_dec_f hb)] at H
     refine g_d rfl (g_ops_nil (g_cond_false rfl ?_))
     obtain rfl := Option.some.inj H
     subst Hx3_
     have hs := hs.pull 0 rfl
     have hs : St _ [_] _ := St.take (Γ' := [_]) hs
     refine g_exit rfl ?_
     exact ha3_ _ _ ⟨x199, Hr3_, rfl, hs⟩
    intro hb
    rw [if_neg (b_dec_f hb)] at H
    refine g_d rfl ?_
    try dsimp only [set0,setS]
    refine g_ops_nil (g_cond_false rfl ?_)
    obtain rfl := Option.some.inj H
    subst Hx2_
    have hs := hs.pull 0 rfl
    have hs : St _ [_] _ := St.take (Γ' := []) hs
    refine g_exit rfl ?_
    exact ha2_ _ _ ⟨x175, Hr2_, rfl, hs⟩
   intro hb
   rw [if_neg (b_dec_f hb)] at H
   refine g_d rfl (g_ops_nil (g_cond_false rfl ?_))
   obtain rfl := Option.some.inj H
   subst Hx1_
   have hs := hs.pull 0 rfl
   have hs : St _ [_] _ := St.take (Γ' := []) hs
   refine g_exit rfl ?_
   exact ha1_ _ _ ⟨x130, Hr1_, rfl, hs⟩
  intro ha1_
  have hs := hs.pull 0 rfl
  have hs := hs.pull 1 rfl
  have hs : St _ [_,_] _ := St.take (Γ' := []) hs
  refine g_loop_fuel (I := fun n_ t w => ∃ ms23 : (List HS), ∃ x24 : (List (List Int)), ∃ x25 : Int, rounds (fun s => spec_l07Table.b0 N a4 r7 s.1 s.2) n_ (x24, x25) = some o1_ ∧ Fr t (fun O => (v2::O 1::Value.int .i64 a4::O 3::Value.pointer (some ⟨b5, 0, none⟩)::O 5::O 6::Value.int .i64 r7::v8::Value.int .i64 x25::O 10::O 11::O 12::O 13::O 14::O 15::O 16::O 17::O 18::O 19::O 20::O 21::O 22::O 23::O 24::O 25::O 26::O 27::O 28::O 29::O 30::O 31::O 32::O 33::O 34::O 35::O 36::O 37::O 38::O 39::O 40::O 41::O 42::O 43::O 44::O 45::O 46::O 47::O 48::O 49::O 50::O 51::O 52::O 53::O 54::O 55::O 56::O 57::O 58::O 59::O 60::O 61::O 62::O 63::O 64::O 65::O 66::O 67::O 68::O 69::O 70::O 71::O 72::O 73::O 74::O 75::O 76::O 77::O 78::O 79::O 80::O 81::O 82::O 83::O 84::O 85::O 86::O 87::O 88::O 89::O 90::O 91::O 92::O 93::O 94::O 95::O 96::O 97::O 98::O 99::O 100::O 101::O 102::O 103::O 104::O 105::O 106::O 107::O 108::O 109::O 110::O 111::O 112::O 113::O 114::O 115::O 116::O 117::O 118::O 119::O 120::O 121::O 122::O 123::O 124::O 125::O 126::O 127::O 128::O 129::O 130::O 131::O 132::O 133::O 134::O 135::O 136::O 137::O 138::O 139::O 140::O 141::O 142::O 143::[] : List Value)) ∧ St w0 [Cells b5 ((encA (encI .i16)) a3) 30, Rows2 38 kHS (RowO 2 (K.int .i64)) v8 ms23 x24] w) N ⟨List.replicate ((i64w (a4 + 1))).toNat zHS, List.replicate ((i64w (a4 + 1))).toNat ([] : (List Int)), 0, Ho, rfl, hs⟩ ?_ ?_
  ·
   rintro _ _ ⟨ms23, x24, x25, h, _⟩
   exact rounds_zero h
  intro n_ ih1_
  rintro t w ⟨ms23, x24, x25, Ho, hf, hs⟩
  obtain ⟨O, rfl⟩ := hf.open
  try dsimp only
  obtain ⟨x128_, H, Hx1_⟩ := rounds_succ Ho
  have H : spec_l07Table.b0 N a4 r7 x24 x25 = some x128_ := H
  unfold spec_l07Table.b0 at H
  refine g_seq (g_seq (g_rg [0, 1, 2] rfl ?_))
  refine g_op (v := Value.int .i64 x25) rfl rfl rfl (g_d rfl ?_)
  refine g_op (v := Value.int .i64 a4) rfl rfl rfl (g_d rfl ?_)
  refine g_op_b (B := decide (x25 ≤ a4)) rfl rfl rfl ?_ ?_
  ·
   intro hb
   rw [if_pos (b_dec_t hb)] at H
   refine g_d rfl (g_ops_nil (g_cond_true rfl (g_skip (g_seq ?_))))
   refine g_block (g_seq (g_rg [0, 1, 2, 3, 4, 5] rfl ?_))
   refine g_op (v := v8) rfl rfl rfl (g_d rfl ?_)
   refine g_op (v := Value.int .i64 x25) rfl rfl rfl (g_d rfl ?_)
   refine g_op (v := Value.int .i64 r7) rfl rfl rfl (g_d rfl ?_)
   obtain ⟨g, H⟩ := ite_get H
   refine s_make (κ := (K.int .i64)) (z := 0) (zc := ((encI .i64) 0)) (zv := (Value.int .i64 0)) (B := 8) hs rfl rfl rfl rfl rfl g.1 rfl rfl rfl rfl rfl (fun _ => ⟨rfl, rfl⟩) rfl (by decide) (by have := g.2; omega) ?_
   intro v26 w hs
   refine g_d rfl ?_
   try dsimp only [set0,setS]
   obtain ⟨g7, H⟩ := ite_get H
   refine s_idx fkHS zHS (hs.r2row 2 rfl) rfl (fun _ => rfl) g7.1 (hs.r2lt 2 rfl g7.2) rfl rfl rfl rfl rfl ?_
   intro p28 hp28 lp28 op28
   refine g_d rfl ?_
   obtain ⟨mh29, rfl⟩ := hs.hsOf 0 rfl
   have hs := hs.pull 2 rfl
   have hs : St _ [_,_,_] _ := hs
   refine s_r2store (I := (RowO 2 (K.int .i64))) (h' := mh29) (x' := List.replicate (r7).toNat (0 : Int)) fkHS g7.1 g7.2 op28 hs rfl rfl rfl rfl rfl (fun _ => rfl) ?_
   intro w hs
   refine g_n rfl (g_ops_nil (g_seq (g_rg [0] rfl ?_)))
   refine g_op (v := Value.int .i64 0) rfl rfl rfl (g_d rfl ?_)
   try dsimp only [set0,setS]
   refine g_ops_nil ?_
   obtain ⟨o2_, Ho, Hr2_⟩ := bind_get H
   refine g_block_join (J := fun t w => ∃ x37 : (List (List Int)), spec_l07Table.a10 N x25 x37 = some x128_ ∧ Fr t (fun O => (v2::O 1::Value.int .i64 a4::O 3::Value.pointer (some ⟨b5, 0, none⟩)::O 5::O 6::Value.int .i64 r7::v8::Value.int .i64 x25::O 10::O 11::O 12::O 13::O 14::O 15::O 16::O 17::O 18::O 19::O 20::O 21::O 22::O 23::O 24::O 25::O 26::O 27::O 28::O 29::O 30::O 31::O 32::O 33::O 34::O 35::O 36::O 37::O 38::O 39::O 40::O 41::O 42::O 43::O 44::O 45::O 46::O 47::O 48::O 49::O 50::O 51::O 52::O 53::O 54::O 55::O 56::O 57::O 58::O 59::O 60::O 61::O 62::O 63::O 64::O 65::O 66::O 67::O 68::O 69::O 70::O 71::O 72::O 73::O 74::O 75::O 76::O 77::O 78::O 79::O 80::O 81::O 82::O 83::O 84::O 85::O 86::O 87::O 88::O 89::O 90::O 91::O 92::O 93::O 94::O 95::O 96::O 97::O 98::O 99::O 100::O 101::O 102::O 103::O 104::O 105::O 106::O 107::O 108::O 109::O 110::O 111::O 112::O 113::O 114::O 115::O 116::O 117::O 118::O 119::O 120::O 121::O 122::O 123::O 124::O 125::O 126::O 127::O 128::O 129::O 130::O 131::O 132::O 133::O 134::O 135::O 136::O 137::O 138::O 139::O 140::O 141::O 142::O 143::[] : List Value)) ∧ St w0 [Cells b5 ((encA (encI .i16)) a3) 30, Rows2 38 kHS (RowO 2 (K.int .i64)) v8 (stL ms23 x25 mh29) x37] w) ?_ ?_
   ·
    rintro t w ⟨x37, H, hf, hs⟩
    obtain ⟨O, rfl⟩ := hf.open
    try dsimp only
    unfold spec_l07Table.a10 at H
    refine g_inBlock (g_rg [0, 1, 2] rfl ?_)
    refine g_op (v := Value.int .i64 x25) rfl rfl rfl (g_d rfl ?_)
    refine g_op (v := Value.int .i64 (i64w (x25 + 1))) rfl rfl rfl (g_d rfl ?_)
    try dsimp only [set0,setS]
    refine g_op (v := Value.int .i64 (i64w (x25 + 1))) rfl rfl rfl (g_d rfl (g_ops_nil ?_))
    obtain rfl := Option.some.inj H
    have hs := hs.pull 1 rfl
    have hs := hs.pull 1 rfl
    have hs : St _ [_,_] _ := St.take (Γ' := []) hs
    exact ih1_ _ _ ⟨stL ms23 x25 mh29, x37, i64w (x25 + 1), Hx1_, rfl, hs⟩
   intro ha2_
   have hs := hs.pull 0 rfl
   have hs := hs.pull 1 rfl
   have hs : St _ [_,_] _ := St.take (Γ' := []) hs
   refine g_loop_fuel (I := fun n_ t w => ∃ x33 : (List (List Int)), ∃ x34 : Int, rounds (fun s => spec_l07Table.b10 N r7 x25 s.1 s.2) n_ (x33, x34) = some o2_ ∧ Fr t (fun O => (v2::O 1::Value.int .i64 a4::O 3::Value.pointer (some ⟨b5, 0, none⟩)::O 5::O 6::Value.int .i64 r7::v8::Value.int .i64 x25::Value.int .i64 x34::O 11::O 12::O 13::O 14::O 15::O 16::O 17::O 18::O 19::O 20::O 21::O 22::O 23::O 24::O 25::O 26::O 27::O 28::O 29::O 30::O 31::O 32::O 33::O 34::O 35::O 36::O 37::O 38::O 39::O 40::O 41::O 42::O 43::O 44::O 45::O 46::O 47::O 48::O 49::O 50::O 51::O 52::O 53::O 54::O 55::O 56::O 57::O 58::O 59::O 60::O 61::O 62::O 63::O 64::O 65::O 66::O 67::O 68::O 69::O 70::O 71::O 72::O 73::O 74::O 75::O 76::O 77::O 78::O 79::O 80::O 81::O 82::O 83::O 84::O 85::O 86::O 87::O 88::O 89::O 90::O 91::O 92::O 93::O 94::O 95::O 96::O 97::O 98::O 99::O 100::O 101::O 102::O 103::O 104::O 105::O 106::O 107::O 108::O 109::O 110::O 111::O 112::O 113::O 114::O 115::O 116::O 117::O 118::O 119::O 120::O 121::O 122::O 123::O 124::O 125::O 126::O 127::O 128::O 129::O 130::O 131::O 132::O 133::O 134::O 135::O 136::O 137::O 138::O 139::O 140::O 141::O 142::O 143::[] : List Value)) ∧ St w0 [Cells b5 ((encA (encI .i16)) a3) 30, Rows2 38 kHS (RowO 2 (K.int .i64)) v8 (stL ms23 x25 mh29) x33] w) N ⟨stL x24 x25 (List.replicate (r7).toNat (0 : Int)), 0, Ho, rfl, hs⟩ ?_ ?_
   ·
    rintro _ _ ⟨x33, x34, h, _⟩
    exact rounds_zero h
   intro n_ ih2_
   rintro t w ⟨x33, x34, Ho, hf, hs⟩
   obtain ⟨O, rfl⟩ := hf.open
   try dsimp only
   obtain ⟨x12_, H, Hx2_⟩ := rounds_succ Ho
   have H : spec_l07Table.b10 N r7 x25 x33 x34 = some x12_ := H
   unfold spec_l07Table.b10 at H
   refine g_seq (g_seq (g_rg [0, 1, 2] rfl ?_))
   refine g_op (v := Value.int .i64 x34) rfl rfl rfl (g_d rfl ?_)
   refine g_op (v := Value.int .i64 r7) rfl rfl rfl (g_d rfl ?_)
   refine g_op_b (B := decide (x34 < r7)) rfl rfl rfl ?_ ?_
   ·
    intro hb
    rw [if_pos (b_dec_t hb)] at H
    refine g_d rfl ?_
    try dsimp only [set0,setS]
    refine g_ops_nil (g_cond_true rfl (g_skip (g_seq ?_)))
    refine g_block (g_rg [0, 1, 2, 3, 4, 5, 6] rfl ?_)
    refine g_op (v := v8) rfl rfl rfl (g_d rfl ?_)
    refine g_op (v := Value.int .i64 x25) rfl rfl rfl (g_d rfl ?_)
    obtain ⟨g10, H⟩ := ite_get H
    refine s_idx fkHS zHS (hs.r2row 1 rfl) rfl (fun _ => rfl) g10.1 (hs.r2lt 1 rfl g10.2) rfl rfl rfl rfl rfl ?_
    intro p35 hp35 lp35 op35
    refine g_d rfl ?_
    refine s_load1 rfl rfl (v := Value.slice (rdL (stL ms23 x25 mh29) x25 zHS).a (rdL (stL ms23 x25 mh29) x25 zHS).n (rdL (stL ms23 x25 mh29) x25 zHS).c) rfl rfl (fun _ => rfl) hp35 (g_d rfl ?_)
    try dsimp only [set0,setS]
    refine g_op (v := Value.int .i64 x34) rfl rfl rfl (g_d rfl ?_)
    obtain ⟨g11, H⟩ := ite_get H
    refine s_idx (fkI .i64) 0 (hs.r2rd 1 rfl g10.1 g10.2) rfl (fun _ => rfl) g11.1 g11.2 rfl rfl rfl rfl rfl ?_
    intro p36 hp36 lp36 op36
    refine g_d rfl ?_
    have hs := hs.pull 1 rfl
    have hs : St _ [_,_] _ := hs
    refine s_r2st (y := (-1)) (fkI .i64) g10.1 g10.2 g11.1 g11.2 op36 hs rfl rfl rfl rfl rfl (fun _ => rfl) ?_
    intro w hs
    refine g_n rfl (g_ops_nil ?_)
    refine g_inBlock (g_rg [0, 1, 2] rfl ?_)
    refine g_op (v := Value.int .i64 x34) rfl rfl rfl (g_d rfl ?_)
    refine g_op (v := Value.int .i64 (i64w (x34 + 1))) rfl rfl rfl (g_d rfl ?_)
    try dsimp only [set0,setS]
    refine g_op (v := Value.int .i64 (i64w (x34 + 1))) rfl rfl rfl (g_d rfl (g_ops_nil ?_))
    obtain rfl := Option.some.inj H
    have hs := hs.pull 0 rfl
    have hs := hs.pull 1 rfl
    have hs : St _ [_,_] _ := St.take (Γ' := []) hs
    exact ih2_ _ _ ⟨stL x33 x25 (stL (rdL x33 x25 []) x34 (-1)), i64w (x34 + 1), Hx2_, rfl, hs⟩
   intro hb
   rw [if_neg (b_dec_f hb)] at H
   refine g_d rfl (g_ops_nil (g_cond_false rfl ?_))
   obtain rfl := Option.some.inj H
   subst Hx2_
   have hs := hs.pull 1 rfl
   have hs := hs.pull 1 rfl
   have hs : St _ [_,_] _ := St.take (Γ' := []) hs
   refine g_exit rfl ?_
   exact ha2_ _ _ ⟨x33, Hr2_, rfl, hs⟩
  intro hb
  rw [if_neg (b_dec_f hb)] at H
  refine g_d rfl ?_
  try dsimp only [set0,setS]
  refine g_ops_nil (g_cond_false rfl ?_)
  obtain rfl := Option.some.inj H
  subst Hx1_
  have hs := hs.pull 1 rfl
  have hs := hs.pull 1 rfl
  have hs : St _ [_,_] _ := St.take (Γ' := []) hs
  refine g_exit rfl ?_
  exact ha1_ _ _ ⟨ms23, x24, Hr1_, rfl, hs⟩

end Go.Proofs.YtmnaclghakalmaaX
