/- Contracts, printed by gen.py. -/
import Derived.Test.YtgpdpedpmhonkaaXT
import Derived.Test.YtgpdpedpmhonkaaProg
import Derived.Test.YtgpdpedpmhonkaaXRowR
import Derived.Test.YtgpdpedpmhonkaaXSq
import Derived.Test.YtgpdpedpmhonkaaXSeg
import Derived.Test.YtgpdpedpmhonkaaXKey
import Derived.Test.YtgpdpedpmhonkaaXPart
import Derived.Test.YtgpdpedpmhonkaaXC9
namespace Go.Proofs.YtgpdpedpmhonkaaX
open Go Go.RowKit Go.Proofs
set_option linter.unusedVariables false
set_option linter.unusedSimpArgs false
/- function 78 _impl_knowledge_balanced_at__impl_finder_can_1 -/
def _impl_knowledge_balanced_at__impl_finder_can_1.post (wb : World) (Z : As) (b5 : Nat) (b4 : Nat) (b5 : Nat) (b9 : Nat) (b12 : Nat) (b15 : Nat) (r : (Bool × (List (S_impl_knowledgeLeft × Bool)) × (List (S_impl_knowledgeLeft × Bool)) × S_impl_knowledge × Int × Bool)) (v : Value) (w : World) : Prop := v = Value.bool r.1 ∧ St wb [MapAs b5 ek_S_impl_knowledgeLeft Value.bool r.2.1, Cells b4 ([Value.map (some b5)]) 67, Cells b9 (enc_S_impl_knowledge r.2.2.2.1) 71, Cells b12 ((encI .i64) r.2.2.2.2.1) 2, Cells b15 (encB r.2.2.2.2.2) 4, Z] w
set_option maxHeartbeats 8000000 in
set_option maxRecDepth 100000 in
theorem _impl_knowledge_balanced_at__impl_finder_can_1.calls {N : Nat} {self : (List (S_impl_knowledgeLeft × Bool)) → S_impl_knowledge → Int → Option (Bool × (List (S_impl_knowledgeLeft × Bool)))} (ih : ∀ (a1 : (List (S_impl_knowledgeLeft × Bool))) (a4 : S_impl_knowledge) (a5 : Int) (b2 : Nat) (wb : World) (Z : As) (w0 : World) (r : (Bool × (List (S_impl_knowledgeLeft × Bool)))) (hs : St wb [MapAs b2 ek_S_impl_knowledgeLeft Value.bool a1, Z] w0), self a1 a4 a5 = some r → Calls Try.prog 32 #[Value.map (some b2), Value.agg (enc_S_impl_knowledge a4).toArray, Value.int .i64 a5] w0 fun e w => ∃ v, e = .returned v ∧ _impl_finder_can.post wb Z b2 r v w) {a1 : S_impl_knowledge} {a2 : S_impl_form} {a3 : (List (S_impl_knowledgeLeft × Bool))} {a8 : S_impl_knowledge} {a11 : Int} {a14 : Bool} {b4 : Nat} {b5 : Nat} {b9 : Nat} {b12 : Nat} {b15 : Nat} {wb : World} {Z : As} {w0 : World} {r : (Bool × (List (S_impl_knowledgeLeft × Bool)) × (List (S_impl_knowledgeLeft × Bool)) × S_impl_knowledge × Int × Bool)} (hs : St wb [MapAs b5 ek_S_impl_knowledgeLeft Value.bool a3, Cells b4 ([Value.map (some b5)]) 67, Cells b9 (enc_S_impl_knowledge a8) 71, Cells b12 ((encI .i64) a11) 2, Cells b15 (encB a14) 4, Z] w0) (H : _impl_knowledge_balanced_at__impl_finder_can_1.f N self a1 a2 a3 a8 a11 a14 = some r) :
    Calls Try.prog 78 #[Value.agg (enc_S_impl_knowledge a1).toArray, Value.agg (enc_S_impl_form a2).toArray, Value.func (Fn.func 61) #[] #[Value.pointer (some ⟨b4, 0, none⟩), Value.pointer (some ⟨b9, 0, none⟩), Value.pointer (some ⟨b12, 0, none⟩), Value.pointer (some ⟨b15, 0, none⟩)]] w0 fun e w => ∃ v, e = .returned v ∧ _impl_knowledge_balanced_at__impl_finder_can_1.post wb Z b5 b4 b5 b9 b12 b15 r v w := by
  unfold _impl_knowledge_balanced_at__impl_finder_can_1.f at H
  refine calls_of_g (n := 60) Try.func78 rfl rfl ?_
  show G _ _ _ _ (_::_::_::_::_::_::_::_::_::_::_::_::_::_::_::_::_::_::_::_::_::_::_::_::_::_::_::_::_::_::_::_::_::_::_::_::_::_::_::_::_::_::_::_::_::_::_::_::_::_::_::_::_::_::_::_::_::_::_::_::_::_::_::[]) _
  refine g_seq (g_rg [0, 1, 2] rfl ?_)
  refine s_box hs rfl rfl (cs := (enc_S_impl_knowledge a1)) rfl rfl ?_
  intro b17 w hs
  refine g_d rfl ?_
  try dsimp only [set0,setS]
  refine s_box hs rfl rfl (cs := (enc_S_impl_form a2)) rfl rfl ?_
  intro b19 w hs
  refine g_d rfl ?_
  refine g_op (v := Value.bool false) rfl rfl rfl (g_d rfl ?_)
  try dsimp only [set0,setS]
  refine g_ops_nil (g_seq ?_)
  obtain ⟨gd1, H⟩ := ite_get H
  obtain ⟨gd2, H⟩ := ite_get H
  obtain ⟨gd3, H⟩ := ite_get H
  obtain ⟨gd4, H⟩ := ite_get H
  obtain ⟨gd5, H⟩ := ite_get H
  obtain ⟨gd6, H⟩ := ite_get H
  refine g_name ?_
  intro T hT
  refine g_any (n := 24) rfl [0, 1, 2, 3, 4, 5, 6, 7, 8, 9, 10, 11, 12, 13, 14, 15, 16, 17, 18, 19, 20, 21, 22, 23] [0, 1, 2, 3, 4, 5, 6, 7, 8, 9, 10, 12, 13, 14, 15, 16, 17, 18, 19, 20, 21, 22, 11, 23] rfl rfl (Inv := fun D t w => ∃ O : Nat → Value, t = (Value.agg (enc_S_impl_knowledge a1).toArray::Value.agg (enc_S_impl_form a2).toArray::Value.func (Fn.func 61) #[] #[Value.pointer (some ⟨b4, 0, none⟩), Value.pointer (some ⟨b9, 0, none⟩), Value.pointer (some ⟨b12, 0, none⟩), Value.pointer (some ⟨b15, 0, none⟩)]::Value.pointer (some ⟨b17, 0, none⟩)::Value.pointer (some ⟨b19, 0, none⟩)::O 5::Value.bool false::cnd (D 22) (Value.int .i64 (i64w ((i64w ((a2.f_left.get 0 0) + (a2.f_left.get 1 0))) + (a2.f_left.get 2 0)))) (O 7)::cnd (D 23) (Value.int .i64 (i64w ((i64w ((a2.f_right.get 0 0) + (a2.f_right.get 1 0))) + (a2.f_right.get 2 0)))) (O 8)::cnd (D 0) (Value.pointer (some ⟨b19, 0, none⟩)) (O 9)::cnd (D 1) (Value.pointer (some ⟨b19, 0 + (0 : Int).toNat * 1, none⟩)) (O 10)::cnd (D 2) (Value.int .i64 (a2.f_left.get 0 0)) (O 11)::cnd (D 3) (Value.pointer (some ⟨b19, 0, none⟩)) (O 12)::cnd (D 4) (Value.pointer (some ⟨b19, 0 + (1 : Int).toNat * 1, none⟩)) (O 13)::cnd (D 5) (Value.int .i64 (a2.f_left.get 1 0)) (O 14)::cnd (D 6) (Value.int .i64 (i64w ((a2.f_left.get 0 0) + (a2.f_left.get 1 0)))) (O 15)::cnd (D 7) (Value.pointer (some ⟨b19, 0, none⟩)) (O 16)::cnd (D 8) (Value.pointer (some ⟨b19, 0 + (2 : Int).toNat * 1, none⟩)) (O 17)::cnd (D 9) (Value.int .i64 (a2.f_left.get 2 0)) (O 18)::cnd (D 10) (Value.int .i64 (i64w ((i64w ((a2.f_left.get 0 0) + (a2.f_left.get 1 0))) + (a2.f_left.get 2 0)))) (O 19)::cnd (D 11) (Value.pointer (some ⟨b19, 4, none⟩)) (O 20)::cnd (D 12) (Value.pointer (some ⟨b19, 4 + (0 : Int).toNat * 1, none⟩)) (O 21)::cnd (D 13) (Value.int .i64 (a2.f_right.get 0 0)) (O 22)::cnd (D 14) (Value.pointer (some ⟨b19, 4, none⟩)) (O 23)::cnd (D 15) (Value.pointer (some ⟨b19, 4 + (1 : Int).toNat * 1, none⟩)) (O 24)::cnd (D 16) (Value.int .i64 (a2.f_right.get 1 0)) (O 25)::cnd (D 17) (Value.int .i64 (i64w ((a2.f_right.get 0 0) + (a2.f_right.get 1 0)))) (O 26)::cnd (D 18) (Value.pointer (some ⟨b19, 4, none⟩)) (O 27)::cnd (D 19) (Value.pointer (some ⟨b19, 4 + (2 : Int).toNat * 1, none⟩)) (O 28)::cnd (D 20) (Value.int .i64 (a2.f_right.get 2 0)) (O 29)::cnd (D 21) (Value.int .i64 (i64w ((i64w ((a2.f_right.get 0 0) + (a2.f_right.get 1 0))) + (a2.f_right.get 2 0)))) (O 30)::O 31::O 32::O 33::O 34::O 35::O 36::O 37::O 38::O 39::O 40::O 41::O 42::O 43::O 44::O 45::O 46::O 47::O 48::O 49::O 50::O 51::O 52::O 53::O 54::O 55::O 56::O 57::O 58::O 59::O 60::O 61::O 62::[]) ∧ St wb [Cells b19 (enc_S_impl_form a2) 111, Cells b17 (enc_S_impl_knowledge a1) 71, MapAs b5 ek_S_impl_knowledgeLeft Value.bool a3, Cells b4 ([Value.map (some b5)]) 67, Cells b9 (enc_S_impl_knowledge a8) 71, Cells b12 ((encI .i64) a11) 2, Cells b15 (encB a14) 4, Z] w) ?_ ⟨⟨⟨⟨⟨⟨⟨⟨⟨⟨⟨⟨⟨⟨⟨⟨⟨⟨⟨⟨⟨⟨⟨⟨trivial, ?_⟩, ?_⟩, ?_⟩, ?_⟩, ?_⟩, ?_⟩, ?_⟩, ?_⟩, ?_⟩, ?_⟩, ?_⟩, ?_⟩, ?_⟩, ?_⟩, ?_⟩, ?_⟩, ?_⟩, ?_⟩, ?_⟩, ?_⟩, ?_⟩, ?_⟩, ?_⟩, ?_⟩ ?_
  ·
   intro w hh hbw
   have hs := hs.samew hh hbw
   exact ⟨fun i => T.getD i undef, (by subst hT; rfl), hs⟩
  ·
   rintro D t w hD hp hcl ⟨O, ht, hs⟩ rest hk
   have q1_ := nz hcl 1 0 hD
   have q2_ := nz hcl 2 0 q1_
   have q6_ := nz hcl 6 0 q2_
   have q10_ := nz hcl 10 0 q6_
   have q22_ := nz hcl 22 0 q10_
   have q23_ := nz hcl 23 1 q22_
   simp only [hD, q1_, q2_, q6_, q10_, q22_, q23_, cq] at ht hs
   subst ht
   refine g_op (v := Value.pointer (some ⟨b19, 0, none⟩)) rfl rfl rfl (g_d rfl ?_)
   try dsimp only [set0,setS]
   refine hk _ _ ⟨O, ?_, hs.cast ?_⟩ <;> simp only [lq, cq, Nat.reduceBEq, q1_, q2_, q6_, q10_, q22_, q23_]
  ·
   rintro D t w hD hp hcl ⟨O, ht, hs⟩ rest hk
   obtain ⟨p0_, _⟩ := hp
   have q2_ := nz hcl 2 0 hD
   have q6_ := nz hcl 6 0 q2_
   have q10_ := nz hcl 10 0 q6_
   have q22_ := nz hcl 22 0 q10_
   have q23_ := nz hcl 23 1 q22_
   simp only [hD, p0_, q2_, q6_, q10_, q22_, q23_, cq] at ht hs
   subst ht
   refine s_idxA (n := 0) (m := 1) rfl (fun _ => rfl) gd1.1 gd1.2 rfl rfl rfl rfl rfl (g_d rfl ?_)
   try dsimp only [set0,setS]
   refine hk _ _ ⟨O, ?_, hs.cast ?_⟩ <;> simp only [lq, cq, Nat.reduceBEq, p0_, q2_, q6_, q10_, q22_, q23_]
  ·
   rintro D t w hD hp hcl ⟨O, ht, hs⟩ rest hk
   obtain ⟨p1_, _⟩ := hp
   obtain ⟨p0_, _⟩ := (hcl.get 1 (by decide)) p1_
   have q6_ := nz hcl 6 0 hD
   have q10_ := nz hcl 10 0 q6_
   have q22_ := nz hcl 22 0 q10_
   have q23_ := nz hcl 23 1 q22_
   simp only [hD, p0_, p1_, q6_, q10_, q22_, q23_, cq] at ht hs
   subst ht
   refine s_load1 rfl rfl (v := Value.int .i64 (a2.f_left.get 0 0)) rfl rfl (fun _ => rfl) (cells_load (hs.cells 0 rfl) _ _ (part_get (i := 0) (fkI .i64).len a2.f_left 0 gd1.1 gd1.2 [] ((encA (encI .i64)) a2.f_right) (by simp [enc_S_impl_form, encI, encB, encS]) (by first | rfl | simp [encAI_len, encAB_len, encA_len]))) (g_d rfl ?_)
   try dsimp only [set0,setS]
   refine hk _ _ ⟨O, ?_, hs.cast ?_⟩ <;> simp only [lq, cq, Nat.reduceBEq, p0_, p1_, q6_, q10_, q22_, q23_]
  ·
   rintro D t w hD hp hcl ⟨O, ht, hs⟩ rest hk
   have q4_ := nz hcl 4 0 hD
   have q5_ := nz hcl 5 0 q4_
   have q6_ := nz hcl 6 1 q5_
   have q10_ := nz hcl 10 0 q6_
   have q22_ := nz hcl 22 0 q10_
   have q23_ := nz hcl 23 1 q22_
   simp only [hD, q4_, q5_, q6_, q10_, q22_, q23_, cq] at ht hs
   subst ht
   refine g_op (v := Value.pointer (some ⟨b19, 0, none⟩)) rfl rfl rfl (g_d rfl ?_)
   try dsimp only [set0,setS]
   refine hk _ _ ⟨O, ?_, hs.cast ?_⟩ <;> simp only [lq, cq, Nat.reduceBEq, q4_, q5_, q6_, q10_, q22_, q23_]
  ·
   rintro D t w hD hp hcl ⟨O, ht, hs⟩ rest hk
   obtain ⟨p3_, _⟩ := hp
   have q5_ := nz hcl 5 0 hD
   have q6_ := nz hcl 6 1 q5_
   have q10_ := nz hcl 10 0 q6_
   have q22_ := nz hcl 22 0 q10_
   have q23_ := nz hcl 23 1 q22_
   simp only [hD, p3_, q5_, q6_, q10_, q22_, q23_, cq] at ht hs
   subst ht
   refine s_idxA (n := 1) (m := 1) rfl (fun _ => rfl) gd2.1 gd2.2 rfl rfl rfl rfl rfl (g_d rfl ?_)
   try dsimp only [set0,setS]
   refine hk _ _ ⟨O, ?_, hs.cast ?_⟩ <;> simp only [lq, cq, Nat.reduceBEq, p3_, q5_, q6_, q10_, q22_, q23_]
  ·
   rintro D t w hD hp hcl ⟨O, ht, hs⟩ rest hk
   obtain ⟨p4_, _⟩ := hp
   obtain ⟨p3_, _⟩ := (hcl.get 4 (by decide)) p4_
   have q6_ := nz hcl 6 1 hD
   have q10_ := nz hcl 10 0 q6_
   have q22_ := nz hcl 22 0 q10_
   have q23_ := nz hcl 23 1 q22_
   simp only [hD, p3_, p4_, q6_, q10_, q22_, q23_, cq] at ht hs
   subst ht
   refine s_load1 rfl rfl (v := Value.int .i64 (a2.f_left.get 1 0)) rfl rfl (fun _ => rfl) (cells_load (hs.cells 0 rfl) _ _ (part_get (i := 1) (fkI .i64).len a2.f_left 0 gd2.1 gd2.2 [] ((encA (encI .i64)) a2.f_right) (by simp [enc_S_impl_form, encI, encB, encS]) (by first | rfl | simp [encAI_len, encAB_len, encA_len]))) (g_d rfl ?_)
   try dsimp only [set0,setS]
   refine hk _ _ ⟨O, ?_, hs.cast ?_⟩ <;> simp only [lq, cq, Nat.reduceBEq, p3_, p4_, q6_, q10_, q22_, q23_]
  ·
   rintro D t w hD hp hcl ⟨O, ht, hs⟩ rest hk
   obtain ⟨p2_, p5_, _⟩ := hp
   obtain ⟨p4_, _⟩ := (hcl.get 5 (by decide)) p5_
   obtain ⟨p3_, _⟩ := (hcl.get 4 (by decide)) p4_
   obtain ⟨p1_, _⟩ := (hcl.get 2 (by decide)) p2_
   obtain ⟨p0_, _⟩ := (hcl.get 1 (by decide)) p1_
   have q10_ := nz hcl 10 0 hD
   have q22_ := nz hcl 22 0 q10_
   have q23_ := nz hcl 23 1 q22_
   simp only [hD, p0_, p1_, p2_, p3_, p4_, p5_, q10_, q22_, q23_, cq] at ht hs
   subst ht
   refine g_op (v := Value.int .i64 (i64w ((a2.f_left.get 0 0) + (a2.f_left.get 1 0)))) rfl rfl rfl (g_d rfl ?_)
   try dsimp only [set0,setS]
   refine hk _ _ ⟨O, ?_, hs.cast ?_⟩ <;> simp only [lq, cq, Nat.reduceBEq, p0_, p1_, p2_, p3_, p4_, p5_, q10_, q22_, q23_]
  ·
   rintro D t w hD hp hcl ⟨O, ht, hs⟩ rest hk
   have q8_ := nz hcl 8 0 hD
   have q9_ := nz hcl 9 0 q8_
   have q10_ := nz hcl 10 1 q9_
   have q22_ := nz hcl 22 0 q10_
   have q23_ := nz hcl 23 1 q22_
   simp only [hD, q8_, q9_, q10_, q22_, q23_, cq] at ht hs
   subst ht
   refine g_op (v := Value.pointer (some ⟨b19, 0, none⟩)) rfl rfl rfl (g_d rfl ?_)
   try dsimp only [set0,setS]
   refine hk _ _ ⟨O, ?_, hs.cast ?_⟩ <;> simp only [lq, cq, Nat.reduceBEq, q8_, q9_, q10_, q22_, q23_]
  ·
   rintro D t w hD hp hcl ⟨O, ht, hs⟩ rest hk
   obtain ⟨p7_, _⟩ := hp
   have q9_ := nz hcl 9 0 hD
   have q10_ := nz hcl 10 1 q9_
   have q22_ := nz hcl 22 0 q10_
   have q23_ := nz hcl 23 1 q22_
   simp only [hD, p7_, q9_, q10_, q22_, q23_, cq] at ht hs
   subst ht
   refine s_idxA (n := 2) (m := 1) rfl (fun _ => rfl) gd3.1 gd3.2 rfl rfl rfl rfl rfl (g_d rfl ?_)
   try dsimp only [set0,setS]
   refine hk _ _ ⟨O, ?_, hs.cast ?_⟩ <;> simp only [lq, cq, Nat.reduceBEq, p7_, q9_, q10_, q22_, q23_]
  ·
   rintro D t w hD hp hcl ⟨O, ht, hs⟩ rest hk
   obtain ⟨p8_, _⟩ := hp
   obtain ⟨p7_, _⟩ := (hcl.get 8 (by decide)) p8_
   have q10_ := nz hcl 10 1 hD
   have q22_ := nz hcl 22 0 q10_
   have q23_ := nz hcl 23 1 q22_
   simp only [hD, p7_, p8_, q10_, q22_, q23_, cq] at ht hs
   subst ht
   refine s_load1 rfl rfl (v := Value.int .i64 (a2.f_left.get 2 0)) rfl rfl (fun _ => rfl) (cells_load (hs.cells 0 rfl) _ _ (part_get (i := 2) (fkI .i64).len a2.f_left 0 gd3.1 gd3.2 [] ((encA (encI .i64)) a2.f_right) (by simp [enc_S_impl_form, encI, encB, encS]) (by first | rfl | simp [encAI_len, encAB_len, encA_len]))) (g_d rfl ?_)
   try dsimp only [set0,setS]
   refine hk _ _ ⟨O, ?_, hs.cast ?_⟩ <;> simp only [lq, cq, Nat.reduceBEq, p7_, p8_, q10_, q22_, q23_]
  ·
   rintro D t w hD hp hcl ⟨O, ht, hs⟩ rest hk
   obtain ⟨p6_, p9_, _⟩ := hp
   obtain ⟨p8_, _⟩ := (hcl.get 9 (by decide)) p9_
   obtain ⟨p7_, _⟩ := (hcl.get 8 (by decide)) p8_
   obtain ⟨p2_, p5_, _⟩ := (hcl.get 6 (by decide)) p6_
   obtain ⟨p4_, _⟩ := (hcl.get 5 (by decide)) p5_
   obtain ⟨p3_, _⟩ := (hcl.get 4 (by decide)) p4_
   obtain ⟨p1_, _⟩ := (hcl.get 2 (by decide)) p2_
   obtain ⟨p0_, _⟩ := (hcl.get 1 (by decide)) p1_
   have q22_ := nz hcl 22 0 hD
   have q23_ := nz hcl 23 1 q22_
   simp only [hD, p0_, p1_, p2_, p3_, p4_, p5_, p6_, p7_, p8_, p9_, q22_, q23_, cq] at ht hs
   subst ht
   refine g_op (v := Value.int .i64 (i64w ((i64w ((a2.f_left.get 0 0) + (a2.f_left.get 1 0))) + (a2.f_left.get 2 0)))) rfl rfl rfl (g_d rfl ?_)
   try dsimp only [set0,setS]
   refine hk _ _ ⟨O, ?_, hs.cast ?_⟩ <;> simp only [lq, cq, Nat.reduceBEq, p0_, p1_, p2_, p3_, p4_, p5_, p6_, p7_, p8_, p9_, q22_, q23_]
  ·
   rintro D t w hD hp hcl ⟨O, ht, hs⟩ rest hk
   have q12_ := nz hcl 12 0 hD
   have q13_ := nz hcl 13 0 q12_
   have q17_ := nz hcl 17 0 q13_
   have q21_ := nz hcl 21 0 q17_
   have q23_ := nz hcl 23 0 q21_
   simp only [hD, q12_, q13_, q17_, q21_, q23_, cq] at ht hs
   subst ht
   refine g_op (v := Value.pointer (some ⟨b19, 4, none⟩)) rfl rfl rfl (g_d rfl ?_)
   try dsimp only [set0,setS]
   refine hk _ _ ⟨O, ?_, hs.cast ?_⟩ <;> simp only [lq, cq, Nat.reduceBEq, q12_, q13_, q17_, q21_, q23_]
  ·
   rintro D t w hD hp hcl ⟨O, ht, hs⟩ rest hk
   obtain ⟨p11_, _⟩ := hp
   have q13_ := nz hcl 13 0 hD
   have q17_ := nz hcl 17 0 q13_
   have q21_ := nz hcl 21 0 q17_
   have q23_ := nz hcl 23 0 q21_
   simp only [hD, p11_, q13_, q17_, q21_, q23_, cq] at ht hs
   subst ht
   refine s_idxA (n := 0) (m := 1) rfl (fun _ => rfl) gd4.1 gd4.2 rfl rfl rfl rfl rfl (g_d rfl ?_)
   try dsimp only [set0,setS]
   refine hk _ _ ⟨O, ?_, hs.cast ?_⟩ <;> simp only [lq, cq, Nat.reduceBEq, p11_, q13_, q17_, q21_, q23_]
  ·
   rintro D t w hD hp hcl ⟨O, ht, hs⟩ rest hk
   obtain ⟨p12_, _⟩ := hp
   obtain ⟨p11_, _⟩ := (hcl.get 12 (by decide)) p12_
   have q17_ := nz hcl 17 0 hD
   have q21_ := nz hcl 21 0 q17_
   have q23_ := nz hcl 23 0 q21_
   simp only [hD, p11_, p12_, q17_, q21_, q23_, cq] at ht hs
   subst ht
   refine s_load1 rfl rfl (v := Value.int .i64 (a2.f_right.get 0 0)) rfl rfl (fun _ => rfl) (cells_load (hs.cells 0 rfl) _ _ (part_get (i := 0) (fkI .i64).len a2.f_right 0 gd4.1 gd4.2 ((encA (encI .i64)) a2.f_left) [] (by simp [enc_S_impl_form, encI, encB, encS]) (by first | rfl | simp [encAI_len, encAB_len, encA_len]))) (g_d rfl ?_)
   try dsimp only [set0,setS]
   refine hk _ _ ⟨O, ?_, hs.cast ?_⟩ <;> simp only [lq, cq, Nat.reduceBEq, p11_, p12_, q17_, q21_, q23_]
  ·
   rintro D t w hD hp hcl ⟨O, ht, hs⟩ rest hk
   have q15_ := nz hcl 15 0 hD
   have q16_ := nz hcl 16 0 q15_
   have q17_ := nz hcl 17 1 q16_
   have q21_ := nz hcl 21 0 q17_
   have q23_ := nz hcl 23 0 q21_
   simp only [hD, q15_, q16_, q17_, q21_, q23_, cq] at ht hs
   subst ht
   refine g_op (v := Value.pointer (some ⟨b19, 4, none⟩)) rfl rfl rfl (g_d rfl ?_)
   try dsimp only [set0,setS]
   refine hk _ _ ⟨O, ?_, hs.cast ?_⟩ <;> simp only [lq, cq, Nat.reduceBEq, q15_, q16_, q17_, q21_, q23_]
  ·
   rintro D t w hD hp hcl ⟨O, ht, hs⟩ rest hk
   obtain ⟨p14_, _⟩ := hp
   have q16_ := nz hcl 16 0 hD
   have q17_ := nz hcl 17 1 q16_
   have q21_ := nz hcl 21 0 q17_
   have q23_ := nz hcl 23 0 q21_
   simp only [hD, p14_, q16_, q17_, q21_, q23_, cq] at ht hs
   subst ht
   refine s_idxA (n := 1) (m := 1) rfl (fun _ => rfl) gd5.1 gd5.2 rfl rfl rfl rfl rfl (g_d rfl ?_)
   try dsimp only [set0,setS]
   refine hk _ _ ⟨O, ?_, hs.cast ?_⟩ <;> simp only [lq, cq, Nat.reduceBEq, p14_, q16_, q17_, q21_, q23_]
  ·
   rintro D t w hD hp hcl ⟨O, ht, hs⟩ rest hk
   obtain ⟨p15_, _⟩ := hp
   obtain ⟨p14_, _⟩ := (hcl.get 15 (by decide)) p15_
   have q17_ := nz hcl 17 1 hD
   have q21_ := nz hcl 21 0 q17_
   have q23_ := nz hcl 23 0 q21_
   simp only [hD, p14_, p15_, q17_, q21_, q23_, cq] at ht hs
   subst ht
   refine s_load1 rfl rfl (v := Value.int .i64 (a2.f_right.get 1 0)) rfl rfl (fun _ => rfl) (cells_load (hs.cells 0 rfl) _ _ (part_get (i := 1) (fkI .i64).len a2.f_right 0 gd5.1 gd5.2 ((encA (encI .i64)) a2.f_left) [] (by simp [enc_S_impl_form, encI, encB, encS]) (by first | rfl | simp [encAI_len, encAB_len, encA_len]))) (g_d rfl ?_)
   try dsimp only [set0,setS]
   refine hk _ _ ⟨O, ?_, hs.cast ?_⟩ <;> simp only [lq, cq, Nat.reduceBEq, p14_, p15_, q17_, q21_, q23_]
  ·
   rintro D t w hD hp hcl ⟨O, ht, hs⟩ rest hk
   obtain ⟨p13_, p16_, _⟩ := hp
   obtain ⟨p15_, _⟩ := (hcl.get 16 (by decide)) p16_
   obtain ⟨p14_, _⟩ := (hcl.get 15 (by decide)) p15_
   obtain ⟨p12_, _⟩ := (hcl.get 13 (by decide)) p13_
   obtain ⟨p11_, _⟩ := (hcl.get 12 (by decide)) p12_
   have q21_ := nz hcl 21 0 hD
   have q23_ := nz hcl 23 0 q21_
   simp only [hD, p11_, p12_, p13_, p14_, p15_, p16_, q21_, q23_, cq] at ht hs
   subst ht
   refine g_op (v := Value.int .i64 (i64w ((a2.f_right.get 0 0) + (a2.f_right.get 1 0)))) rfl rfl rfl (g_d rfl ?_)
   try dsimp only [set0,setS]
   refine hk _ _ ⟨O, ?_, hs.cast ?_⟩ <;> simp only [lq, cq, Nat.reduceBEq, p11_, p12_, p13_, p14_, p15_, p16_, q21_, q23_]
  ·
   rintro D t w hD hp hcl ⟨O, ht, hs⟩ rest hk
   have q19_ := nz hcl 19 0 hD
   have q20_ := nz hcl 20 0 q19_
   have q21_ := nz hcl 21 1 q20_
   have q23_ := nz hcl 23 0 q21_
   simp only [hD, q19_, q20_, q21_, q23_, cq] at ht hs
   subst ht
   refine g_op (v := Value.pointer (some ⟨b19, 4, none⟩)) rfl rfl rfl (g_d rfl ?_)
   try dsimp only [set0,setS]
   refine hk _ _ ⟨O, ?_, hs.cast ?_⟩ <;> simp only [lq, cq, Nat.reduceBEq, q19_, q20_, q21_, q23_]
  ·
   rintro D t w hD hp hcl ⟨O, ht, hs⟩ rest hk
   obtain ⟨p18_, _⟩ := hp
   have q20_ := nz hcl 20 0 hD
   have q21_ := nz hcl 21 1 q20_
   have q23_ := nz hcl 23 0 q21_
   simp only [hD, p18_, q20_, q21_, q23_, cq] at ht hs
   subst ht
   refine s_idxA (n := 2) (m := 1) rfl (fun _ => rfl) gd6.1 gd6.2 rfl rfl rfl rfl rfl (g_d rfl ?_)
   try dsimp only [set0,setS]
   refine hk _ _ ⟨O, ?_, hs.cast ?_⟩ <;> simp only [lq, cq, Nat.reduceBEq, p18_, q20_, q21_, q23_]
  ·
   rintro D t w hD hp hcl ⟨O, ht, hs⟩ rest hk
   obtain ⟨p19_, _⟩ := hp
   obtain ⟨p18_, _⟩ := (hcl.get 19 (by decide)) p19_
   have q21_ := nz hcl 21 1 hD
   have q23_ := nz hcl 23 0 q21_
   simp only [hD, p18_, p19_, q21_, q23_, cq] at ht hs
   subst ht
   refine s_load1 rfl rfl (v := Value.int .i64 (a2.f_right.get 2 0)) rfl rfl (fun _ => rfl) (cells_load (hs.cells 0 rfl) _ _ (part_get (i := 2) (fkI .i64).len a2.f_right 0 gd6.1 gd6.2 ((encA (encI .i64)) a2.f_left) [] (by simp [enc_S_impl_form, encI, encB, encS]) (by first | rfl | simp [encAI_len, encAB_len, encA_len]))) (g_d rfl ?_)
   try dsimp only [set0,setS]
   refine hk _ _ ⟨O, ?_, hs.cast ?_⟩ <;> simp only [lq, cq, Nat.reduceBEq, p18_, p19_, q21_, q23_]
  ·
   rintro D t w hD hp hcl ⟨O, ht, hs⟩ rest hk
   obtain ⟨p17_, p20_, _⟩ := hp
   obtain ⟨p19_, _⟩ := (hcl.get 20 (by decide)) p20_
   obtain ⟨p18_, _⟩ := (hcl.get 19 (by decide)) p19_
   obtain ⟨p13_, p16_, _⟩ := (hcl.get 17 (by decide)) p17_
   obtain ⟨p15_, _⟩ := (hcl.get 16 (by decide)) p16_
   obtain ⟨p14_, _⟩ := (hcl.get 15 (by decide)) p15_
   obtain ⟨p12_, _⟩ := (hcl.get 13 (by decide)) p13_
   obtain ⟨p11_, _⟩ := (hcl.get 12 (by decide)) p12_
   have q23_ := nz hcl 23 0 hD
   simp only [hD, p11_, p12_, p13_, p14_, p15_, p16_, p17_, p18_, p19_, p20_, q23_, cq] at ht hs
   subst ht
   refine g_op (v := Value.int .i64 (i64w ((i64w ((a2.f_right.get 0 0) + (a2.f_right.get 1 0))) + (a2.f_right.get 2 0)))) rfl rfl rfl (g_d rfl ?_)
   try dsimp only [set0,setS]
   refine hk _ _ ⟨O, ?_, hs.cast ?_⟩ <;> simp only [lq, cq, Nat.reduceBEq, p11_, p12_, p13_, p14_, p15_, p16_, p17_, p18_, p19_, p20_, q23_]
  ·
   rintro D t w hD hp hcl ⟨O, ht, hs⟩ rest hk
   obtain ⟨p10_, p0_, p1_, p2_, p3_, p4_, p5_, p6_, p7_, p8_, p9_, _, _⟩ := hp
   have q23_ := nz hcl 23 1 hD
   simp only [hD, p0_, p1_, p2_, p3_, p4_, p5_, p6_, p7_, p8_, p9_, p10_, q23_, cq] at ht hs
   subst ht
   refine g_op (v := Value.int .i64 (i64w ((i64w ((a2.f_left.get 0 0) + (a2.f_left.get 1 0))) + (a2.f_left.get 2 0)))) rfl rfl rfl (g_d rfl ?_)
   try dsimp only [set0,setS]
   refine hk _ _ ⟨O, ?_, hs.cast ?_⟩ <;> simp only [lq, cq, Nat.reduceBEq, p0_, p1_, p2_, p3_, p4_, p5_, p6_, p7_, p8_, p9_, p10_, q23_]
  ·
   rintro D t w hD hp hcl ⟨O, ht, hs⟩ rest hk
   obtain ⟨p21_, p22_, p0_, p1_, p2_, p3_, p4_, p5_, p6_, p7_, p8_, p9_, p10_, p11_, p12_, p13_, p14_, p15_, p16_, p17_, p18_, p19_, p20_, _, _, _⟩ := hp
   simp only [hD, p0_, p1_, p2_, p3_, p4_, p5_, p6_, p7_, p8_, p9_, p10_, p11_, p12_, p13_, p14_, p15_, p16_, p17_, p18_, p19_, p20_, p21_, p22_, cq] at ht hs
   subst ht
   refine g_op (v := Value.int .i64 (i64w ((i64w ((a2.f_right.get 0 0) + (a2.f_right.get 1 0))) + (a2.f_right.get 2 0)))) rfl rfl rfl (g_d rfl ?_)
   try dsimp only [set0,setS]
   refine hk _ _ ⟨O, ?_, hs.cast ?_⟩ <;> simp only [lq, cq, Nat.reduceBEq, p0_, p1_, p2_, p3_, p4_, p5_, p6_, p7_, p8_, p9_, p10_, p11_, p12_, p13_, p14_, p15_, p16_, p17_, p18_, p19_, p20_, p21_, p22_]
  intro D t w hall hI
  obtain ⟨O, ht, hs⟩ := hI
  have p0_ := hall 0 (by decide)
  have p1_ := hall 1 (by decide)
  have p2_ := hall 2 (by decide)
  have p3_ := hall 3 (by decide)
  have p4_ := hall 4 (by decide)
  have p5_ := hall 5 (by decide)
  have p6_ := hall 6 (by decide)
  have p7_ := hall 7 (by decide)
  have p8_ := hall 8 (by decide)
  have p9_ := hall 9 (by decide)
  have p10_ := hall 10 (by decide)
  have p11_ := hall 11 (by decide)
  have p12_ := hall 12 (by decide)
  have p13_ := hall 13 (by decide)
  have p14_ := hall 14 (by decide)
  have p15_ := hall 15 (by decide)
  have p16_ := hall 16 (by decide)
  have p17_ := hall 17 (by decide)
  have p18_ := hall 18 (by decide)
  have p19_ := hall 19 (by decide)
  have p20_ := hall 20 (by decide)
  have p21_ := hall 21 (by decide)
  have p22_ := hall 22 (by decide)
  have p23_ := hall 23 (by decide)
  simp only [p0_, p1_, p2_, p3_, p4_, p5_, p6_, p7_, p8_, p9_, p10_, p11_, p12_, p13_, p14_, p15_, p16_, p17_, p18_, p19_, p20_, p21_, p22_, p23_, cq] at ht hs
  subst ht
  refine g_seq (g_rg [0, 1, 2, 3, 4, 5, 6, 7, 8, 9, 10, 11, 12, 13] rfl ?_)
  refine g_op (v := Value.int .i64 (i64w ((i64w ((a2.f_right.get 0 0) + (a2.f_right.get 1 0))) + (a2.f_right.get 2 0)))) rfl rfl rfl (g_d rfl ?_)
  refine g_op (v := Value.int .i64 (i64w ((i64w ((a2.f_left.get 0 0) + (a2.f_left.get 1 0))) + (a2.f_left.get 2 0)))) rfl rfl rfl (g_d rfl ?_)
  refine g_op (v := Value.int .i64 (i64w ((i64w ((i64w ((a2.f_right.get 0 0) + (a2.f_right.get 1 0))) + (a2.f_right.get 2 0))) - (i64w ((i64w ((a2.f_left.get 0 0) + (a2.f_left.get 1 0))) + (a2.f_left.get 2 0)))))) rfl rfl rfl (g_d rfl ?_)
  refine g_op (v := Value.int .i64 (mxI (i64w ((i64w ((i64w ((a2.f_right.get 0 0) + (a2.f_right.get 1 0))) + (a2.f_right.get 2 0))) - (i64w ((i64w ((a2.f_left.get 0 0) + (a2.f_left.get 1 0))) + (a2.f_left.get 2 0))))) 0)) rfl rfl (x_max rfl rfl rfl) (g_d rfl ?_)
  try dsimp only [set0,setS]
  refine g_op (v := Value.int .i64 (i64w ((i64w ((a2.f_left.get 0 0) + (a2.f_left.get 1 0))) + (a2.f_left.get 2 0)))) rfl rfl rfl (g_d rfl ?_)
  refine g_op (v := Value.int .i64 (i64w ((i64w ((a2.f_right.get 0 0) + (a2.f_right.get 1 0))) + (a2.f_right.get 2 0)))) rfl rfl rfl (g_d rfl ?_)
  refine g_op (v := Value.int .i64 (i64w ((i64w ((i64w ((a2.f_left.get 0 0) + (a2.f_left.get 1 0))) + (a2.f_left.get 2 0))) - (i64w ((i64w ((a2.f_right.get 0 0) + (a2.f_right.get 1 0))) + (a2.f_right.get 2 0)))))) rfl rfl rfl (g_d rfl ?_)
  refine g_op (v := Value.int .i64 (mxI (i64w ((i64w ((i64w ((a2.f_left.get 0 0) + (a2.f_left.get 1 0))) + (a2.f_left.get 2 0))) - (i64w ((i64w ((a2.f_right.get 0 0) + (a2.f_right.get 1 0))) + (a2.f_right.get 2 0))))) 0)) rfl rfl (x_max rfl rfl rfl) (g_d rfl ?_)
  try dsimp only [set0,setS]
  refine g_op (v := Value.pointer (some ⟨b19, 0, none⟩)) rfl rfl rfl (g_d rfl ?_)
  obtain ⟨g7, H⟩ := ite_get H
  refine s_idxA (n := 3) (m := 1) rfl (fun _ => rfl) g7.1 g7.2 rfl rfl rfl rfl rfl (g_d rfl ?_)
  refine s_storeP (y := mxI (i64w ((i64w ((i64w ((a2.f_right.get 0 0) + (a2.f_right.get 1 0))) + (a2.f_right.get 2 0))) - (i64w ((i64w ((a2.f_left.get 0 0) + (a2.f_left.get 1 0))) + (a2.f_left.get 2 0))))) 0) (a := a2.f_left) (fkI .i64).len (fkI .i64).one g7.1 g7.2 [] ((encA (encI .i64)) a2.f_right) (by simp [enc_S_impl_form, encI, encB, encS]) (by first | rfl | simp [encAI_len, encAB_len, encA_len]) hs rfl rfl (cs' := (enc_S_impl_form (⟨a2.f_left.set 3 (mxI (i64w ((i64w ((i64w ((a2.f_right.get 0 0) + (a2.f_right.get 1 0))) + (a2.f_right.get 2 0))) - (i64w ((i64w ((a2.f_left.get 0 0) + (a2.f_left.get 1 0))) + (a2.f_left.get 2 0))))) 0), a2.f_right⟩ : S_impl_form))) (by simp [enc_S_impl_form, encI, encB, encS]) rfl rfl rfl (fun _ => rfl) ?_
  intro w hs
  refine g_n rfl ?_
  refine g_op (v := Value.pointer (some ⟨b19, 4, none⟩)) rfl rfl rfl (g_d rfl ?_)
  obtain ⟨g8, H⟩ := ite_get H
  refine s_idxA (n := 3) (m := 1) rfl (fun _ => rfl) g8.1 g8.2 rfl rfl rfl rfl rfl (g_d rfl ?_)
  try dsimp only [set0,setS]
  refine s_storeP (y := mxI (i64w ((i64w ((i64w ((a2.f_left.get 0 0) + (a2.f_left.get 1 0))) + (a2.f_left.get 2 0))) - (i64w ((i64w ((a2.f_right.get 0 0) + (a2.f_right.get 1 0))) + (a2.f_right.get 2 0))))) 0) (a := ((⟨a2.f_left.set 3 (mxI (i64w ((i64w ((i64w ((a2.f_right.get 0 0) + (a2.f_right.get 1 0))) + (a2.f_right.get 2 0))) - (i64w ((i64w ((a2.f_left.get 0 0) + (a2.f_left.get 1 0))) + (a2.f_left.get 2 0))))) 0), a2.f_right⟩ : S_impl_form).f_right)) (fkI .i64).len (fkI .i64).one g8.1 g8.2 ((encA (encI .i64)) ((⟨a2.f_left.set 3 (mxI (i64w ((i64w ((i64w ((a2.f_right.get 0 0) + (a2.f_right.get 1 0))) + (a2.f_right.get 2 0))) - (i64w ((i64w ((a2.f_left.get 0 0) + (a2.f_left.get 1 0))) + (a2.f_left.get 2 0))))) 0), a2.f_right⟩ : S_impl_form).f_left)) [] (by simp [enc_S_impl_form, encI, encB, encS]) (by first | rfl | simp [encAI_len, encAB_len, encA_len]) hs rfl rfl (cs' := (enc_S_impl_form (⟨(⟨a2.f_left.set 3 (mxI (i64w ((i64w ((i64w ((a2.f_right.get 0 0) + (a2.f_right.get 1 0))) + (a2.f_right.get 2 0))) - (i64w ((i64w ((a2.f_left.get 0 0) + (a2.f_left.get 1 0))) + (a2.f_left.get 2 0))))) 0), a2.f_right⟩ : S_impl_form).f_left, ((⟨a2.f_left.set 3 (mxI (i64w ((i64w ((i64w ((a2.f_right.get 0 0) + (a2.f_right.get 1 0))) + (a2.f_right.get 2 0))) - (i64w ((i64w ((a2.f_left.get 0 0) + (a2.f_left.get 1 0))) + (a2.f_left.get 2 0))))) 0), a2.f_right⟩ : S_impl_form).f_right).set 3 (mxI (i64w ((i64w ((i64w ((a2.f_left.get 0 0) + (a2.f_left.get 1 0))) + (a2.f_left.get 2 0))) - (i64w ((i64w ((a2.f_right.get 0 0) + (a2.f_right.get 1 0))) + (a2.f_right.get 2 0))))) 0)⟩ : S_impl_form))) (by simp [enc_S_impl_form, encI, encB, encS]) rfl rfl rfl (fun _ => rfl) ?_
  intro w hs
  refine g_n rfl (g_ops_nil (g_seq (g_seq (g_rg [0, 1, 2, 3, 4, 5, 6, 7, 8, 9, 10, 11, 12, 13, 14, 15, 16] rfl ?_))))
  refine g_op (v := Value.int .i64 (i64w ((i64w ((a2.f_left.get 0 0) + (a2.f_left.get 1 0))) + (a2.f_left.get 2 0)))) rfl rfl rfl (g_d rfl ?_)
  refine g_op (v := Value.int .i64 (i64w ((i64w ((a2.f_right.get 0 0) + (a2.f_right.get 1 0))) + (a2.f_right.get 2 0)))) rfl rfl rfl (g_d rfl ?_)
  refine g_op (v := Value.int .i64 (mxI (i64w ((i64w ((a2.f_left.get 0 0) + (a2.f_left.get 1 0))) + (a2.f_left.get 2 0))) (i64w ((i64w ((a2.f_right.get 0 0) + (a2.f_right.get 1 0))) + (a2.f_right.get 2 0))))) rfl rfl (x_max rfl rfl rfl) (g_d rfl ?_)
  refine g_op_b (B := (mxI (i64w ((i64w ((a2.f_left.get 0 0) + (a2.f_left.get 1 0))) + (a2.f_left.get 2 0))) (i64w ((i64w ((a2.f_right.get 0 0) + (a2.f_right.get 1 0))) + (a2.f_right.get 2 0)))) == 0) rfl rfl rfl ?_ ?_
  ·
   intro hb
   rw [if_pos (b_beq_t hb)] at H
   refine g_d rfl ?_
   refine g_op (v := Value.bool true) rfl rfl rfl (g_d rfl (g_op_not rfl rfl (g_d rfl (g_op_not rfl rfl (g_d rfl ?_)))))
   try dsimp only [set0,setS]
   refine g_op_not rfl rfl (g_d rfl (g_op_not rfl rfl (g_d rfl (g_op_not rfl rfl (g_d rfl ?_)))))
   try dsimp only [set0,setS]
   refine g_op_not rfl rfl (g_d rfl (g_op_not rfl rfl (g_d rfl ?_)))
   try dsimp only [set0,setS]
   refine g_op_not rfl rfl (g_d rfl (g_op_not rfl rfl (g_d rfl (g_op_not rfl rfl (g_d rfl ?_)))))
   try dsimp only [set0,setS]
   refine g_op_not rfl rfl (g_d rfl ?_)
   refine g_op (v := Value.bool true) rfl rfl rfl (g_d rfl ?_)
   try dsimp only [set0,setS]
   refine g_ops_nil (g_cond_true rfl (g_seq (g_rg [0] rfl ?_)))
   refine g_op (v := Value.bool true) rfl rfl rfl (g_d rfl (g_ops_nil ?_))
   obtain rfl := Option.some.inj H
   refine g_ret Try.func78 (v := Value.bool true) (res1 rfl rfl) ?_
   have hs := hs.pull 7 rfl
   have hs := hs.pull 7 rfl
   have hs := hs.pull 7 rfl
   have hs := hs.pull 7 rfl
   have hs := hs.pull 7 rfl
   have hs := hs.pull 7 rfl
   have hs : St _ [_,_,_,_,_,_] _ := St.take (Γ' := [_,_]) hs
   exact ⟨_, rfl, rfl, hs⟩
  intro hb
  rw [if_neg (b_beq_f hb)] at H
  refine g_d rfl ?_
  try dsimp only [set0,setS]
  refine g_op (v := Value.bool false) rfl rfl rfl (g_d rfl ?_)
  refine g_op (v := Value.pointer (some ⟨b19, 0, none⟩)) rfl rfl rfl (g_d rfl ?_)
  obtain ⟨g9, H⟩ := ite_get H
  refine s_idxA (n := 3) (m := 1) rfl (fun _ => rfl) g9.1 g9.2 rfl rfl rfl rfl rfl (g_d rfl ?_)
  refine s_load1 rfl rfl (v := Value.int .i64 (((⟨(⟨a2.f_left.set 3 (mxI (i64w ((i64w ((i64w ((a2.f_right.get 0 0) + (a2.f_right.get 1 0))) + (a2.f_right.get 2 0))) - (i64w ((i64w ((a2.f_left.get 0 0) + (a2.f_left.get 1 0))) + (a2.f_left.get 2 0))))) 0), a2.f_right⟩ : S_impl_form).f_left, ((⟨a2.f_left.set 3 (mxI (i64w ((i64w ((i64w ((a2.f_right.get 0 0) + (a2.f_right.get 1 0))) + (a2.f_right.get 2 0))) - (i64w ((i64w ((a2.f_left.get 0 0) + (a2.f_left.get 1 0))) + (a2.f_left.get 2 0))))) 0), a2.f_right⟩ : S_impl_form).f_right).set 3 (mxI (i64w ((i64w ((i64w ((a2.f_left.get 0 0) + (a2.f_left.get 1 0))) + (a2.f_left.get 2 0))) - (i64w ((i64w ((a2.f_right.get 0 0) + (a2.f_right.get 1 0))) + (a2.f_right.get 2 0))))) 0)⟩ : S_impl_form).f_left).get 3 0)) rfl rfl (fun _ => rfl) (cells_load (hs.cells 0 rfl) _ _ (part_get (i := 3) (fkI .i64).len ((⟨(⟨a2.f_left.set 3 (mxI (i64w ((i64w ((i64w ((a2.f_right.get 0 0) + (a2.f_right.get 1 0))) + (a2.f_right.get 2 0))) - (i64w ((i64w ((a2.f_left.get 0 0) + (a2.f_left.get 1 0))) + (a2.f_left.get 2 0))))) 0), a2.f_right⟩ : S_impl_form).f_left, ((⟨a2.f_left.set 3 (mxI (i64w ((i64w ((i64w ((a2.f_right.get 0 0) + (a2.f_right.get 1 0))) + (a2.f_right.get 2 0))) - (i64w ((i64w ((a2.f_left.get 0 0) + (a2.f_left.get 1 0))) + (a2.f_left.get 2 0))))) 0), a2.f_right⟩ : S_impl_form).f_right).set 3 (mxI (i64w ((i64w ((i64w ((a2.f_left.get 0 0) + (a2.f_left.get 1 0))) + (a2.f_left.get 2 0))) - (i64w ((i64w ((a2.f_right.get 0 0) + (a2.f_right.get 1 0))) + (a2.f_right.get 2 0))))) 0)⟩ : S_impl_form).f_left) 0 g9.1 g9.2 [] ((encA (encI .i64)) ((⟨(⟨a2.f_left.set 3 (mxI (i64w ((i64w ((i64w ((a2.f_right.get 0 0) + (a2.f_right.get 1 0))) + (a2.f_right.get 2 0))) - (i64w ((i64w ((a2.f_left.get 0 0) + (a2.f_left.get 1 0))) + (a2.f_left.get 2 0))))) 0), a2.f_right⟩ : S_impl_form).f_left, ((⟨a2.f_left.set 3 (mxI (i64w ((i64w ((i64w ((a2.f_right.get 0 0) + (a2.f_right.get 1 0))) + (a2.f_right.get 2 0))) - (i64w ((i64w ((a2.f_left.get 0 0) + (a2.f_left.get 1 0))) + (a2.f_left.get 2 0))))) 0), a2.f_right⟩ : S_impl_form).f_right).set 3 (mxI (i64w ((i64w ((i64w ((a2.f_left.get 0 0) + (a2.f_left.get 1 0))) + (a2.f_left.get 2 0))) - (i64w ((i64w ((a2.f_right.get 0 0) + (a2.f_right.get 1 0))) + (a2.f_right.get 2 0))))) 0)⟩ : S_impl_form).f_right)) (by simp [enc_S_impl_form, encI, encB, encS]) (by first | rfl | simp [encAI_len, encAB_len, encA_len]))) ?_
  refine g_d rfl ?_
  try dsimp only [set0,setS]
  refine g_op (v := Value.pointer (some ⟨b19, 4, none⟩)) rfl rfl rfl (g_d rfl ?_)
  obtain ⟨g10, H⟩ := ite_get H
  refine s_idxA (n := 3) (m := 1) rfl (fun _ => rfl) g10.1 g10.2 rfl rfl rfl rfl rfl (g_d rfl ?_)
  refine s_load1 rfl rfl (v := Value.int .i64 (((⟨(⟨a2.f_left.set 3 (mxI (i64w ((i64w ((i64w ((a2.f_right.get 0 0) + (a2.f_right.get 1 0))) + (a2.f_right.get 2 0))) - (i64w ((i64w ((a2.f_left.get 0 0) + (a2.f_left.get 1 0))) + (a2.f_left.get 2 0))))) 0), a2.f_right⟩ : S_impl_form).f_left, ((⟨a2.f_left.set 3 (mxI (i64w ((i64w ((i64w ((a2.f_right.get 0 0) + (a2.f_right.get 1 0))) + (a2.f_right.get 2 0))) - (i64w ((i64w ((a2.f_left.get 0 0) + (a2.f_left.get 1 0))) + (a2.f_left.get 2 0))))) 0), a2.f_right⟩ : S_impl_form).f_right).set 3 (mxI (i64w ((i64w ((i64w ((a2.f_left.get 0 0) + (a2.f_left.get 1 0))) + (a2.f_left.get 2 0))) - (i64w ((i64w ((a2.f_right.get 0 0) + (a2.f_right.get 1 0))) + (a2.f_right.get 2 0))))) 0)⟩ : S_impl_form).f_right).get 3 0)) rfl rfl (fun _ => rfl) (cells_load (hs.cells 0 rfl) _ _ (part_get (i := 3) (fkI .i64).len ((⟨(⟨a2.f_left.set 3 (mxI (i64w ((i64w ((i64w ((a2.f_right.get 0 0) + (a2.f_right.get 1 0))) + (a2.f_right.get 2 0))) - (i64w ((i64w ((a2.f_left.get 0 0) + (a2.f_left.get 1 0))) + (a2.f_left.get 2 0))))) 0), a2.f_right⟩ : S_impl_form).f_left, ((⟨a2.f_left.set 3 (mxI (i64w ((i64w ((i64w ((a2.f_right.get 0 0) + (a2.f_right.get 1 0))) + (a2.f_right.get 2 0))) - (i64w ((i64w ((a2.f_left.get 0 0) + (a2.f_left.get 1 0))) + (a2.f_left.get 2 0))))) 0), a2.f_right⟩ : S_impl_form).f_right).set 3 (mxI (i64w ((i64w ((i64w ((a2.f_left.get 0 0) + (a2.f_left.get 1 0))) + (a2.f_left.get 2 0))) - (i64w ((i64w ((a2.f_right.get 0 0) + (a2.f_right.get 1 0))) + (a2.f_right.get 2 0))))) 0)⟩ : S_impl_form).f_right) 0 g10.1 g10.2 ((encA (encI .i64)) ((⟨(⟨a2.f_left.set 3 (mxI (i64w ((i64w ((i64w ((a2.f_right.get 0 0) + (a2.f_right.get 1 0))) + (a2.f_right.get 2 0))) - (i64w ((i64w ((a2.f_left.get 0 0) + (a2.f_left.get 1 0))) + (a2.f_left.get 2 0))))) 0), a2.f_right⟩ : S_impl_form).f_left, ((⟨a2.f_left.set 3 (mxI (i64w ((i64w ((i64w ((a2.f_right.get 0 0) + (a2.f_right.get 1 0))) + (a2.f_right.get 2 0))) - (i64w ((i64w ((a2.f_left.get 0 0) + (a2.f_left.get 1 0))) + (a2.f_left.get 2 0))))) 0), a2.f_right⟩ : S_impl_form).f_right).set 3 (mxI (i64w ((i64w ((i64w ((a2.f_left.get 0 0) + (a2.f_left.get 1 0))) + (a2.f_left.get 2 0))) - (i64w ((i64w ((a2.f_right.get 0 0) + (a2.f_right.get 1 0))) + (a2.f_right.get 2 0))))) 0)⟩ : S_impl_form).f_left)) [] (by simp [enc_S_impl_form, encI, encB, encS]) (by first | rfl | simp [encAI_len, encAB_len, encA_len]))) ?_
  refine g_d rfl ?_
  try dsimp only [set0,setS]
  refine g_op (v := Value.int .i64 (i64w ((((⟨(⟨a2.f_left.set 3 (mxI (i64w ((i64w ((i64w ((a2.f_right.get 0 0) + (a2.f_right.get 1 0))) + (a2.f_right.get 2 0))) - (i64w ((i64w ((a2.f_left.get 0 0) + (a2.f_left.get 1 0))) + (a2.f_left.get 2 0))))) 0), a2.f_right⟩ : S_impl_form).f_left, ((⟨a2.f_left.set 3 (mxI (i64w ((i64w ((i64w ((a2.f_right.get 0 0) + (a2.f_right.get 1 0))) + (a2.f_right.get 2 0))) - (i64w ((i64w ((a2.f_left.get 0 0) + (a2.f_left.get 1 0))) + (a2.f_left.get 2 0))))) 0), a2.f_right⟩ : S_impl_form).f_right).set 3 (mxI (i64w ((i64w ((i64w ((a2.f_left.get 0 0) + (a2.f_left.get 1 0))) + (a2.f_left.get 2 0))) - (i64w ((i64w ((a2.f_right.get 0 0) + (a2.f_right.get 1 0))) + (a2.f_right.get 2 0))))) 0)⟩ : S_impl_form).f_left).get 3 0) + (((⟨(⟨a2.f_left.set 3 (mxI (i64w ((i64w ((i64w ((a2.f_right.get 0 0) + (a2.f_right.get 1 0))) + (a2.f_right.get 2 0))) - (i64w ((i64w ((a2.f_left.get 0 0) + (a2.f_left.get 1 0))) + (a2.f_left.get 2 0))))) 0), a2.f_right⟩ : S_impl_form).f_left, ((⟨a2.f_left.set 3 (mxI (i64w ((i64w ((i64w ((a2.f_right.get 0 0) + (a2.f_right.get 1 0))) + (a2.f_right.get 2 0))) - (i64w ((i64w ((a2.f_left.get 0 0) + (a2.f_left.get 1 0))) + (a2.f_left.get 2 0))))) 0), a2.f_right⟩ : S_impl_form).f_right).set 3 (mxI (i64w ((i64w ((i64w ((a2.f_left.get 0 0) + (a2.f_left.get 1 0))) + (a2.f_left.get 2 0))) - (i64w ((i64w ((a2.f_right.get 0 0) + (a2.f_right.get 1 0))) + (a2.f_right.get 2 0))))) 0)⟩ : S_impl_form).f_right).get 3 0)))) rfl rfl rfl ?_
  refine g_d rfl ?_
  refine g_op (v := Value.pointer (some ⟨b17, 0, none⟩)) rfl rfl rfl (g_d rfl ?_)
  obtain ⟨g11, H⟩ := ite_get H
  refine s_idxA (n := 3) (m := 1) rfl (fun _ => rfl) g11.1 g11.2 rfl rfl rfl rfl rfl (g_d rfl ?_)
  try dsimp only [set0,setS]
  refine s_load1 rfl rfl (v := Value.int .i64 (a1.f_many.get 3 0)) rfl rfl (fun _ => rfl) (cells_load (hs.cells 1 rfl) _ _ (part_get (i := 3) (fkI .i64).len a1.f_many 0 g11.1 g11.2 [] (encB a1.f_none) (by simp [enc_S_impl_knowledge, encI, encB, encS]) (by first | rfl | simp [encAI_len, encAB_len, encA_len]))) (g_d rfl ?_)
  refine g_op_b (B := decide ((i64w ((((⟨(⟨a2.f_left.set 3 (mxI (i64w ((i64w ((i64w ((a2.f_right.get 0 0) + (a2.f_right.get 1 0))) + (a2.f_right.get 2 0))) - (i64w ((i64w ((a2.f_left.get 0 0) + (a2.f_left.get 1 0))) + (a2.f_left.get 2 0))))) 0), a2.f_right⟩ : S_impl_form).f_left, ((⟨a2.f_left.set 3 (mxI (i64w ((i64w ((i64w ((a2.f_right.get 0 0) + (a2.f_right.get 1 0))) + (a2.f_right.get 2 0))) - (i64w ((i64w ((a2.f_left.get 0 0) + (a2.f_left.get 1 0))) + (a2.f_left.get 2 0))))) 0), a2.f_right⟩ : S_impl_form).f_right).set 3 (mxI (i64w ((i64w ((i64w ((a2.f_left.get 0 0) + (a2.f_left.get 1 0))) + (a2.f_left.get 2 0))) - (i64w ((i64w ((a2.f_right.get 0 0) + (a2.f_right.get 1 0))) + (a2.f_right.get 2 0))))) 0)⟩ : S_impl_form).f_left).get 3 0) + (((⟨(⟨a2.f_left.set 3 (mxI (i64w ((i64w ((i64w ((a2.f_right.get 0 0) + (a2.f_right.get 1 0))) + (a2.f_right.get 2 0))) - (i64w ((i64w ((a2.f_left.get 0 0) + (a2.f_left.get 1 0))) + (a2.f_left.get 2 0))))) 0), a2.f_right⟩ : S_impl_form).f_left, ((⟨a2.f_left.set 3 (mxI (i64w ((i64w ((i64w ((a2.f_right.get 0 0) + (a2.f_right.get 1 0))) + (a2.f_right.get 2 0))) - (i64w ((i64w ((a2.f_left.get 0 0) + (a2.f_left.get 1 0))) + (a2.f_left.get 2 0))))) 0), a2.f_right⟩ : S_impl_form).f_right).set 3 (mxI (i64w ((i64w ((i64w ((a2.f_left.get 0 0) + (a2.f_left.get 1 0))) + (a2.f_left.get 2 0))) - (i64w ((i64w ((a2.f_right.get 0 0) + (a2.f_right.get 1 0))) + (a2.f_right.get 2 0))))) 0)⟩ : S_impl_form).f_right).get 3 0))) > (a1.f_many.get 3 0))) rfl rfl rfl ?_ ?_
  ·
   intro hb
   rw [if_pos (b_dec_t hb)] at H
   refine g_d rfl ?_
   try dsimp only [set0,setS]
   refine g_op (v := Value.bool true) rfl rfl rfl (g_d rfl (g_ops_nil (g_cond_true rfl (g_seq (g_rg [0] rfl ?_)))))
   refine g_op (v := Value.bool true) rfl rfl rfl (g_d rfl ?_)
   try dsimp only [set0,setS]
   refine g_ops_nil ?_
   obtain rfl := Option.some.inj H
   refine g_ret Try.func78 (v := Value.bool true) (res1 rfl rfl) ?_
   have hs := hs.pull 7 rfl
   have hs := hs.pull 7 rfl
   have hs := hs.pull 7 rfl
   have hs := hs.pull 7 rfl
   have hs := hs.pull 7 rfl
   have hs := hs.pull 7 rfl
   have hs : St _ [_,_,_,_,_,_] _ := St.take (Γ' := [_,_]) hs
   exact ⟨_, rfl, rfl, hs⟩
  intro hb
  rw [if_neg (b_dec_f hb)] at H
  refine g_d rfl ?_
  try dsimp only [set0,setS]
  refine g_op (v := Value.bool false) rfl rfl rfl (g_d rfl (g_ops_nil (g_cond_false rfl (g_skip (g_seq (g_rg [0, 1, 2, 3] rfl ?_))))))
  refine g_op (v := Value.func (Fn.func 61) #[] #[Value.pointer (some ⟨b4, 0, none⟩), Value.pointer (some ⟨b9, 0, none⟩), Value.pointer (some ⟨b12, 0, none⟩), Value.pointer (some ⟨b15, 0, none⟩)]) rfl rfl rfl (g_d rfl ?_)
  refine s_loadA rfl rfl (es := (enc_S_impl_form (⟨(⟨a2.f_left.set 3 (mxI (i64w ((i64w ((i64w ((a2.f_right.get 0 0) + (a2.f_right.get 1 0))) + (a2.f_right.get 2 0))) - (i64w ((i64w ((a2.f_left.get 0 0) + (a2.f_left.get 1 0))) + (a2.f_left.get 2 0))))) 0), a2.f_right⟩ : S_impl_form).f_left, ((⟨a2.f_left.set 3 (mxI (i64w ((i64w ((i64w ((a2.f_right.get 0 0) + (a2.f_right.get 1 0))) + (a2.f_right.get 2 0))) - (i64w ((i64w ((a2.f_left.get 0 0) + (a2.f_left.get 1 0))) + (a2.f_left.get 2 0))))) 0), a2.f_right⟩ : S_impl_form).f_right).set 3 (mxI (i64w ((i64w ((i64w ((a2.f_left.get 0 0) + (a2.f_left.get 1 0))) + (a2.f_left.get 2 0))) - (i64w ((i64w ((a2.f_right.get 0 0) + (a2.f_right.get 1 0))) + (a2.f_right.get 2 0))))) 0)⟩ : S_impl_form))) rfl rfl (fun _ => rfl) (n := 8) (fun _ => rfl) (fk_S_impl_form.len _) (cells_all (hs.cells 0 rfl)) ?_
  refine g_d rfl ?_
  try dsimp only [set0,setS]
  obtain ⟨r21, Hr21, H⟩ := bind_get H
  have hs := hs.pull 6 rfl
  have hs := hs.pull 6 rfl
  have hs := hs.pull 6 rfl
  have hs := hs.pull 6 rfl
  have hs := hs.pull 6 rfl
  have hs : St _ [_,_,_,_,_,_,_,_] _ := hs
  have hs := hs.pack 5
  refine s_call (args := [Value.agg (enc_S_impl_form (⟨(⟨a2.f_left.set 3 (mxI (i64w ((i64w ((i64w ((a2.f_right.get 0 0) + (a2.f_right.get 1 0))) + (a2.f_right.get 2 0))) - (i64w ((i64w ((a2.f_left.get 0 0) + (a2.f_left.get 1 0))) + (a2.f_left.get 2 0))))) 0), a2.f_right⟩ : S_impl_form).f_left, ((⟨a2.f_left.set 3 (mxI (i64w ((i64w ((i64w ((a2.f_right.get 0 0) + (a2.f_right.get 1 0))) + (a2.f_right.get 2 0))) - (i64w ((i64w ((a2.f_left.get 0 0) + (a2.f_left.get 1 0))) + (a2.f_left.get 2 0))))) 0), a2.f_right⟩ : S_impl_form).f_right).set 3 (mxI (i64w ((i64w ((i64w ((a2.f_left.get 0 0) + (a2.f_left.get 1 0))) + (a2.f_left.get 2 0))) - (i64w ((i64w ((a2.f_right.get 0 0) + (a2.f_right.get 1 0))) + (a2.f_right.get 2 0))))) 0)⟩ : S_impl_form)).toArray, Value.pointer (some ⟨b4, 0, none⟩), Value.pointer (some ⟨b9, 0, none⟩), Value.pointer (some ⟨b12, 0, none⟩), Value.pointer (some ⟨b15, 0, none⟩)]) rfl rfl (x_callC rfl (callFunc_enter Try.func61 rfl rfl) rfl rfl) (_impl_finder_can_1.calls ih (a1 := (⟨(⟨a2.f_left.set 3 (mxI (i64w ((i64w ((i64w ((a2.f_right.get 0 0) + (a2.f_right.get 1 0))) + (a2.f_right.get 2 0))) - (i64w ((i64w ((a2.f_left.get 0 0) + (a2.f_left.get 1 0))) + (a2.f_left.get 2 0))))) 0), a2.f_right⟩ : S_impl_form).f_left, ((⟨a2.f_left.set 3 (mxI (i64w ((i64w ((i64w ((a2.f_right.get 0 0) + (a2.f_right.get 1 0))) + (a2.f_right.get 2 0))) - (i64w ((i64w ((a2.f_left.get 0 0) + (a2.f_left.get 1 0))) + (a2.f_left.get 2 0))))) 0), a2.f_right⟩ : S_impl_form).f_right).set 3 (mxI (i64w ((i64w ((i64w ((a2.f_left.get 0 0) + (a2.f_left.get 1 0))) + (a2.f_left.get 2 0))) - (i64w ((i64w ((a2.f_right.get 0 0) + (a2.f_right.get 1 0))) + (a2.f_right.get 2 0))))) 0)⟩ : S_impl_form)) (a2 := a3) (a7 := a8) (a10 := a11) (a13 := a14) hs Hr21) ?_
  rintro _ w ⟨rfl, hs⟩
  have hs := St.unpack (Γ := [_,_,_,_,_]) hs
  have hs : St _ [_,_,_,_,_,_,_,_] _ := hs
  refine g_d rfl ?_
  refine g_op (v := Value.bool r21.1) rfl rfl rfl (g_d rfl ?_)
  try dsimp only [set0,setS]
  refine g_ops_nil ?_
  obtain rfl := Option.some.inj H
  refine g_ret Try.func78 (v := Value.bool r21.1) (res1 rfl rfl) ?_
  have hs := hs.pull 7 rfl
  have hs := hs.pull 5 rfl
  have hs := hs.pull 5 rfl
  have hs := hs.pull 5 rfl
  have hs := hs.pull 5 rfl
  have hs := hs.pull 5 rfl
  have hs : St _ [_,_,_,_,_,_] _ := St.take (Γ' := [_,_]) hs
  exact ⟨_, rfl, rfl, hs⟩

end Go.Proofs.YtgpdpedpmhonkaaX
