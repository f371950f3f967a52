/- Contracts, printed by gen.py. -/
import Derived.Test.YtgpdpedpmhonkaaXT
import Derived.Test.YtgpdpedpmhonkaaProg
import Derived.Test.YtgpdpedpmhonkaaXRowR
import Derived.Test.YtgpdpedpmhonkaaXSq
import Derived.Test.YtgpdpedpmhonkaaXSeg
import Derived.Test.YtgpdpedpmhonkaaXKey
import Derived.Test.YtgpdpedpmhonkaaXPart
import Derived.Test.YtgpdpedpmhonkaaXC9
import Derived.Test.YtgpdpedpmhonkaaXC10
namespace Go.Proofs.YtgpdpedpmhonkaaX
open Go Go.RowKit Go.Proofs
set_option linter.unusedVariables false
set_option linter.unusedSimpArgs false
/- function 77 _impl_knowledge_forms_1_at_c3 -/
def _impl_knowledge_forms_1_at_c3.post (wb : World) (Z : As) (b3 : Nat) (b7 : Nat) (b6 : Nat) (b7 : Nat) (b11 : Nat) (b14 : Nat) (b17 : Nat) (b19 : Nat) (b21 : Nat) (r : (Bool × S_impl_knowledge × (List (S_impl_knowledgeLeft × Bool)) × (List (S_impl_knowledgeLeft × Bool)) × S_impl_knowledge × Int × Bool × Unit × Unit)) (v : Value) (w : World) : Prop := v = Value.bool r.1 ∧ St wb [Cells b3 (enc_S_impl_knowledge r.2.1) 71, MapAs b7 ek_S_impl_knowledgeLeft Value.bool r.2.2.1, Cells b6 ([Value.map (some b7)]) 67, Cells b11 (enc_S_impl_knowledge r.2.2.2.2.1) 71, Cells b14 ((encI .i64) r.2.2.2.2.2.1) 2, Cells b17 (encB r.2.2.2.2.2.2.1) 4, Cells b19 ([Value.func (Fn.func 61) #[] #[Value.pointer (some ⟨b6, 0, none⟩), Value.pointer (some ⟨b11, 0, none⟩), Value.pointer (some ⟨b14, 0, none⟩), Value.pointer (some ⟨b17, 0, none⟩)]]) 113, Cells b21 ([Value.func (Fn.func 77) #[] #[Value.pointer (some ⟨b3, 0, none⟩), Value.pointer (some ⟨b19, 0, none⟩), Value.pointer (some ⟨b21, 0, none⟩)]]) 131, Z] w
set_option maxHeartbeats 8000000 in
set_option maxRecDepth 100000 in
theorem _impl_knowledge_forms_1_at_c3.calls {N : Nat} {self : (List (S_impl_knowledgeLeft × Bool)) → S_impl_knowledge → Int → Option (Bool × (List (S_impl_knowledgeLeft × Bool)))} (ih : ∀ (a1 : (List (S_impl_knowledgeLeft × Bool))) (a4 : S_impl_knowledge) (a5 : Int) (b2 : Nat) (wb : World) (Z : As) (w0 : World) (r : (Bool × (List (S_impl_knowledgeLeft × Bool)))) (hs : St wb [MapAs b2 ek_S_impl_knowledgeLeft Value.bool a1, Z] w0), self a1 a4 a5 = some r → Calls Try.prog 32 #[Value.map (some b2), Value.agg (enc_S_impl_knowledge a4).toArray, Value.int .i64 a5] w0 fun e w => ∃ v, e = .returned v ∧ _impl_finder_can.post wb Z b2 r v w) {a1 : S_impl_form} {a2 : S_impl_knowledge} {a5 : (List (S_impl_knowledgeLeft × Bool))} {a10 : S_impl_knowledge} {a13 : Int} {a16 : Bool} {b3 : Nat} {b6 : Nat} {b7 : Nat} {b11 : Nat} {b14 : Nat} {b17 : Nat} {b19 : Nat} {b21 : Nat} {wb : World} {Z : As} {w0 : World} {r : (Bool × S_impl_knowledge × (List (S_impl_knowledgeLeft × Bool)) × (List (S_impl_knowledgeLeft × Bool)) × S_impl_knowledge × Int × Bool × Unit × Unit)} (hs : St wb [Cells b3 (enc_S_impl_knowledge a2) 71, MapAs b7 ek_S_impl_knowledgeLeft Value.bool a5, Cells b6 ([Value.map (some b7)]) 67, Cells b11 (enc_S_impl_knowledge a10) 71, Cells b14 ((encI .i64) a13) 2, Cells b17 (encB a16) 4, Cells b19 ([Value.func (Fn.func 61) #[] #[Value.pointer (some ⟨b6, 0, none⟩), Value.pointer (some ⟨b11, 0, none⟩), Value.pointer (some ⟨b14, 0, none⟩), Value.pointer (some ⟨b17, 0, none⟩)]]) 113, Cells b21 ([Value.func (Fn.func 77) #[] #[Value.pointer (some ⟨b3, 0, none⟩), Value.pointer (some ⟨b19, 0, none⟩), Value.pointer (some ⟨b21, 0, none⟩)]]) 131, Z] w0) (H : _impl_knowledge_forms_1_at_c3.f N self a1 a2 a5 a10 a13 a16 = some r) :
    Calls Try.prog 77 #[Value.int .i64 3, Value.agg (enc_S_impl_form a1).toArray, Value.pointer (some ⟨b3, 0, none⟩), Value.pointer (some ⟨b19, 0, none⟩), Value.pointer (some ⟨b21, 0, none⟩)] w0 fun e w => ∃ v, e = .returned v ∧ _impl_knowledge_forms_1_at_c3.post wb Z b3 b7 b6 b7 b11 b14 b17 b19 b21 r v w := by
  unfold _impl_knowledge_forms_1_at_c3.f at H
  refine calls_of_g (n := 45) Try.func77 rfl rfl ?_
  show G _ _ _ _ [_,_,_,_,_,_,_,_,_,_,_,_,_,_,_,_,_,_,_,_,_,_,_,_,_,_,_,_,_,_,_,_,_,_,_,_,_,_,_,_,_,_,_,_,_,_,_,_,_,_] _
  refine g_seq (g_rg [0, 1] rfl ?_)
  refine s_box hs rfl rfl (cs := (enc_S_impl_form a1)) rfl rfl ?_
  intro b23 w hs
  show G _ _ _ _ [_,_,_,_,_,_,_,_,_,_,_,_,_,_,_,_,_,_,_,_,_,_,_,_,_,_,_,_,_,_,_,_,_,_,_,_,_,_,_,_,_,_,_,_,_,_,_,_,_,_] _
  refine g_op (v := Value.bool false) rfl rfl rfl (g_ops_nil (g_seq (g_seq (g_rg [0, 1] rfl ?_))))
  refine g_op (v := Value.int .i64 3) rfl rfl rfl ?_
  refine g_op (v := Value.bool true) rfl rfl rfl (g_ops_nil (g_cond_true rfl (g_seq (g_rg [0, 1, 2, 3, 4] rfl ?_))))
  refine s_loadA rfl rfl (es := (enc_S_impl_knowledge a2)) rfl rfl (fun _ => rfl) (n := 5) (fun _ => rfl) (fk_S_impl_knowledge.len _) (cells_all (hs.cells 1 rfl)) ?_
  show G _ _ _ _ [_,_,_,_,_,_,_,_,_,_,_,_,_,_,_,_,_,_,_,_,_,_,_,_,_,_,_,_,_,_,_,_,_,_,_,_,_,_,_,_,_,_,_,_,_,_,_,_,_,_] _
  refine s_loadA rfl rfl (es := (enc_S_impl_form a1)) rfl rfl (fun _ => rfl) (n := 8) (fun _ => rfl) (fk_S_impl_form.len _) (cells_all (hs.cells 0 rfl)) ?_
  refine s_load1 rfl rfl (v := Value.func (Fn.func 61) #[] #[Value.pointer (some ⟨b6, 0, none⟩), Value.pointer (some ⟨b11, 0, none⟩), Value.pointer (some ⟨b14, 0, none⟩), Value.pointer (some ⟨b17, 0, none⟩)]) rfl rfl (fun _ => rfl) (cells_load (hs.cells 7 rfl) 0 1 rfl) ?_
  obtain ⟨r25, Hr25, H⟩ := bind_get H
  have hs := hs.pull 6 rfl
  have hs := hs.pull 6 rfl
  have hs := hs.pull 6 rfl
  have hs := hs.pull 6 rfl
  have hs := hs.pull 6 rfl
  have hs : St _ [_,_,_,_,_,_,_,_,_,_] _ := hs
  have hs := hs.pack 5
  refine s_call (args := [Value.agg (enc_S_impl_knowledge a2).toArray, Value.agg (enc_S_impl_form a1).toArray, Value.func (Fn.func 61) #[] #[Value.pointer (some ⟨b6, 0, none⟩), Value.pointer (some ⟨b11, 0, none⟩), Value.pointer (some ⟨b14, 0, none⟩), Value.pointer (some ⟨b17, 0, none⟩)]]) rfl rfl (x_call rfl (callFunc_enter Try.func78 rfl rfl) rfl) (_impl_knowledge_balanced_at__impl_finder_can_1.calls ih (a1 := a2) (a2 := a1) (a3 := a5) (a8 := a10) (a11 := a13) (a14 := a16) hs Hr25) ?_
  rintro _ w ⟨rfl, hs⟩
  have hs := St.unpack (Γ := [_,_,_,_,_]) hs
  have hs : St _ [_,_,_,_,_,_,_,_,_,_] _ := hs
  show G _ _ _ _ [_,_,_,_,_,_,_,_,_,_,_,_,_,_,_,_,_,_,_,_,_,_,_,_,_,_,_,_,_,_,_,_,_,_,_,_,_,_,_,_,_,_,_,_,_,_,_,_,_,_] _
  refine g_op (v := Value.bool r25.1) rfl rfl rfl (g_ops_nil ?_)
  obtain rfl := Option.some.inj H
  refine g_ret Try.func77 (v := Value.bool r25.1) (res1 rfl rfl) ?_
  have hs := hs.pull 9 rfl
  have hs := hs.pull 9 rfl
  have hs := hs.pull 9 rfl
  have hs := hs.pull 7 rfl
  have hs := hs.pull 7 rfl
  have hs := hs.pull 7 rfl
  have hs := hs.pull 7 rfl
  have hs := hs.pull 7 rfl
  have hs := hs.pull 9 rfl
  have hs : St _ [_,_,_,_,_,_,_,_,_] _ := St.take (Γ' := [_]) hs
  exact ⟨_, rfl, rfl, hs⟩

/- function 77 _impl_knowledge_forms_1_at_c2 -/
def _impl_knowledge_forms_1_at_c2.post (wb : World) (Z : As) (b3 : Nat) (b7 : Nat) (b6 : Nat) (b7 : Nat) (b11 : Nat) (b14 : Nat) (b17 : Nat) (b19 : Nat) (b21 : Nat) (r : (Bool × S_impl_knowledge × (List (S_impl_knowledgeLeft × Bool)) × (List (S_impl_knowledgeLeft × Bool)) × S_impl_knowledge × Int × Bool × Unit × Unit)) (v : Value) (w : World) : Prop := v = Value.bool r.1 ∧ St wb [Cells b3 (enc_S_impl_knowledge r.2.1) 71, MapAs b7 ek_S_impl_knowledgeLeft Value.bool r.2.2.1, Cells b6 ([Value.map (some b7)]) 67, Cells b11 (enc_S_impl_knowledge r.2.2.2.2.1) 71, Cells b14 ((encI .i64) r.2.2.2.2.2.1) 2, Cells b17 (encB r.2.2.2.2.2.2.1) 4, Cells b19 ([Value.func (Fn.func 61) #[] #[Value.pointer (some ⟨b6, 0, none⟩), Value.pointer (some ⟨b11, 0, none⟩), Value.pointer (some ⟨b14, 0, none⟩), Value.pointer (some ⟨b17, 0, none⟩)]]) 113, Cells b21 ([Value.func (Fn.func 77) #[] #[Value.pointer (some ⟨b3, 0, none⟩), Value.pointer (some ⟨b19, 0, none⟩), Value.pointer (some ⟨b21, 0, none⟩)]]) 131, Z] w
set_option maxHeartbeats 8000000 in
set_option maxRecDepth 100000 in
theorem _impl_knowledge_forms_1_at_c2.calls {N : Nat} {self : (List (S_impl_knowledgeLeft × Bool)) → S_impl_knowledge → Int → Option (Bool × (List (S_impl_knowledgeLeft × Bool)))} (ih : ∀ (a1 : (List (S_impl_knowledgeLeft × Bool))) (a4 : S_impl_knowledge) (a5 : Int) (b2 : Nat) (wb : World) (Z : As) (w0 : World) (r : (Bool × (List (S_impl_knowledgeLeft × Bool)))) (hs : St wb [MapAs b2 ek_S_impl_knowledgeLeft Value.bool a1, Z] w0), self a1 a4 a5 = some r → Calls Try.prog 32 #[Value.map (some b2), Value.agg (enc_S_impl_knowledge a4).toArray, Value.int .i64 a5] w0 fun e w => ∃ v, e = .returned v ∧ _impl_finder_can.post wb Z b2 r v w) {a1 : S_impl_form} {a2 : S_impl_knowledge} {a5 : (List (S_impl_knowledgeLeft × Bool))} {a10 : S_impl_knowledge} {a13 : Int} {a16 : Bool} {b3 : Nat} {b6 : Nat} {b7 : Nat} {b11 : Nat} {b14 : Nat} {b17 : Nat} {b19 : Nat} {b21 : Nat} {wb : World} {Z : As} {w0 : World} {r : (Bool × S_impl_knowledge × (List (S_impl_knowledgeLeft × Bool)) × (List (S_impl_knowledgeLeft × Bool)) × S_impl_knowledge × Int × Bool × Unit × Unit)} (hs : St wb [Cells b3 (enc_S_impl_knowledge a2) 71, MapAs b7 ek_S_impl_knowledgeLeft Value.bool a5, Cells b6 ([Value.map (some b7)]) 67, Cells b11 (enc_S_impl_knowledge a10) 71, Cells b14 ((encI .i64) a13) 2, Cells b17 (encB a16) 4, Cells b19 ([Value.func (Fn.func 61) #[] #[Value.pointer (some ⟨b6, 0, none⟩), Value.pointer (some ⟨b11, 0, none⟩), Value.pointer (some ⟨b14, 0, none⟩), Value.pointer (some ⟨b17, 0, none⟩)]]) 113, Cells b21 ([Value.func (Fn.func 77) #[] #[Value.pointer (some ⟨b3, 0, none⟩), Value.pointer (some ⟨b19, 0, none⟩), Value.pointer (some ⟨b21, 0, none⟩)]]) 131, Z] w0) (H : _impl_knowledge_forms_1_at_c2.f N self a1 a2 a5 a10 a13 a16 = some r) :
    Calls Try.prog 77 #[Value.int .i64 2, Value.agg (enc_S_impl_form a1).toArray, Value.pointer (some ⟨b3, 0, none⟩), Value.pointer (some ⟨b19, 0, none⟩), Value.pointer (some ⟨b21, 0, none⟩)] w0 fun e w => ∃ v, e = .returned v ∧ _impl_knowledge_forms_1_at_c2.post wb Z b3 b7 b6 b7 b11 b14 b17 b19 b21 r v w := by
  unfold _impl_knowledge_forms_1_at_c2.f at H
  refine calls_of_g (n := 45) Try.func77 rfl rfl ?_
  show G _ _ _ _ [_,_,_,_,_,_,_,_,_,_,_,_,_,_,_,_,_,_,_,_,_,_,_,_,_,_,_,_,_,_,_,_,_,_,_,_,_,_,_,_,_,_,_,_,_,_,_,_,_,_] _
  refine g_seq (g_rg [0, 1] rfl ?_)
  refine s_box hs rfl rfl (cs := (enc_S_impl_form a1)) rfl rfl ?_
  intro b23 w hs
  refine g_op (v := Value.bool false) rfl rfl rfl (g_ops_nil (g_seq (g_seq (g_rg [0, 1] rfl ?_))))
  refine g_op (v := Value.int .i64 2) rfl rfl rfl ?_
  refine g_op (v := Value.bool false) rfl rfl rfl ?_
  show G _ _ _ _ [_,_,_,_,_,_,_,_,_,_,_,_,_,_,_,_,_,_,_,_,_,_,_,_,_,_,_,_,_,_,_,_,_,_,_,_,_,_,_,_,_,_,_,_,_,_,_,_,_,_] _
  refine g_ops_nil (g_cond_false rfl (g_skip (g_seq (g_seq (g_rg [0, 1, 2, 3, 4, 5] rfl ?_)))))
  refine g_op (v := Value.int .i64 2) rfl rfl rfl ?_
  refine g_op (v := Value.pointer (some ⟨b3, 0, none⟩)) rfl rfl rfl ?_
  obtain ⟨g1, H⟩ := ite_get H
  refine s_idxA (n := 2) (m := 1) rfl (fun _ => rfl) g1.1 g1.2 rfl rfl rfl rfl rfl ?_
  refine s_load1 rfl rfl (v := Value.int .i64 (a2.f_many.get 2 0)) rfl rfl (fun _ => rfl) (cells_load (hs.cells 1 rfl) _ _ (part_get (i := 2) (fkI .i64).len a2.f_many 0 g1.1 g1.2 [] (encB a2.f_none) (by simp [enc_S_impl_knowledge, encI, encB, encS]) (by first | rfl | simp [encAI_len, encAB_len, encA_len]))) ?_
  refine g_op (v := Value.int .i64 (i64w ((a2.f_many.get 2 0) + 1))) rfl rfl rfl ?_
  show G _ _ _ _ [_,_,_,_,_,_,_,_,_,_,_,_,_,_,_,_,_,_,_,_,_,_,_,_,_,_,_,_,_,_,_,_,_,_,_,_,_,_,_,_,_,_,_,_,_,_,_,_,_,_] _
  refine g_op (v := Value.int .i64 0) rfl rfl rfl (g_ops_nil ?_)
  obtain ⟨o1_, Ho, Hr1_⟩ := bind_get H
  refine g_block_join (J := fun t w => ∃ x65 : S_impl_knowledge, ∃ x66 : (List (S_impl_knowledgeLeft × Bool)), ∃ x67 : S_impl_knowledge, ∃ x68 : Int, ∃ x69 : Bool, _impl_knowledge_forms_1_at_c2.a0 N self x65 x66 x67 x68 x69 = some r ∧ Fr t (fun O => ([O 0, O 1, O 2, O 3, O 4, O 5, O 6, O 7, O 8, O 9, O 10, O 11, O 12, O 13, O 14, O 15, O 16, O 17, O 18, O 19, O 20, O 21, O 22, O 23, O 24, O 25, O 26, O 27, O 28, O 29, O 30, O 31, O 32, O 33, O 34, O 35, O 36, O 37, O 38, O 39, O 40, O 41, O 42, O 43, O 44, O 45, O 46, O 47, O 48, O 49] : List Value)) ∧ St wb [Cells b3 (enc_S_impl_knowledge x65) 71, MapAs b7 ek_S_impl_knowledgeLeft Value.bool x66, Cells b6 ([Value.map (some b7)]) 67, Cells b11 (enc_S_impl_knowledge x67) 71, Cells b14 ((encI .i64) x68) 2, Cells b17 (encB x69) 4, Cells b19 ([Value.func (Fn.func 61) #[] #[Value.pointer (some ⟨b6, 0, none⟩), Value.pointer (some ⟨b11, 0, none⟩), Value.pointer (some ⟨b14, 0, none⟩), Value.pointer (some ⟨b17, 0, none⟩)]]) 113, Cells b21 ([Value.func (Fn.func 77) #[] #[Value.pointer (some ⟨b3, 0, none⟩), Value.pointer (some ⟨b19, 0, none⟩), Value.pointer (some ⟨b21, 0, none⟩)]]) 131, Z] w) ?_ ?_
  ·
   rintro t w ⟨x65, x66, x67, x68, x69, H, hf, hs⟩
   obtain ⟨O, rfl⟩ := hf.open
   show G _ _ _ _ [_,_,_,_,_,_,_,_,_,_,_,_,_,_,_,_,_,_,_,_,_,_,_,_,_,_,_,_,_,_,_,_,_,_,_,_,_,_,_,_,_,_,_,_,_,_,_,_,_,_] _
   unfold _impl_knowledge_forms_1_at_c2.a0 at H
   refine g_seq (g_rg [0] rfl ?_)
   refine g_op (v := Value.bool true) rfl rfl rfl ?_
   show G _ _ _ _ [_,_,_,_,_,_,_,_,_,_,_,_,_,_,_,_,_,_,_,_,_,_,_,_,_,_,_,_,_,_,_,_,_,_,_,_,_,_,_,_,_,_,_,_,_,_,_,_,_,_] _
   refine g_ops_nil ?_
   obtain rfl := Option.some.inj H
   refine g_ret Try.func77 (v := Value.bool true) (res1 rfl rfl) ?_
   have hs := hs.pull 8 rfl
   have hs := hs.pull 8 rfl
   have hs := hs.pull 8 rfl
   have hs := hs.pull 8 rfl
   have hs := hs.pull 8 rfl
   have hs := hs.pull 8 rfl
   have hs := hs.pull 8 rfl
   have hs := hs.pull 8 rfl
   have hs := hs.pull 8 rfl
   have hs : St _ [_,_,_,_,_,_,_,_,_] _ := St.take (Γ' := []) hs
   exact ⟨_, rfl, rfl, hs⟩
  intro ha1_
  have hs := hs.pull 9 rfl
  have hs := hs.pull 1 rfl
  have hs := hs.pull 9 rfl
  have hs := hs.pull 9 rfl
  have hs := hs.pull 9 rfl
  have hs := hs.pull 9 rfl
  have hs := hs.pull 9 rfl
  have hs := hs.pull 9 rfl
  have hs := hs.pull 9 rfl
  have hs := hs.pull 9 rfl
  have hs : St _ [_,_,_,_,_,_,_,_,_,_] _ := St.take (Γ' := []) hs
  refine g_loop_fuel (I := fun n_ t w => ∃ x42 : S_impl_knowledge, ∃ x43 : (List (S_impl_knowledgeLeft × Bool)), ∃ x44 : S_impl_knowledge, ∃ x45 : Int, ∃ x46 : Bool, ∃ x47 : S_impl_form, ∃ x48 : Int, rounds (fun s => _impl_knowledge_forms_1_at_c2.b0 N self a2 s.1 s.2.1 s.2.2.1 s.2.2.2.1 s.2.2.2.2.1 s.2.2.2.2.2.1 s.2.2.2.2.2.2) n_ (x42, x43, x44, x45, x46, x47, x48) = some o1_ ∧ Fr t (fun O => ([Value.int .i64 2, O 1, Value.pointer (some ⟨b3, 0, none⟩), O 3, Value.pointer (some ⟨b21, 0, none⟩), O 5, Value.pointer (some ⟨b23, 0, none⟩), O 7, O 8, O 9, O 10, O 11, O 12, O 13, O 14, O 15, O 16, O 17, O 18, O 19, Value.int .i64 (i64w ((a2.f_many.get 2 0) + 1)), Value.int .i64 x48, O 22, O 23, O 24, O 25, O 26, O 27, O 28, O 29, O 30, O 31, O 32, O 33, O 34, O 35, O 36, O 37, O 38, O 39, O 40, O 41, O 42, O 43, O 44, O 45, O 46, O 47, O 48, O 49] : List Value)) ∧ St wb [Cells b3 (enc_S_impl_knowledge x42) 71, MapAs b7 ek_S_impl_knowledgeLeft Value.bool x43, Cells b6 ([Value.map (some b7)]) 67, Cells b11 (enc_S_impl_knowledge x44) 71, Cells b14 ((encI .i64) x45) 2, Cells b17 (encB x46) 4, Cells b19 ([Value.func (Fn.func 61) #[] #[Value.pointer (some ⟨b6, 0, none⟩), Value.pointer (some ⟨b11, 0, none⟩), Value.pointer (some ⟨b14, 0, none⟩), Value.pointer (some ⟨b17, 0, none⟩)]]) 113, Cells b21 ([Value.func (Fn.func 77) #[] #[Value.pointer (some ⟨b3, 0, none⟩), Value.pointer (some ⟨b19, 0, none⟩), Value.pointer (some ⟨b21, 0, none⟩)]]) 131, Cells b23 (enc_S_impl_form x47) 111, Z] w) N ⟨a2, a5, a10, a13, a16, a1, 0, Ho, rfl, hs⟩ ?_ ?_
  ·
   rintro _ _ ⟨x42, x43, x44, x45, x46, x47, x48, h, _⟩
   exact rounds_zero h
  intro n_ ih1_
  rintro t w ⟨x42, x43, x44, x45, x46, x47, x48, Ho, hf, hs⟩
  obtain ⟨O, rfl⟩ := hf.open
  show G _ _ _ _ [_,_,_,_,_,_,_,_,_,_,_,_,_,_,_,_,_,_,_,_,_,_,_,_,_,_,_,_,_,_,_,_,_,_,_,_,_,_,_,_,_,_,_,_,_,_,_,_,_,_] _
  obtain ⟨x18_, H, Hx1_⟩ := rounds_succ Ho
  have H : _impl_knowledge_forms_1_at_c2.b0 N self a2 x42 x43 x44 x45 x46 x47 x48 = some x18_ := H
  unfold _impl_knowledge_forms_1_at_c2.b0 at H
  refine g_seq (g_rg [0] rfl ?_)
  refine g_op_b (B := decide (x48 < (i64w ((a2.f_many.get 2 0) + 1)))) rfl rfl rfl ?_ ?_
  ·
   intro hb
   rw [if_pos (b_dec_t hb)] at H
   refine g_ops_nil (g_seq (g_cond_true rfl (g_skip (g_seq ?_))))
   refine g_block (g_seq (g_rg [0, 1] rfl ?_))
   refine g_op (v := Value.int .i64 x48) rfl rfl rfl ?_
   refine g_op (v := Value.int .i64 x48) rfl rfl rfl ?_
   show G _ _ _ _ [_,_,_,_,_,_,_,_,_,_,_,_,_,_,_,_,_,_,_,_,_,_,_,_,_,_,_,_,_,_,_,_,_,_,_,_,_,_,_,_,_,_,_,_,_,_,_,_,_,_] _
   refine g_ops_nil (g_seq (g_rg [0, 1, 2, 3, 4, 5, 6, 7] rfl ?_))
   refine g_op (v := Value.int .i64 2) rfl rfl rfl ?_
   refine g_op (v := Value.pointer (some ⟨b3, 0, none⟩)) rfl rfl rfl ?_
   obtain ⟨g10, H⟩ := ite_get H
   refine s_idxA (n := 2) (m := 1) rfl (fun _ => rfl) g10.1 g10.2 rfl rfl rfl rfl rfl ?_
   refine s_load1 rfl rfl (v := Value.int .i64 (x42.f_many.get 2 0)) rfl rfl (fun _ => rfl) (cells_load (hs.cells 0 rfl) _ _ (part_get (i := 2) (fkI .i64).len x42.f_many 0 g10.1 g10.2 [] (encB x42.f_none) (by simp [enc_S_impl_knowledge, encI, encB, encS]) (by first | rfl | simp [encAI_len, encAB_len, encA_len]))) ?_
   refine g_op (v := Value.int .i64 x48) rfl rfl rfl ?_
   refine g_op (v := Value.int .i64 (i64w ((x42.f_many.get 2 0) - x48))) rfl rfl rfl ?_
   show G _ _ _ _ [_,_,_,_,_,_,_,_,_,_,_,_,_,_,_,_,_,_,_,_,_,_,_,_,_,_,_,_,_,_,_,_,_,_,_,_,_,_,_,_,_,_,_,_,_,_,_,_,_,_] _
   refine g_op (v := Value.int .i64 (i64w ((i64w ((x42.f_many.get 2 0) - x48)) + 1))) rfl rfl rfl ?_
   refine g_op (v := Value.int .i64 0) rfl rfl rfl (g_ops_nil ?_)
   obtain ⟨o2_, Ho, Hr2_⟩ := bind_get H
   refine g_block_join (J := fun t w => ∃ x59 : S_impl_knowledge, ∃ x60 : (List (S_impl_knowledgeLeft × Bool)), ∃ x61 : S_impl_knowledge, ∃ x62 : Int, ∃ x63 : Bool, ∃ x64 : S_impl_form, _impl_knowledge_forms_1_at_c2.a2 N self x48 x59 x60 x61 x62 x63 x64 = some x18_ ∧ Fr t (fun O => ([Value.int .i64 2, O 1, Value.pointer (some ⟨b3, 0, none⟩), O 3, Value.pointer (some ⟨b21, 0, none⟩), O 5, Value.pointer (some ⟨b23, 0, none⟩), O 7, O 8, O 9, O 10, O 11, O 12, O 13, O 14, O 15, O 16, O 17, O 18, O 19, Value.int .i64 (i64w ((a2.f_many.get 2 0) + 1)), Value.int .i64 x48, O 22, O 23, O 24, O 25, O 26, O 27, O 28, O 29, O 30, O 31, O 32, O 33, O 34, O 35, O 36, O 37, O 38, O 39, O 40, O 41, O 42, O 43, O 44, O 45, O 46, O 47, O 48, O 49] : List Value)) ∧ St wb [Cells b3 (enc_S_impl_knowledge x59) 71, Cells b21 ([Value.func (Fn.func 77) #[] #[Value.pointer (some ⟨b3, 0, none⟩), Value.pointer (some ⟨b19, 0, none⟩), Value.pointer (some ⟨b21, 0, none⟩)]]) 131, Cells b19 ([Value.func (Fn.func 61) #[] #[Value.pointer (some ⟨b6, 0, none⟩), Value.pointer (some ⟨b11, 0, none⟩), Value.pointer (some ⟨b14, 0, none⟩), Value.pointer (some ⟨b17, 0, none⟩)]]) 113, Cells b6 ([Value.map (some b7)]) 67, MapAs b7 ek_S_impl_knowledgeLeft Value.bool x60, Cells b11 (enc_S_impl_knowledge x61) 71, Cells b14 ((encI .i64) x62) 2, Cells b17 (encB x63) 4, Cells b23 (enc_S_impl_form x64) 111, Z] w) ?_ ?_
   ·
    rintro t w ⟨x59, x60, x61, x62, x63, x64, H, hf, hs⟩
    obtain ⟨O, rfl⟩ := hf.open
    show G _ _ _ _ [_,_,_,_,_,_,_,_,_,_,_,_,_,_,_,_,_,_,_,_,_,_,_,_,_,_,_,_,_,_,_,_,_,_,_,_,_,_,_,_,_,_,_,_,_,_,_,_,_,_] _
    unfold _impl_knowledge_forms_1_at_c2.a2 at H
    refine g_inBlock (g_rg [0, 1] rfl ?_)
    refine g_op (v := Value.int .i64 (i64w (x48 + 1))) rfl rfl rfl ?_
    refine g_op (v := Value.int .i64 (i64w (x48 + 1))) rfl rfl rfl (g_ops_nil ?_)
    obtain rfl := Option.some.inj H
    have hs := hs.pull 9 rfl
    have hs := hs.pull 9 rfl
    have hs := hs.pull 3 rfl
    have hs := hs.pull 4 rfl
    have hs := hs.pull 9 rfl
    have hs := hs.pull 9 rfl
    have hs := hs.pull 9 rfl
    have hs := hs.pull 8 rfl
    have hs := hs.pull 9 rfl
    have hs := hs.pull 9 rfl
    have hs : St _ [_,_,_,_,_,_,_,_,_,_] _ := St.take (Γ' := []) hs
    exact ih1_ _ _ ⟨x59, x60, x61, x62, x63, x64, i64w (x48 + 1), Hx1_, rfl, hs⟩
   intro ha2_
   have hs := hs.pull 9 rfl
   have hs := hs.pull 9 rfl
   have hs := hs.pull 9 rfl
   have hs := hs.pull 9 rfl
   have hs := hs.pull 9 rfl
   have hs := hs.pull 9 rfl
   have hs := hs.pull 9 rfl
   have hs := hs.pull 9 rfl
   have hs := hs.pull 9 rfl
   have hs := hs.pull 9 rfl
   have hs : St _ [_,_,_,_,_,_,_,_,_,_] _ := St.take (Γ' := []) hs
   refine g_loop_fuel (I := fun n_ t w => ∃ x51 : S_impl_knowledge, ∃ x52 : (List (S_impl_knowledgeLeft × Bool)), ∃ x53 : S_impl_knowledge, ∃ x54 : Int, ∃ x55 : Bool, ∃ x56 : S_impl_form, ∃ x57 : Int, rounds (fun s => _impl_knowledge_forms_1_at_c2.b2 N self x42 x48 s.1 s.2.1 s.2.2.1 s.2.2.2.1 s.2.2.2.2.1 s.2.2.2.2.2.1 s.2.2.2.2.2.2) n_ (x51, x52, x53, x54, x55, x56, x57) = some o2_ ∧ Fr t (fun O => ([Value.int .i64 2, O 1, Value.pointer (some ⟨b3, 0, none⟩), O 3, Value.pointer (some ⟨b21, 0, none⟩), O 5, Value.pointer (some ⟨b23, 0, none⟩), O 7, Value.int .i64 x48, O 9, O 10, O 11, O 12, O 13, O 14, O 15, O 16, O 17, O 18, O 19, Value.int .i64 (i64w ((a2.f_many.get 2 0) + 1)), Value.int .i64 x48, O 22, O 23, O 24, O 25, O 26, O 27, O 28, O 29, Value.int .i64 (i64w ((i64w ((x42.f_many.get 2 0) - x48)) + 1)), Value.int .i64 x57, O 32, O 33, O 34, O 35, O 36, O 37, O 38, O 39, O 40, O 41, O 42, O 43, O 44, O 45, O 46, O 47, O 48, O 49] : List Value)) ∧ St wb [Cells b3 (enc_S_impl_knowledge x51) 71, MapAs b7 ek_S_impl_knowledgeLeft Value.bool x52, Cells b6 ([Value.map (some b7)]) 67, Cells b11 (enc_S_impl_knowledge x53) 71, Cells b14 ((encI .i64) x54) 2, Cells b17 (encB x55) 4, Cells b19 ([Value.func (Fn.func 61) #[] #[Value.pointer (some ⟨b6, 0, none⟩), Value.pointer (some ⟨b11, 0, none⟩), Value.pointer (some ⟨b14, 0, none⟩), Value.pointer (some ⟨b17, 0, none⟩)]]) 113, Cells b21 ([Value.func (Fn.func 77) #[] #[Value.pointer (some ⟨b3, 0, none⟩), Value.pointer (some ⟨b19, 0, none⟩), Value.pointer (some ⟨b21, 0, none⟩)]]) 131, Cells b23 (enc_S_impl_form x56) 111, Z] w) N ⟨x42, x43, x44, x45, x46, x47, 0, Ho, rfl, hs⟩ ?_ ?_
   ·
    rintro _ _ ⟨x51, x52, x53, x54, x55, x56, x57, h, _⟩
    exact rounds_zero h
   intro n_ ih2_
   rintro t w ⟨x51, x52, x53, x54, x55, x56, x57, Ho, hf, hs⟩
   obtain ⟨O, rfl⟩ := hf.open
   show G _ _ _ _ [_,_,_,_,_,_,_,_,_,_,_,_,_,_,_,_,_,_,_,_,_,_,_,_,_,_,_,_,_,_,_,_,_,_,_,_,_,_,_,_,_,_,_,_,_,_,_,_,_,_] _
   obtain ⟨x17_, H, Hx2_⟩ := rounds_succ Ho
   have H : _impl_knowledge_forms_1_at_c2.b2 N self x42 x48 x51 x52 x53 x54 x55 x56 x57 = some x17_ := H
   unfold _impl_knowledge_forms_1_at_c2.b2 at H
   refine g_seq (g_rg [0] rfl ?_)
   refine g_op_b (B := decide (x57 < (i64w ((i64w ((x42.f_many.get 2 0) - x48)) + 1)))) rfl rfl rfl ?_ ?_
   ·
    intro hb
    rw [if_pos (b_dec_t hb)] at H
    show G _ _ _ _ [_,_,_,_,_,_,_,_,_,_,_,_,_,_,_,_,_,_,_,_,_,_,_,_,_,_,_,_,_,_,_,_,_,_,_,_,_,_,_,_,_,_,_,_,_,_,_,_,_,_] _
    refine g_ops_nil (g_seq (g_cond_true rfl (g_skip (g_seq ?_))))
    refine g_block (g_seq (g_rg [0, 1] rfl ?_))
    refine g_op (v := Value.int .i64 x57) rfl rfl rfl ?_
    refine g_op (v := Value.int .i64 x57) rfl rfl rfl (g_ops_nil (g_seq (g_rg [0, 1, 2, 3, 4, 5, 6, 7, 8, 9] rfl ?_)))
    refine g_op (v := Value.int .i64 2) rfl rfl rfl ?_
    refine g_op (v := Value.int .i64 2) rfl rfl rfl ?_
    refine g_op (v := Value.int .i64 x48) rfl rfl rfl ?_
    refine g_op (v := Value.int .i64 x57) rfl rfl rfl ?_
    refine g_op (v := Value.pointer (some ⟨b23, 0, none⟩)) rfl rfl rfl ?_
    obtain ⟨g14, H⟩ := ite_get H
    refine s_idxA (n := 2) (m := 1) rfl (fun _ => rfl) g14.1 g14.2 rfl rfl rfl rfl rfl ?_
    have hs := hs.pull 8 rfl
    have hs : St _ [_,_,_,_,_,_,_,_,_,_] _ := hs
    refine s_storeP (y := x48) (a := x56.f_left) (fkI .i64).len (fkI .i64).one g14.1 g14.2 [] ((encA (encI .i64)) x56.f_right) (by simp [enc_S_impl_form, encI, encB, encS]) (by first | rfl | simp [encAI_len, encAB_len, encA_len]) hs rfl rfl (cs' := (enc_S_impl_form (⟨x56.f_left.set 2 x48, x56.f_right⟩ : S_impl_form))) (by simp [enc_S_impl_form, encI, encB, encS]) rfl rfl rfl (fun _ => rfl) ?_
    intro w hs
    refine g_op (v := Value.pointer (some ⟨b23, 4, none⟩)) rfl rfl rfl ?_
    obtain ⟨g15, H⟩ := ite_get H
    refine s_idxA (n := 2) (m := 1) rfl (fun _ => rfl) g15.1 g15.2 rfl rfl rfl rfl rfl ?_
    show G _ _ _ _ [_,_,_,_,_,_,_,_,_,_,_,_,_,_,_,_,_,_,_,_,_,_,_,_,_,_,_,_,_,_,_,_,_,_,_,_,_,_,_,_,_,_,_,_,_,_,_,_,_,_] _
    refine s_storeP (y := x57) (a := ((⟨x56.f_left.set 2 x48, x56.f_right⟩ : S_impl_form).f_right)) (fkI .i64).len (fkI .i64).one g15.1 g15.2 ((encA (encI .i64)) ((⟨x56.f_left.set 2 x48, x56.f_right⟩ : S_impl_form).f_left)) [] (by simp [enc_S_impl_form, encI, encB, encS]) (by first | rfl | simp [encAI_len, encAB_len, encA_len]) hs rfl rfl (cs' := (enc_S_impl_form (⟨(⟨x56.f_left.set 2 x48, x56.f_right⟩ : S_impl_form).f_left, ((⟨x56.f_left.set 2 x48, x56.f_right⟩ : S_impl_form).f_right).set 2 x57⟩ : S_impl_form))) (by simp [enc_S_impl_form, encI, encB, encS]) rfl rfl rfl (fun _ => rfl) ?_
    intro w hs
    refine g_ops_nil (g_seq (g_rg [0, 1, 2, 3, 4, 5] rfl ?_))
    refine s_load1 rfl rfl (v := Value.func (Fn.func 77) #[] #[Value.pointer (some ⟨b3, 0, none⟩), Value.pointer (some ⟨b19, 0, none⟩), Value.pointer (some ⟨b21, 0, none⟩)]) rfl rfl (fun _ => rfl) (cells_load (hs.cells 8 rfl) 0 1 rfl) ?_
    refine g_op (v := Value.int .i64 2) rfl rfl rfl ?_
    refine g_op (v := Value.int .i64 3) rfl rfl rfl ?_
    refine s_loadA rfl rfl (es := (enc_S_impl_form (⟨(⟨x56.f_left.set 2 x48, x56.f_right⟩ : S_impl_form).f_left, ((⟨x56.f_left.set 2 x48, x56.f_right⟩ : S_impl_form).f_right).set 2 x57⟩ : S_impl_form))) rfl rfl (fun _ => rfl) (n := 8) (fun _ => rfl) (fk_S_impl_form.len _) (cells_all (hs.cells 0 rfl)) ?_
    show G _ _ _ _ [_,_,_,_,_,_,_,_,_,_,_,_,_,_,_,_,_,_,_,_,_,_,_,_,_,_,_,_,_,_,_,_,_,_,_,_,_,_,_,_,_,_,_,_,_,_,_,_,_,_] _
    obtain ⟨r58, Hr58, H⟩ := bind_get H
    have hs := hs.pull 8 rfl
    have hs := hs.pull 8 rfl
    have hs := hs.pull 8 rfl
    have hs := hs.pull 8 rfl
    have hs := hs.pull 8 rfl
    have hs := hs.pull 8 rfl
    have hs := hs.pull 8 rfl
    have hs := hs.pull 8 rfl
    have hs : St _ [_,_,_,_,_,_,_,_,_,_] _ := hs
    have hs := hs.pack 8
    refine s_call (args := [Value.int .i64 3, Value.agg (enc_S_impl_form (⟨(⟨x56.f_left.set 2 x48, x56.f_right⟩ : S_impl_form).f_left, ((⟨x56.f_left.set 2 x48, x56.f_right⟩ : S_impl_form).f_right).set 2 x57⟩ : S_impl_form)).toArray, Value.pointer (some ⟨b3, 0, none⟩), Value.pointer (some ⟨b19, 0, none⟩), Value.pointer (some ⟨b21, 0, none⟩)]) rfl rfl (x_callC rfl (callFunc_enter Try.func77 rfl rfl) rfl rfl) (_impl_knowledge_forms_1_at_c3.calls ih (a1 := (⟨(⟨x56.f_left.set 2 x48, x56.f_right⟩ : S_impl_form).f_left, ((⟨x56.f_left.set 2 x48, x56.f_right⟩ : S_impl_form).f_right).set 2 x57⟩ : S_impl_form)) (a2 := x51) (a5 := x52) (a10 := x53) (a13 := x54) (a16 := x55) hs Hr58) ?_
    rintro _ w ⟨rfl, hs⟩
    have hs := St.unpack (Γ := [_,_,_,_,_,_,_,_]) hs
    have hs : St _ [_,_,_,_,_,_,_,_,_,_] _ := hs
    generalize hb16_ : r58.1 = b_ at H ⊢
    cases b_ with
    | true =>
      rw [if_pos rfl] at H
      refine g_op (v := Value.bool false) rfl rfl rfl (g_ops_nil (g_cond_false rfl (g_skip ?_)))
      refine g_inBlock (g_rg [0, 1] rfl ?_)
      refine g_op (v := Value.int .i64 (i64w (x57 + 1))) rfl rfl rfl ?_
      show G _ _ _ _ [_,_,_,_,_,_,_,_,_,_,_,_,_,_,_,_,_,_,_,_,_,_,_,_,_,_,_,_,_,_,_,_,_,_,_,_,_,_,_,_,_,_,_,_,_,_,_,_,_,_] _
      refine g_op (v := Value.int .i64 (i64w (x57 + 1))) rfl rfl rfl (g_ops_nil ?_)
      obtain rfl := Option.some.inj H
      have hs := hs.pull 9 rfl
      have hs := hs.pull 9 rfl
      have hs := hs.pull 9 rfl
      have hs := hs.pull 9 rfl
      have hs := hs.pull 9 rfl
      have hs := hs.pull 9 rfl
      have hs := hs.pull 9 rfl
      have hs := hs.pull 9 rfl
      have hs := hs.pull 9 rfl
      have hs := hs.pull 9 rfl
      have hs : St _ [_,_,_,_,_,_,_,_,_,_] _ := St.take (Γ' := []) hs
      exact ih2_ _ _ ⟨r58.2.1, r58.2.2.1, r58.2.2.2.2.1, r58.2.2.2.2.2.1, r58.2.2.2.2.2.2.1, (⟨(⟨x56.f_left.set 2 x48, x56.f_right⟩ : S_impl_form).f_left, ((⟨x56.f_left.set 2 x48, x56.f_right⟩ : S_impl_form).f_right).set 2 x57⟩ : S_impl_form), i64w (x57 + 1), Hx2_, rfl, hs⟩
    | false =>
      rw [if_neg Bool.false_ne_true] at H
      refine g_op (v := Value.bool true) rfl rfl rfl (g_ops_nil (g_cond_true rfl (g_seq (g_rg [0] rfl ?_))))
      refine g_op (v := Value.bool false) rfl rfl rfl ?_
      show G _ _ _ _ [_,_,_,_,_,_,_,_,_,_,_,_,_,_,_,_,_,_,_,_,_,_,_,_,_,_,_,_,_,_,_,_,_,_,_,_,_,_,_,_,_,_,_,_,_,_,_,_,_,_] _
      refine g_ops_nil ?_
      obtain rfl := Option.some.inj H
      subst Hx2_
      have H := Option.some.inj Hr2_
      subst H
      subst Hx1_
      have H := Option.some.inj Hr1_
      subst H
      refine g_ret Try.func77 (v := Value.bool false) (res1 rfl rfl) ?_
      have hs := hs.pull 9 rfl
      have hs := hs.pull 8 rfl
      have hs := hs.pull 8 rfl
      have hs := hs.pull 8 rfl
      have hs := hs.pull 8 rfl
      have hs := hs.pull 8 rfl
      have hs := hs.pull 8 rfl
      have hs := hs.pull 8 rfl
      have hs := hs.pull 8 rfl
      have hs : St _ [_,_,_,_,_,_,_,_,_] _ := St.take (Γ' := [_]) hs
      exact ⟨_, rfl, rfl, hs⟩
   intro hb
   rw [if_neg (b_dec_f hb)] at H
   refine g_ops_nil (g_seq (g_cond_false rfl ?_))
   obtain rfl := Option.some.inj H
   subst Hx2_
   have hs := hs.pull 9 rfl
   have hs := hs.pull 9 rfl
   have hs := hs.pull 7 rfl
   have hs := hs.pull 7 rfl
   have hs := hs.pull 7 rfl
   have hs := hs.pull 6 rfl
   have hs := hs.pull 7 rfl
   have hs := hs.pull 8 rfl
   have hs := hs.pull 9 rfl
   have hs := hs.pull 9 rfl
   have hs : St _ [_,_,_,_,_,_,_,_,_,_] _ := St.take (Γ' := []) hs
   refine g_exit rfl ?_
   exact ha2_ _ _ ⟨x51, x52, x53, x54, x55, x56, Hr2_, rfl, hs⟩
  intro hb
  rw [if_neg (b_dec_f hb)] at H
  refine g_ops_nil (g_seq (g_cond_false rfl ?_))
  obtain rfl := Option.some.inj H
  subst Hx1_
  have hs := hs.pull 9 rfl
  have hs := hs.pull 8 rfl
  have hs := hs.pull 8 rfl
  have hs := hs.pull 8 rfl
  have hs := hs.pull 8 rfl
  have hs := hs.pull 8 rfl
  have hs := hs.pull 8 rfl
  have hs := hs.pull 8 rfl
  have hs := hs.pull 8 rfl
  have hs : St _ [_,_,_,_,_,_,_,_,_] _ := St.take (Γ' := [_]) hs
  refine g_exit rfl ?_
  exact ha1_ _ _ ⟨x42, x43, x44, x45, x46, Hr1_, rfl, hs⟩

/- function 77 _impl_knowledge_forms_1_at_c1 -/
def _impl_knowledge_forms_1_at_c1.post (wb : World) (Z : As) (b3 : Nat) (b7 : Nat) (b6 : Nat) (b7 : Nat) (b11 : Nat) (b14 : Nat) (b17 : Nat) (b19 : Nat) (b21 : Nat) (r : (Bool × S_impl_knowledge × (List (S_impl_knowledgeLeft × Bool)) × (List (S_impl_knowledgeLeft × Bool)) × S_impl_knowledge × Int × Bool × Unit × Unit)) (v : Value) (w : World) : Prop := v = Value.bool r.1 ∧ St wb [Cells b3 (enc_S_impl_knowledge r.2.1) 71, MapAs b7 ek_S_impl_knowledgeLeft Value.bool r.2.2.1, Cells b6 ([Value.map (some b7)]) 67, Cells b11 (enc_S_impl_knowledge r.2.2.2.2.1) 71, Cells b14 ((encI .i64) r.2.2.2.2.2.1) 2, Cells b17 (encB r.2.2.2.2.2.2.1) 4, Cells b19 ([Value.func (Fn.func 61) #[] #[Value.pointer (some ⟨b6, 0, none⟩), Value.pointer (some ⟨b11, 0, none⟩), Value.pointer (some ⟨b14, 0, none⟩), Value.pointer (some ⟨b17, 0, none⟩)]]) 113, Cells b21 ([Value.func (Fn.func 77) #[] #[Value.pointer (some ⟨b3, 0, none⟩), Value.pointer (some ⟨b19, 0, none⟩), Value.pointer (some ⟨b21, 0, none⟩)]]) 131, Z] w
set_option maxHeartbeats 8000000 in
set_option maxRecDepth 100000 in
theorem _impl_knowledge_forms_1_at_c1.calls {N : Nat} {self : (List (S_impl_knowledgeLeft × Bool)) → S_impl_knowledge → Int → Option (Bool × (List (S_impl_knowledgeLeft × Bool)))} (ih : ∀ (a1 : (List (S_impl_knowledgeLeft × Bool))) (a4 : S_impl_knowledge) (a5 : Int) (b2 : Nat) (wb : World) (Z : As) (w0 : World) (r : (Bool × (List (S_impl_knowledgeLeft × Bool)))) (hs : St wb [MapAs b2 ek_S_impl_knowledgeLeft Value.bool a1, Z] w0), self a1 a4 a5 = some r → Calls Try.prog 32 #[Value.map (some b2), Value.agg (enc_S_impl_knowledge a4).toArray, Value.int .i64 a5] w0 fun e w => ∃ v, e = .returned v ∧ _impl_finder_can.post wb Z b2 r v w) {a1 : S_impl_form} {a2 : S_impl_knowledge} {a5 : (List (S_impl_knowledgeLeft × Bool))} {a10 : S_impl_knowledge} {a13 : Int} {a16 : Bool} {b3 : Nat} {b6 : Nat} {b7 : Nat} {b11 : Nat} {b14 : Nat} {b17 : Nat} {b19 : Nat} {b21 : Nat} {wb : World} {Z : As} {w0 : World} {r : (Bool × S_impl_knowledge × (List (S_impl_knowledgeLeft × Bool)) × (List (S_impl_knowledgeLeft × Bool)) × S_impl_knowledge × Int × Bool × Unit × Unit)} (hs : St wb [Cells b3 (enc_S_impl_knowledge a2) 71, MapAs b7 ek_S_impl_knowledgeLeft Value.bool a5, Cells b6 ([Value.map (some b7)]) 67, Cells b11 (enc_S_impl_knowledge a10) 71, Cells b14 ((encI .i64) a13) 2, Cells b17 (encB a16) 4, Cells b19 ([Value.func (Fn.func 61) #[] #[Value.pointer (some ⟨b6, 0, none⟩), Value.pointer (some ⟨b11, 0, none⟩), Value.pointer (some ⟨b14, 0, none⟩), Value.pointer (some ⟨b17, 0, none⟩)]]) 113, Cells b21 ([Value.func (Fn.func 77) #[] #[Value.pointer (some ⟨b3, 0, none⟩), Value.pointer (some ⟨b19, 0, none⟩), Value.pointer (some ⟨b21, 0, none⟩)]]) 131, Z] w0) (H : _impl_knowledge_forms_1_at_c1.f N self a1 a2 a5 a10 a13 a16 = some r) :
    Calls Try.prog 77 #[Value.int .i64 1, Value.agg (enc_S_impl_form a1).toArray, Value.pointer (some ⟨b3, 0, none⟩), Value.pointer (some ⟨b19, 0, none⟩), Value.pointer (some ⟨b21, 0, none⟩)] w0 fun e w => ∃ v, e = .returned v ∧ _impl_knowledge_forms_1_at_c1.post wb Z b3 b7 b6 b7 b11 b14 b17 b19 b21 r v w := by
  unfold _impl_knowledge_forms_1_at_c1.f at H
  refine calls_of_g (n := 45) Try.func77 rfl rfl ?_
  show G _ _ _ _ [_,_,_,_,_,_,_,_,_,_,_,_,_,_,_,_,_,_,_,_,_,_,_,_,_,_,_,_,_,_,_,_,_,_,_,_,_,_,_,_,_,_,_,_,_,_,_,_,_,_] _
  refine g_seq (g_rg [0, 1] rfl ?_)
  refine s_box hs rfl rfl (cs := (enc_S_impl_form a1)) rfl rfl ?_
  intro b23 w hs
  refine g_op (v := Value.bool false) rfl rfl rfl (g_ops_nil (g_seq (g_seq (g_rg [0, 1] rfl ?_))))
  refine g_op (v := Value.int .i64 1) rfl rfl rfl ?_
  refine g_op (v := Value.bool false) rfl rfl rfl ?_
  show G _ _ _ _ [_,_,_,_,_,_,_,_,_,_,_,_,_,_,_,_,_,_,_,_,_,_,_,_,_,_,_,_,_,_,_,_,_,_,_,_,_,_,_,_,_,_,_,_,_,_,_,_,_,_] _
  refine g_ops_nil (g_cond_false rfl (g_skip (g_seq (g_seq (g_rg [0, 1, 2, 3, 4, 5] rfl ?_)))))
  refine g_op (v := Value.int .i64 1) rfl rfl rfl ?_
  refine g_op (v := Value.pointer (some ⟨b3, 0, none⟩)) rfl rfl rfl ?_
  obtain ⟨g1, H⟩ := ite_get H
  refine s_idxA (n := 1) (m := 1) rfl (fun _ => rfl) g1.1 g1.2 rfl rfl rfl rfl rfl ?_
  refine s_load1 rfl rfl (v := Value.int .i64 (a2.f_many.get 1 0)) rfl rfl (fun _ => rfl) (cells_load (hs.cells 1 rfl) _ _ (part_get (i := 1) (fkI .i64).len a2.f_many 0 g1.1 g1.2 [] (encB a2.f_none) (by simp [enc_S_impl_knowledge, encI, encB, encS]) (by first | rfl | simp [encAI_len, encAB_len, encA_len]))) ?_
  refine g_op (v := Value.int .i64 (i64w ((a2.f_many.get 1 0) + 1))) rfl rfl rfl ?_
  show G _ _ _ _ [_,_,_,_,_,_,_,_,_,_,_,_,_,_,_,_,_,_,_,_,_,_,_,_,_,_,_,_,_,_,_,_,_,_,_,_,_,_,_,_,_,_,_,_,_,_,_,_,_,_] _
  refine g_op (v := Value.int .i64 0) rfl rfl rfl (g_ops_nil ?_)
  obtain ⟨o1_, Ho, Hr1_⟩ := bind_get H
  refine g_block_join (J := fun t w => ∃ x65 : S_impl_knowledge, ∃ x66 : (List (S_impl_knowledgeLeft × Bool)), ∃ x67 : S_impl_knowledge, ∃ x68 : Int, ∃ x69 : Bool, _impl_knowledge_forms_1_at_c1.a0 N self x65 x66 x67 x68 x69 = some r ∧ Fr t (fun O => ([O 0, O 1, O 2, O 3, O 4, O 5, O 6, O 7, O 8, O 9, O 10, O 11, O 12, O 13, O 14, O 15, O 16, O 17, O 18, O 19, O 20, O 21, O 22, O 23, O 24, O 25, O 26, O 27, O 28, O 29, O 30, O 31, O 32, O 33, O 34, O 35, O 36, O 37, O 38, O 39, O 40, O 41, O 42, O 43, O 44, O 45, O 46, O 47, O 48, O 49] : List Value)) ∧ St wb [Cells b3 (enc_S_impl_knowledge x65) 71, MapAs b7 ek_S_impl_knowledgeLeft Value.bool x66, Cells b6 ([Value.map (some b7)]) 67, Cells b11 (enc_S_impl_knowledge x67) 71, Cells b14 ((encI .i64) x68) 2, Cells b17 (encB x69) 4, Cells b19 ([Value.func (Fn.func 61) #[] #[Value.pointer (some ⟨b6, 0, none⟩), Value.pointer (some ⟨b11, 0, none⟩), Value.pointer (some ⟨b14, 0, none⟩), Value.pointer (some ⟨b17, 0, none⟩)]]) 113, Cells b21 ([Value.func (Fn.func 77) #[] #[Value.pointer (some ⟨b3, 0, none⟩), Value.pointer (some ⟨b19, 0, none⟩), Value.pointer (some ⟨b21, 0, none⟩)]]) 131, Z] w) ?_ ?_
  ·
   rintro t w ⟨x65, x66, x67, x68, x69, H, hf, hs⟩
   obtain ⟨O, rfl⟩ := hf.open
   show G _ _ _ _ [_,_,_,_,_,_,_,_,_,_,_,_,_,_,_,_,_,_,_,_,_,_,_,_,_,_,_,_,_,_,_,_,_,_,_,_,_,_,_,_,_,_,_,_,_,_,_,_,_,_] _
   unfold _impl_knowledge_forms_1_at_c1.a0 at H
   refine g_seq (g_rg [0] rfl ?_)
   refine g_op (v := Value.bool true) rfl rfl rfl ?_
   show G _ _ _ _ [_,_,_,_,_,_,_,_,_,_,_,_,_,_,_,_,_,_,_,_,_,_,_,_,_,_,_,_,_,_,_,_,_,_,_,_,_,_,_,_,_,_,_,_,_,_,_,_,_,_] _
   refine g_ops_nil ?_
   obtain rfl := Option.some.inj H
   refine g_ret Try.func77 (v := Value.bool true) (res1 rfl rfl) ?_
   have hs := hs.pull 8 rfl
   have hs := hs.pull 8 rfl
   have hs := hs.pull 8 rfl
   have hs := hs.pull 8 rfl
   have hs := hs.pull 8 rfl
   have hs := hs.pull 8 rfl
   have hs := hs.pull 8 rfl
   have hs := hs.pull 8 rfl
   have hs := hs.pull 8 rfl
   have hs : St _ [_,_,_,_,_,_,_,_,_] _ := St.take (Γ' := []) hs
   exact ⟨_, rfl, rfl, hs⟩
  intro ha1_
  have hs := hs.pull 9 rfl
  have hs := hs.pull 1 rfl
  have hs := hs.pull 9 rfl
  have hs := hs.pull 9 rfl
  have hs := hs.pull 9 rfl
  have hs := hs.pull 9 rfl
  have hs := hs.pull 9 rfl
  have hs := hs.pull 9 rfl
  have hs := hs.pull 9 rfl
  have hs := hs.pull 9 rfl
  have hs : St _ [_,_,_,_,_,_,_,_,_,_] _ := St.take (Γ' := []) hs
  refine g_loop_fuel (I := fun n_ t w => ∃ x42 : S_impl_knowledge, ∃ x43 : (List (S_impl_knowledgeLeft × Bool)), ∃ x44 : S_impl_knowledge, ∃ x45 : Int, ∃ x46 : Bool, ∃ x47 : S_impl_form, ∃ x48 : Int, rounds (fun s => _impl_knowledge_forms_1_at_c1.b0 N self a2 s.1 s.2.1 s.2.2.1 s.2.2.2.1 s.2.2.2.2.1 s.2.2.2.2.2.1 s.2.2.2.2.2.2) n_ (x42, x43, x44, x45, x46, x47, x48) = some o1_ ∧ Fr t (fun O => ([Value.int .i64 1, O 1, Value.pointer (some ⟨b3, 0, none⟩), O 3, Value.pointer (some ⟨b21, 0, none⟩), O 5, Value.pointer (some ⟨b23, 0, none⟩), O 7, O 8, O 9, O 10, O 11, O 12, O 13, O 14, O 15, O 16, O 17, O 18, O 19, Value.int .i64 (i64w ((a2.f_many.get 1 0) + 1)), Value.int .i64 x48, O 22, O 23, O 24, O 25, O 26, O 27, O 28, O 29, O 30, O 31, O 32, O 33, O 34, O 35, O 36, O 37, O 38, O 39, O 40, O 41, O 42, O 43, O 44, O 45, O 46, O 47, O 48, O 49] : List Value)) ∧ St wb [Cells b3 (enc_S_impl_knowledge x42) 71, MapAs b7 ek_S_impl_knowledgeLeft Value.bool x43, Cells b6 ([Value.map (some b7)]) 67, Cells b11 (enc_S_impl_knowledge x44) 71, Cells b14 ((encI .i64) x45) 2, Cells b17 (encB x46) 4, Cells b19 ([Value.func (Fn.func 61) #[] #[Value.pointer (some ⟨b6, 0, none⟩), Value.pointer (some ⟨b11, 0, none⟩), Value.pointer (some ⟨b14, 0, none⟩), Value.pointer (some ⟨b17, 0, none⟩)]]) 113, Cells b21 ([Value.func (Fn.func 77) #[] #[Value.pointer (some ⟨b3, 0, none⟩), Value.pointer (some ⟨b19, 0, none⟩), Value.pointer (some ⟨b21, 0, none⟩)]]) 131, Cells b23 (enc_S_impl_form x47) 111, Z] w) N ⟨a2, a5, a10, a13, a16, a1, 0, Ho, rfl, hs⟩ ?_ ?_
  ·
   rintro _ _ ⟨x42, x43, x44, x45, x46, x47, x48, h, _⟩
   exact rounds_zero h
  intro n_ ih1_
  rintro t w ⟨x42, x43, x44, x45, x46, x47, x48, Ho, hf, hs⟩
  obtain ⟨O, rfl⟩ := hf.open
  show G _ _ _ _ [_,_,_,_,_,_,_,_,_,_,_,_,_,_,_,_,_,_,_,_,_,_,_,_,_,_,_,_,_,_,_,_,_,_,_,_,_,_,_,_,_,_,_,_,_,_,_,_,_,_] _
  obtain ⟨x18_, H, Hx1_⟩ := rounds_succ Ho
  have H : _impl_knowledge_forms_1_at_c1.b0 N self a2 x42 x43 x44 x45 x46 x47 x48 = some x18_ := H
  unfold _impl_knowledge_forms_1_at_c1.b0 at H
  refine g_seq (g_rg [0] rfl ?_)
  refine g_op_b (B := decide (x48 < (i64w ((a2.f_many.get 1 0) + 1)))) rfl rfl rfl ?_ ?_
  ·
   intro hb
   rw [if_pos (b_dec_t hb)] at H
   refine g_ops_nil (g_seq (g_cond_true rfl (g_skip (g_seq ?_))))
   refine g_block (g_seq (g_rg [0, 1] rfl ?_))
   refine g_op (v := Value.int .i64 x48) rfl rfl rfl ?_
   refine g_op (v := Value.int .i64 x48) rfl rfl rfl ?_
   show G _ _ _ _ [_,_,_,_,_,_,_,_,_,_,_,_,_,_,_,_,_,_,_,_,_,_,_,_,_,_,_,_,_,_,_,_,_,_,_,_,_,_,_,_,_,_,_,_,_,_,_,_,_,_] _
   refine g_ops_nil (g_seq (g_rg [0, 1, 2, 3, 4, 5, 6, 7] rfl ?_))
   refine g_op (v := Value.int .i64 1) rfl rfl rfl ?_
   refine g_op (v := Value.pointer (some ⟨b3, 0, none⟩)) rfl rfl rfl ?_
   obtain ⟨g10, H⟩ := ite_get H
   refine s_idxA (n := 1) (m := 1) rfl (fun _ => rfl) g10.1 g10.2 rfl rfl rfl rfl rfl ?_
   refine s_load1 rfl rfl (v := Value.int .i64 (x42.f_many.get 1 0)) rfl rfl (fun _ => rfl) (cells_load (hs.cells 0 rfl) _ _ (part_get (i := 1) (fkI .i64).len x42.f_many 0 g10.1 g10.2 [] (encB x42.f_none) (by simp [enc_S_impl_knowledge, encI, encB, encS]) (by first | rfl | simp [encAI_len, encAB_len, encA_len]))) ?_
   refine g_op (v := Value.int .i64 x48) rfl rfl rfl ?_
   refine g_op (v := Value.int .i64 (i64w ((x42.f_many.get 1 0) - x48))) rfl rfl rfl ?_
   show G _ _ _ _ [_,_,_,_,_,_,_,_,_,_,_,_,_,_,_,_,_,_,_,_,_,_,_,_,_,_,_,_,_,_,_,_,_,_,_,_,_,_,_,_,_,_,_,_,_,_,_,_,_,_] _
   refine g_op (v := Value.int .i64 (i64w ((i64w ((x42.f_many.get 1 0) - x48)) + 1))) rfl rfl rfl ?_
   refine g_op (v := Value.int .i64 0) rfl rfl rfl (g_ops_nil ?_)
   obtain ⟨o2_, Ho, Hr2_⟩ := bind_get H
   refine g_block_join (J := fun t w => ∃ x59 : S_impl_knowledge, ∃ x60 : (List (S_impl_knowledgeLeft × Bool)), ∃ x61 : S_impl_knowledge, ∃ x62 : Int, ∃ x63 : Bool, ∃ x64 : S_impl_form, _impl_knowledge_forms_1_at_c1.a2 N self x48 x59 x60 x61 x62 x63 x64 = some x18_ ∧ Fr t (fun O => ([Value.int .i64 1, O 1, Value.pointer (some ⟨b3, 0, none⟩), O 3, Value.pointer (some ⟨b21, 0, none⟩), O 5, Value.pointer (some ⟨b23, 0, none⟩), O 7, O 8, O 9, O 10, O 11, O 12, O 13, O 14, O 15, O 16, O 17, O 18, O 19, Value.int .i64 (i64w ((a2.f_many.get 1 0) + 1)), Value.int .i64 x48, O 22, O 23, O 24, O 25, O 26, O 27, O 28, O 29, O 30, O 31, O 32, O 33, O 34, O 35, O 36, O 37, O 38, O 39, O 40, O 41, O 42, O 43, O 44, O 45, O 46, O 47, O 48, O 49] : List Value)) ∧ St wb [Cells b3 (enc_S_impl_knowledge x59) 71, Cells b21 ([Value.func (Fn.func 77) #[] #[Value.pointer (some ⟨b3, 0, none⟩), Value.pointer (some ⟨b19, 0, none⟩), Value.pointer (some ⟨b21, 0, none⟩)]]) 131, Cells b19 ([Value.func (Fn.func 61) #[] #[Value.pointer (some ⟨b6, 0, none⟩), Value.pointer (some ⟨b11, 0, none⟩), Value.pointer (some ⟨b14, 0, none⟩), Value.pointer (some ⟨b17, 0, none⟩)]]) 113, Cells b6 ([Value.map (some b7)]) 67, MapAs b7 ek_S_impl_knowledgeLeft Value.bool x60, Cells b11 (enc_S_impl_knowledge x61) 71, Cells b14 ((encI .i64) x62) 2, Cells b17 (encB x63) 4, Cells b23 (enc_S_impl_form x64) 111, Z] w) ?_ ?_
   ·
    rintro t w ⟨x59, x60, x61, x62, x63, x64, H, hf, hs⟩
    obtain ⟨O, rfl⟩ := hf.open
    show G _ _ _ _ [_,_,_,_,_,_,_,_,_,_,_,_,_,_,_,_,_,_,_,_,_,_,_,_,_,_,_,_,_,_,_,_,_,_,_,_,_,_,_,_,_,_,_,_,_,_,_,_,_,_] _
    unfold _impl_knowledge_forms_1_at_c1.a2 at H
    refine g_inBlock (g_rg [0, 1] rfl ?_)
    refine g_op (v := Value.int .i64 (i64w (x48 + 1))) rfl rfl rfl ?_
    refine g_op (v := Value.int .i64 (i64w (x48 + 1))) rfl rfl rfl (g_ops_nil ?_)
    obtain rfl := Option.some.inj H
    have hs := hs.pull 9 rfl
    have hs := hs.pull 9 rfl
    have hs := hs.pull 3 rfl
    have hs := hs.pull 4 rfl
    have hs := hs.pull 9 rfl
    have hs := hs.pull 9 rfl
    have hs := hs.pull 9 rfl
    have hs := hs.pull 8 rfl
    have hs := hs.pull 9 rfl
    have hs := hs.pull 9 rfl
    have hs : St _ [_,_,_,_,_,_,_,_,_,_] _ := St.take (Γ' := []) hs
    exact ih1_ _ _ ⟨x59, x60, x61, x62, x63, x64, i64w (x48 + 1), Hx1_, rfl, hs⟩
   intro ha2_
   have hs := hs.pull 9 rfl
   have hs := hs.pull 9 rfl
   have hs := hs.pull 9 rfl
   have hs := hs.pull 9 rfl
   have hs := hs.pull 9 rfl
   have hs := hs.pull 9 rfl
   have hs := hs.pull 9 rfl
   have hs := hs.pull 9 rfl
   have hs := hs.pull 9 rfl
   have hs := hs.pull 9 rfl
   have hs : St _ [_,_,_,_,_,_,_,_,_,_] _ := St.take (Γ' := []) hs
   refine g_loop_fuel (I := fun n_ t w => ∃ x51 : S_impl_knowledge, ∃ x52 : (List (S_impl_knowledgeLeft × Bool)), ∃ x53 : S_impl_knowledge, ∃ x54 : Int, ∃ x55 : Bool, ∃ x56 : S_impl_form, ∃ x57 : Int, rounds (fun s => _impl_knowledge_forms_1_at_c1.b2 N self x42 x48 s.1 s.2.1 s.2.2.1 s.2.2.2.1 s.2.2.2.2.1 s.2.2.2.2.2.1 s.2.2.2.2.2.2) n_ (x51, x52, x53, x54, x55, x56, x57) = some o2_ ∧ Fr t (fun O => ([Value.int .i64 1, O 1, Value.pointer (some ⟨b3, 0, none⟩), O 3, Value.pointer (some ⟨b21, 0, none⟩), O 5, Value.pointer (some ⟨b23, 0, none⟩), O 7, Value.int .i64 x48, O 9, O 10, O 11, O 12, O 13, O 14, O 15, O 16, O 17, O 18, O 19, Value.int .i64 (i64w ((a2.f_many.get 1 0) + 1)), Value.int .i64 x48, O 22, O 23, O 24, O 25, O 26, O 27, O 28, O 29, Value.int .i64 (i64w ((i64w ((x42.f_many.get 1 0) - x48)) + 1)), Value.int .i64 x57, O 32, O 33, O 34, O 35, O 36, O 37, O 38, O 39, O 40, O 41, O 42, O 43, O 44, O 45, O 46, O 47, O 48, O 49] : List Value)) ∧ St wb [Cells b3 (enc_S_impl_knowledge x51) 71, MapAs b7 ek_S_impl_knowledgeLeft Value.bool x52, Cells b6 ([Value.map (some b7)]) 67, Cells b11 (enc_S_impl_knowledge x53) 71, Cells b14 ((encI .i64) x54) 2, Cells b17 (encB x55) 4, Cells b19 ([Value.func (Fn.func 61) #[] #[Value.pointer (some ⟨b6, 0, none⟩), Value.pointer (some ⟨b11, 0, none⟩), Value.pointer (some ⟨b14, 0, none⟩), Value.pointer (some ⟨b17, 0, none⟩)]]) 113, Cells b21 ([Value.func (Fn.func 77) #[] #[Value.pointer (some ⟨b3, 0, none⟩), Value.pointer (some ⟨b19, 0, none⟩), Value.pointer (some ⟨b21, 0, none⟩)]]) 131, Cells b23 (enc_S_impl_form x56) 111, Z] w) N ⟨x42, x43, x44, x45, x46, x47, 0, Ho, rfl, hs⟩ ?_ ?_
   ·
    rintro _ _ ⟨x51, x52, x53, x54, x55, x56, x57, h, _⟩
    exact rounds_zero h
   intro n_ ih2_
   rintro t w ⟨x51, x52, x53, x54, x55, x56, x57, Ho, hf, hs⟩
   obtain ⟨O, rfl⟩ := hf.open
   show G _ _ _ _ [_,_,_,_,_,_,_,_,_,_,_,_,_,_,_,_,_,_,_,_,_,_,_,_,_,_,_,_,_,_,_,_,_,_,_,_,_,_,_,_,_,_,_,_,_,_,_,_,_,_] _
   obtain ⟨x17_, H, Hx2_⟩ := rounds_succ Ho
   have H : _impl_knowledge_forms_1_at_c1.b2 N self x42 x48 x51 x52 x53 x54 x55 x56 x57 = some x17_ := H
   unfold _impl_knowledge_forms_1_at_c1.b2 at H
   refine g_seq (g_rg [0] rfl ?_)
   refine g_op_b (B := decide (x57 < (i64w ((i64w ((x42.f_many.get 1 0) - x48)) + 1)))) rfl rfl rfl ?_ ?_
   ·
    intro hb
    rw [if_pos (b_dec_t hb)] at H
    show G _ _ _ _ [_,_,_,_,_,_,_,_,_,_,_,_,_,_,_,_,_,_,_,_,_,_,_,_,_,_,_,_,_,_,_,_,_,_,_,_,_,_,_,_,_,_,_,_,_,_,_,_,_,_] _
    refine g_ops_nil (g_seq (g_cond_true rfl (g_skip (g_seq ?_))))
    refine g_block (g_seq (g_rg [0, 1] rfl ?_))
    refine g_op (v := Value.int .i64 x57) rfl rfl rfl ?_
    refine g_op (v := Value.int .i64 x57) rfl rfl rfl (g_ops_nil (g_seq (g_rg [0, 1, 2, 3, 4, 5, 6, 7, 8, 9] rfl ?_)))
    refine g_op (v := Value.int .i64 1) rfl rfl rfl ?_
    refine g_op (v := Value.int .i64 1) rfl rfl rfl ?_
    refine g_op (v := Value.int .i64 x48) rfl rfl rfl ?_
    refine g_op (v := Value.int .i64 x57) rfl rfl rfl ?_
    refine g_op (v := Value.pointer (some ⟨b23, 0, none⟩)) rfl rfl rfl ?_
    obtain ⟨g14, H⟩ := ite_get H
    refine s_idxA (n := 1) (m := 1) rfl (fun _ => rfl) g14.1 g14.2 rfl rfl rfl rfl rfl ?_
    have hs := hs.pull 8 rfl
    have hs : St _ [_,_,_,_,_,_,_,_,_,_] _ := hs
    refine s_storeP (y := x48) (a := x56.f_left) (fkI .i64).len (fkI .i64).one g14.1 g14.2 [] ((encA (encI .i64)) x56.f_right) (by simp [enc_S_impl_form, encI, encB, encS]) (by first | rfl | simp [encAI_len, encAB_len, encA_len]) hs rfl rfl (cs' := (enc_S_impl_form (⟨x56.f_left.set 1 x48, x56.f_right⟩ : S_impl_form))) (by simp [enc_S_impl_form, encI, encB, encS]) rfl rfl rfl (fun _ => rfl) ?_
    intro w hs
    refine g_op (v := Value.pointer (some ⟨b23, 4, none⟩)) rfl rfl rfl ?_
    obtain ⟨g15, H⟩ := ite_get H
    refine s_idxA (n := 1) (m := 1) rfl (fun _ => rfl) g15.1 g15.2 rfl rfl rfl rfl rfl ?_
    show G _ _ _ _ [_,_,_,_,_,_,_,_,_,_,_,_,_,_,_,_,_,_,_,_,_,_,_,_,_,_,_,_,_,_,_,_,_,_,_,_,_,_,_,_,_,_,_,_,_,_,_,_,_,_] _
    refine s_storeP (y := x57) (a := ((⟨x56.f_left.set 1 x48, x56.f_right⟩ : S_impl_form).f_right)) (fkI .i64).len (fkI .i64).one g15.1 g15.2 ((encA (encI .i64)) ((⟨x56.f_left.set 1 x48, x56.f_right⟩ : S_impl_form).f_left)) [] (by simp [enc_S_impl_form, encI, encB, encS]) (by first | rfl | simp [encAI_len, encAB_len, encA_len]) hs rfl rfl (cs' := (enc_S_impl_form (⟨(⟨x56.f_left.set 1 x48, x56.f_right⟩ : S_impl_form).f_left, ((⟨x56.f_left.set 1 x48, x56.f_right⟩ : S_impl_form).f_right).set 1 x57⟩ : S_impl_form))) (by simp [enc_S_impl_form, encI, encB, encS]) rfl rfl rfl (fun _ => rfl) ?_
    intro w hs
    refine g_ops_nil (g_seq (g_rg [0, 1, 2, 3, 4, 5] rfl ?_))
    refine s_load1 rfl rfl (v := Value.func (Fn.func 77) #[] #[Value.pointer (some ⟨b3, 0, none⟩), Value.pointer (some ⟨b19, 0, none⟩), Value.pointer (some ⟨b21, 0, none⟩)]) rfl rfl (fun _ => rfl) (cells_load (hs.cells 8 rfl) 0 1 rfl) ?_
    refine g_op (v := Value.int .i64 1) rfl rfl rfl ?_
    refine g_op (v := Value.int .i64 2) rfl rfl rfl ?_
    refine s_loadA rfl rfl (es := (enc_S_impl_form (⟨(⟨x56.f_left.set 1 x48, x56.f_right⟩ : S_impl_form).f_left, ((⟨x56.f_left.set 1 x48, x56.f_right⟩ : S_impl_form).f_right).set 1 x57⟩ : S_impl_form))) rfl rfl (fun _ => rfl) (n := 8) (fun _ => rfl) (fk_S_impl_form.len _) (cells_all (hs.cells 0 rfl)) ?_
    show G _ _ _ _ [_,_,_,_,_,_,_,_,_,_,_,_,_,_,_,_,_,_,_,_,_,_,_,_,_,_,_,_,_,_,_,_,_,_,_,_,_,_,_,_,_,_,_,_,_,_,_,_,_,_] _
    obtain ⟨r58, Hr58, H⟩ := bind_get H
    have hs := hs.pull 8 rfl
    have hs := hs.pull 8 rfl
    have hs := hs.pull 8 rfl
    have hs := hs.pull 8 rfl
    have hs := hs.pull 8 rfl
    have hs := hs.pull 8 rfl
    have hs := hs.pull 8 rfl
    have hs := hs.pull 8 rfl
    have hs : St _ [_,_,_,_,_,_,_,_,_,_] _ := hs
    have hs := hs.pack 8
    refine s_call (args := [Value.int .i64 2, Value.agg (enc_S_impl_form (⟨(⟨x56.f_left.set 1 x48, x56.f_right⟩ : S_impl_form).f_left, ((⟨x56.f_left.set 1 x48, x56.f_right⟩ : S_impl_form).f_right).set 1 x57⟩ : S_impl_form)).toArray, Value.pointer (some ⟨b3, 0, none⟩), Value.pointer (some ⟨b19, 0, none⟩), Value.pointer (some ⟨b21, 0, none⟩)]) rfl rfl (x_callC rfl (callFunc_enter Try.func77 rfl rfl) rfl rfl) (_impl_knowledge_forms_1_at_c2.calls ih (a1 := (⟨(⟨x56.f_left.set 1 x48, x56.f_right⟩ : S_impl_form).f_left, ((⟨x56.f_left.set 1 x48, x56.f_right⟩ : S_impl_form).f_right).set 1 x57⟩ : S_impl_form)) (a2 := x51) (a5 := x52) (a10 := x53) (a13 := x54) (a16 := x55) hs Hr58) ?_
    rintro _ w ⟨rfl, hs⟩
    have hs := St.unpack (Γ := [_,_,_,_,_,_,_,_]) hs
    have hs : St _ [_,_,_,_,_,_,_,_,_,_] _ := hs
    generalize hb16_ : r58.1 = b_ at H ⊢
    cases b_ with
    | true =>
      rw [if_pos rfl] at H
      refine g_op (v := Value.bool false) rfl rfl rfl (g_ops_nil (g_cond_false rfl (g_skip ?_)))
      refine g_inBlock (g_rg [0, 1] rfl ?_)
      refine g_op (v := Value.int .i64 (i64w (x57 + 1))) rfl rfl rfl ?_
      show G _ _ _ _ [_,_,_,_,_,_,_,_,_,_,_,_,_,_,_,_,_,_,_,_,_,_,_,_,_,_,_,_,_,_,_,_,_,_,_,_,_,_,_,_,_,_,_,_,_,_,_,_,_,_] _
      refine g_op (v := Value.int .i64 (i64w (x57 + 1))) rfl rfl rfl (g_ops_nil ?_)
      obtain rfl := Option.some.inj H
      have hs := hs.pull 9 rfl
      have hs := hs.pull 9 rfl
      have hs := hs.pull 9 rfl
      have hs := hs.pull 9 rfl
      have hs := hs.pull 9 rfl
      have hs := hs.pull 9 rfl
      have hs := hs.pull 9 rfl
      have hs := hs.pull 9 rfl
      have hs := hs.pull 9 rfl
      have hs := hs.pull 9 rfl
      have hs : St _ [_,_,_,_,_,_,_,_,_,_] _ := St.take (Γ' := []) hs
      exact ih2_ _ _ ⟨r58.2.1, r58.2.2.1, r58.2.2.2.2.1, r58.2.2.2.2.2.1, r58.2.2.2.2.2.2.1, (⟨(⟨x56.f_left.set 1 x48, x56.f_right⟩ : S_impl_form).f_left, ((⟨x56.f_left.set 1 x48, x56.f_right⟩ : S_impl_form).f_right).set 1 x57⟩ : S_impl_form), i64w (x57 + 1), Hx2_, rfl, hs⟩
    | false =>
      rw [if_neg Bool.false_ne_true] at H
      refine g_op (v := Value.bool true) rfl rfl rfl (g_ops_nil (g_cond_true rfl (g_seq (g_rg [0] rfl ?_))))
      refine g_op (v := Value.bool false) rfl rfl rfl ?_
      show G _ _ _ _ [_,_,_,_,_,_,_,_,_,_,_,_,_,_,_,_,_,_,_,_,_,_,_,_,_,_,_,_,_,_,_,_,_,_,_,_,_,_,_,_,_,_,_,_,_,_,_,_,_,_] _
      refine g_ops_nil ?_
      obtain rfl := Option.some.inj H
      subst Hx2_
      have H := Option.some.inj Hr2_
      subst H
      subst Hx1_
      have H := Option.some.inj Hr1_
      subst H
      refine g_ret Try.func77 (v := Value.bool false) (res1 rfl rfl) ?_
      have hs := hs.pull 9 rfl
      have hs := hs.pull 8 rfl
      have hs := hs.pull 8 rfl
      have hs := hs.pull 8 rfl
      have hs := hs.pull 8 rfl
      have hs := hs.pull 8 rfl
      have hs := hs.pull 8 rfl
      have hs := hs.pull 8 rfl
      have hs := hs.pull 8 rfl
      have hs : St _ [_,_,_,_,_,_,_,_,_] _ := St.take (Γ' := [_]) hs
      exact ⟨_, rfl, rfl, hs⟩
   intro hb
   rw [if_neg (b_dec_f hb)] at H
   refine g_ops_nil (g_seq (g_cond_false rfl ?_))
   obtain rfl := Option.some.inj H
   subst Hx2_
   have hs := hs.pull 9 rfl
   have hs := hs.pull 9 rfl
   have hs := hs.pull 7 rfl
   have hs := hs.pull 7 rfl
   have hs := hs.pull 7 rfl
   have hs := hs.pull 6 rfl
   have hs := hs.pull 7 rfl
   have hs := hs.pull 8 rfl
   have hs := hs.pull 9 rfl
   have hs := hs.pull 9 rfl
   have hs : St _ [_,_,_,_,_,_,_,_,_,_] _ := St.take (Γ' := []) hs
   refine g_exit rfl ?_
   exact ha2_ _ _ ⟨x51, x52, x53, x54, x55, x56, Hr2_, rfl, hs⟩
  intro hb
  rw [if_neg (b_dec_f hb)] at H
  refine g_ops_nil (g_seq (g_cond_false rfl ?_))
  obtain rfl := Option.some.inj H
  subst Hx1_
  have hs := hs.pull 9 rfl
  have hs := hs.pull 8 rfl
  have hs := hs.pull 8 rfl
  have hs := hs.pull 8 rfl
  have hs := hs.pull 8 rfl
  have hs := hs.pull 8 rfl
  have hs := hs.pull 8 rfl
  have hs := hs.pull 8 rfl
  have hs := hs.pull 8 rfl
  have hs : St _ [_,_,_,_,_,_,_,_,_] _ := St.take (Γ' := [_]) hs
  refine g_exit rfl ?_
  exact ha1_ _ _ ⟨x42, x43, x44, x45, x46, Hr1_, rfl, hs⟩

end Go.Proofs.YtgpdpedpmhonkaaX
