/- Contracts, printed by gen.py. -/
import Derived.Test.YtgpdpedpmhonkaaXT
import Derived.Test.YtgpdpedpmhonkaaProg
import Derived.Test.YtgpdpedpmhonkaaXRowR
import Derived.Test.YtgpdpedpmhonkaaXSq
import Derived.Test.YtgpdpedpmhonkaaXSeg
import Derived.Test.YtgpdpedpmhonkaaXKey
import Derived.Test.YtgpdpedpmhonkaaXPart
namespace Go.Proofs.YtgpdpedpmhonkaaX
open Go Go.RowKit Go.Proofs
set_option linter.unusedVariables false
set_option linter.unusedSimpArgs false
theorem eq_ar8_103_g : Try.prog.eqGuardType Try.prog.depth 103 = false := by kernel_rfl
set_option maxRecDepth 100000 in
theorem eq_ar8_103 (a b : Ar Int 8) (w : World) : (Op.equal 103 (.agg (encA (encI .i64) a).toArray) (.agg (encA (encI .i64) b).toArray)).run Try.prog w = .ok (decide (a = b)) w := by
  obtain ⟨la, ha⟩ := a
  obtain ⟨lb, hb⟩ := b
  match la, ha, lb, hb with
  | [a0, a1, a2, a3, a4, a5, a6, a7], _, [b0, b1, b2, b3, b4, b5, b6, b7], _ =>
    have q : (Op.equalIn 10000 103 (.agg #[Value.int .i64 a0, Value.int .i64 a1, Value.int .i64 a2, Value.int .i64 a3, Value.int .i64 a4, Value.int .i64 a5, Value.int .i64 a6, Value.int .i64 a7]) (.agg #[Value.int .i64 b0, Value.int .i64 b1, Value.int .i64 b2, Value.int .i64 b3, Value.int .i64 b4, Value.int .i64 b5, Value.int .i64 b6, Value.int .i64 b7])).run Try.prog w = .ok ((a0 == b0) && ((a1 == b1) && ((a2 == b2) && ((a3 == b3) && ((a4 == b4) && ((a5 == b5) && ((a6 == b6) && ((a7 == b7) && true)))))))) w := by
      rw [run_equalIn_array w 9999 _ _ Try.underlying103 (show Try.prog.info? 2 = some _ from by rfl), show Try.prog.cellsOf 2 = 1 from by kernel_rfl]
      exact (eqItems_step (d := 9998) Try.underlying2 rfl rfl (eqItems_step (d := 9998) Try.underlying2 rfl rfl (eqItems_step (d := 9998) Try.underlying2 rfl rfl (eqItems_step (d := 9998) Try.underlying2 rfl rfl (eqItems_step (d := 9998) Try.underlying2 rfl rfl (eqItems_step (d := 9998) Try.underlying2 rfl rfl (eqItems_step (d := 9998) Try.underlying2 rfl rfl (eqItems_step (d := 9998) Try.underlying2 rfl rfl (by simp [Op.eqItems])))))))))
    refine Eq.trans q ?_
    congr 1
    rw [Bool.eq_iff_iff, decide_eq_true_eq]
    simp [Ar.mk.injEq, and_assoc]

set_option maxRecDepth 100000 in
theorem eqa_S_impl_knowledgeLeft_107 (a b : S_impl_knowledgeLeft) (w : World) : (Op.equal 107 (ek_S_impl_knowledgeLeft a) (ek_S_impl_knowledgeLeft b)).run Try.prog w = .ok (decide (a = b)) w := by
  obtain ⟨⟨a_, af⟩, aq⟩ := a
  obtain ⟨a0, a1, a2, a3, rfl⟩ := ar4 a_
  obtain ⟨⟨b_, bf⟩, bq⟩ := b
  obtain ⟨b0, b1, b2, b3, rfl⟩ := ar4 b_
  have q := equal_struct (w := w) (xs := #[Value.int .i64 a0, Value.int .i64 a1, Value.int .i64 a2, Value.int .i64 a3, Value.bool af, Value.int .i64 aq]) (ys := #[Value.int .i64 b0, Value.int .i64 b1, Value.int .i64 b2, Value.int .i64 b3, Value.bool bf, Value.int .i64 bq]) Try.underlying107 (by kernel_rfl) (eqFields_step (by decide) rfl rfl (equalIn_structI (d := 9998) (xs := #[Value.int .i64 a0, Value.int .i64 a1, Value.int .i64 a2, Value.int .i64 a3, Value.bool af]) (ys := #[Value.int .i64 b0, Value.int .i64 b1, Value.int .i64 b2, Value.int .i64 b3, Value.bool bf]) Try.underlying71 (by kernel_rfl) (eqFields_step (by decide) rfl rfl (equalIn_arr4 (d := 9996) Try.underlying69 (by rfl) Try.underlying3 (by kernel_rfl) rfl rfl rfl rfl rfl rfl rfl rfl) (eqFields_step (by decide) rfl rfl (equalIn_bool (d := 9997) Try.underlying4) eqFields_nil))) (eqFields_step (by decide) rfl rfl (equalIn_int (d := 9998) Try.underlying2) eqFields_nil))
  refine Eq.trans q ?_
  congr 1
  rw [Bool.eq_iff_iff, decide_eq_true_eq]
  simp [S_impl_knowledgeLeft.mk.injEq, S_impl_knowledge.mk.injEq, Ar.mk.injEq, and_assoc]
set_option maxRecDepth 100000 in
theorem key_S_impl_knowledgeLeft_107 : KeyOk Try.prog 107 ek_S_impl_knowledgeLeft where
  desc := ⟨_, Try.underlying107, .inl fun _ _ => rfl⟩
  eq := eqa_S_impl_knowledgeLeft_107
  check := fun a b w => by
    obtain ⟨⟨a_, af⟩, aq⟩ := a
    obtain ⟨a0, a1, a2, a3, rfl⟩ := ar4 a_
    exact check_struct2 (n := 9999) (cs := #[Value.int .i64 a0, Value.int .i64 a1, Value.int .i64 a2, Value.int .i64 a3, Value.bool af, Value.int .i64 aq]) Try.underlying107 (by decide) (by decide) rfl rfl (check_struct2 (n := 9998) (cs := #[Value.int .i64 a0, Value.int .i64 a1, Value.int .i64 a2, Value.int .i64 a3, Value.bool af]) Try.underlying71 (by decide) (by decide) rfl rfl (check_arr4 (n := 9996) Try.underlying69 Try.underlying3 rfl rfl rfl rfl rfl) (check_bool (n := 9997) Try.underlying4)) (check_int (n := 9998) Try.underlying2)
  same := fun a => by
    obtain ⟨⟨a_, af⟩, aq⟩ := a
    obtain ⟨a0, a1, a2, a3, rfl⟩ := ar4 a_
    show Instr.sameBits 10000 (.agg #[Value.int .i64 a0, Value.int .i64 a1, Value.int .i64 a2, Value.int .i64 a3, Value.bool af, Value.int .i64 aq]) (.agg #[Value.int .i64 a0, Value.int .i64 a1, Value.int .i64 a2, Value.int .i64 a3, Value.bool af, Value.int .i64 aq]) = true
    simp [Instr.sameBits]


end Go.Proofs.YtgpdpedpmhonkaaX
