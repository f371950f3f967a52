/- Contracts, printed by gen.py. -/
import Derived.Test.YtfnfoecocicigaaXT
import Derived.Test.YtfnfoecocicigaaProg
import Derived.Test.YtfnfoecocicigaaXRowR
import Derived.Test.YtfnfoecocicigaaXSeg
import Derived.Test.YtfnfoecocicigaaXKey
namespace Go.Proofs.YtfnfoecocicigaaX
open Go Go.RowKit Go.Proofs
set_option linter.unusedVariables false
set_option linter.unusedSimpArgs false
theorem eq_ar4_25_g : Try.prog.eqGuardType Try.prog.depth 25 = false := by kernel_rfl
set_option maxRecDepth 100000 in
theorem eq_ar4_25 (a b : Ar Int 4) (w : World) : (Op.equal 25 (.agg (encA (encI .i64) a).toArray) (.agg (encA (encI .i64) b).toArray)).run Try.prog w = .ok (decide (a = b)) w := by
  obtain ⟨a0, a1, a2, a3, rfl⟩ := ar4 a
  obtain ⟨b0, b1, b2, b3, rfl⟩ := ar4 b
  have q := equalIn_arr4 (w := w) (d := 9998) (xs := #[Value.int .i64 a0, Value.int .i64 a1, Value.int .i64 a2, Value.int .i64 a3]) (ys := #[Value.int .i64 b0, Value.int .i64 b1, Value.int .i64 b2, Value.int .i64 b3]) Try.underlying25 (by rfl) Try.underlying2 (by kernel_rfl) rfl rfl rfl rfl rfl rfl rfl rfl
  refine Eq.trans q ?_
  congr 1
  rw [Bool.eq_iff_iff, decide_eq_true_eq]
  simp [Ar.mk.injEq, and_assoc]

set_option maxRecDepth 100000 in
theorem eqa_S_impl_stateLeft_69 (a b : S_impl_stateLeft) (w : World) : (Op.equal 69 (ek_S_impl_stateLeft a) (ek_S_impl_stateLeft b)).run Try.prog w = .ok (decide (a = b)) w := by
  obtain ⟨a_, aq⟩ := a
  obtain ⟨a0, a1, a2, a3, rfl⟩ := ar4 a_
  obtain ⟨b_, bq⟩ := b
  obtain ⟨b0, b1, b2, b3, rfl⟩ := ar4 b_
  have q := equal_struct (w := w) (xs := #[Value.int .i64 a0, Value.int .i64 a1, Value.int .i64 a2, Value.int .i64 a3, Value.int .i64 aq]) (ys := #[Value.int .i64 b0, Value.int .i64 b1, Value.int .i64 b2, Value.int .i64 b3, Value.int .i64 bq]) Try.underlying69 (by kernel_rfl) (eqFields_step (by decide) rfl rfl (equalIn_arr4 (d := 9997) Try.underlying25 (by rfl) Try.underlying2 (by kernel_rfl) rfl rfl rfl rfl rfl rfl rfl rfl) (eqFields_step (by decide) rfl rfl (equalIn_int (d := 9998) Try.underlying2) eqFields_nil))
  refine Eq.trans q ?_
  congr 1
  rw [Bool.eq_iff_iff, decide_eq_true_eq]
  simp [S_impl_stateLeft.mk.injEq, Ar.mk.injEq, and_assoc]
set_option maxRecDepth 100000 in
theorem key_S_impl_stateLeft_69 : KeyOk Try.prog 69 ek_S_impl_stateLeft where
  desc := ⟨_, Try.underlying69, fun _ _ => rfl⟩
  eq := eqa_S_impl_stateLeft_69
  check := fun a b w => by
    obtain ⟨a_, aq⟩ := a
    obtain ⟨a0, a1, a2, a3, rfl⟩ := ar4 a_
    exact check_struct2 (n := 9999) (cs := #[Value.int .i64 a0, Value.int .i64 a1, Value.int .i64 a2, Value.int .i64 a3, Value.int .i64 aq]) Try.underlying69 (by decide) (by decide) rfl rfl (check_arr4 (n := 9997) Try.underlying25 Try.underlying2 rfl rfl rfl rfl rfl) (check_int (n := 9998) Try.underlying2)
  same := fun a => by
    obtain ⟨a_, aq⟩ := a
    obtain ⟨a0, a1, a2, a3, rfl⟩ := ar4 a_
    show Instr.sameBits 10000 (.agg #[Value.int .i64 a0, Value.int .i64 a1, Value.int .i64 a2, Value.int .i64 a3, Value.int .i64 aq]) (.agg #[Value.int .i64 a0, Value.int .i64 a1, Value.int .i64 a2, Value.int .i64 a3, Value.int .i64 aq]) = true
    simp [Instr.sameBits]


end Go.Proofs.YtfnfoecocicigaaX
