/- Contracts, printed by gen.py. -/
import Derived.Test.YtioefkcldfjobaaXT
import Derived.Test.YtioefkcldfjobaaProg
import Derived.Test.YtioefkcldfjobaaXRowR
import Derived.Test.YtioefkcldfjobaaXSeg
import Derived.Test.YtioefkcldfjobaaXKey
import Derived.Test.YtioefkcldfjobaaXIter
import Derived.Test.YtioefkcldfjobaaXRow2
namespace Go.Proofs.YtioefkcldfjobaaX
open Go Go.RowKit Go.Proofs
set_option linter.unusedVariables false
set_option linter.unusedSimpArgs false
theorem eq_ar4_29_g : Try.prog.eqGuardType Try.prog.depth 29 = false := by kernel_rfl
set_option maxRecDepth 100000 in
theorem eq_ar4_29 (a b : Ar Int 4) (w : World) : (Op.equal 29 (.agg (encA (encI .i16) a).toArray) (.agg (encA (encI .i16) b).toArray)).run Try.prog w = .ok (decide (a = b)) w := by
  obtain ⟨a0, a1, a2, a3, rfl⟩ := ar4 a
  obtain ⟨b0, b1, b2, b3, rfl⟩ := ar4 b
  have q := equalIn_arr4 (w := w) (d := 9998) (xs := #[Value.int .i16 a0, Value.int .i16 a1, Value.int .i16 a2, Value.int .i16 a3]) (ys := #[Value.int .i16 b0, Value.int .i16 b1, Value.int .i16 b2, Value.int .i16 b3]) Try.underlying29 (by rfl) Try.underlying23 (by kernel_rfl) rfl rfl rfl rfl rfl rfl rfl rfl
  refine Eq.trans q ?_
  congr 1
  rw [Bool.eq_iff_iff, decide_eq_true_eq]
  simp [Ar.mk.injEq, and_assoc]

set_option maxRecDepth 100000 in
theorem key_ar4_29 : KeyOk Try.prog 29 (ekA (n := 4) .i16) where
  desc := ⟨_, Try.underlying29, .inl fun _ _ => rfl⟩
  eq := fun a b w => eq_ar4_29 a b w
  check := fun a b w => by
    obtain ⟨a0, a1, a2, a3, rfl⟩ := ar4 a
    exact check_arr4 (n := 9998) Try.underlying29 Try.underlying23 rfl rfl rfl rfl rfl
  same := fun a => by
    obtain ⟨a0, a1, a2, a3, rfl⟩ := ar4 a
    show Instr.sameBits 10000 (.agg #[Value.int .i16 a0, Value.int .i16 a1, Value.int .i16 a2, Value.int .i16 a3]) (.agg #[Value.int .i16 a0, Value.int .i16 a1, Value.int .i16 a2, Value.int .i16 a3]) = true
    simp [Instr.sameBits]

set_option maxRecDepth 100000 in
theorem eqa_S_impl_moment_73 (a b : S_impl_moment) (w : World) : (Op.equal 73 (ek_S_impl_moment a) (ek_S_impl_moment b)).run Try.prog w = .ok (decide (a = b)) w := by
  obtain ⟨aq, a_⟩ := a
  obtain ⟨a0, a1, a2, a3, rfl⟩ := ar4 a_
  obtain ⟨bq, b_⟩ := b
  obtain ⟨b0, b1, b2, b3, rfl⟩ := ar4 b_
  have q := equal_struct (w := w) (xs := #[Value.int .i64 aq, Value.int .i16 a0, Value.int .i16 a1, Value.int .i16 a2, Value.int .i16 a3]) (ys := #[Value.int .i64 bq, Value.int .i16 b0, Value.int .i16 b1, Value.int .i16 b2, Value.int .i16 b3]) Try.underlying73 (by kernel_rfl) (eqFields_step (by decide) rfl rfl (equalIn_int (d := 9998) Try.underlying2) (eqFields_step (by decide) rfl rfl (equalIn_arr4 (d := 9997) Try.underlying29 (by rfl) Try.underlying23 (by kernel_rfl) rfl rfl rfl rfl rfl rfl rfl rfl) eqFields_nil))
  refine Eq.trans q ?_
  congr 1
  rw [Bool.eq_iff_iff, decide_eq_true_eq]
  simp [S_impl_moment.mk.injEq, Ar.mk.injEq, and_assoc]
set_option maxRecDepth 100000 in
theorem key_S_impl_moment_73 : KeyOk Try.prog 73 ek_S_impl_moment where
  desc := ⟨_, Try.underlying73, .inl fun _ _ => rfl⟩
  eq := eqa_S_impl_moment_73
  check := fun a b w => by
    obtain ⟨aq, a_⟩ := a
    obtain ⟨a0, a1, a2, a3, rfl⟩ := ar4 a_
    exact check_struct2 (n := 9999) (cs := #[Value.int .i64 aq, Value.int .i16 a0, Value.int .i16 a1, Value.int .i16 a2, Value.int .i16 a3]) Try.underlying73 (by decide) (by decide) rfl rfl (check_int (n := 9998) Try.underlying2) (check_arr4 (n := 9997) Try.underlying29 Try.underlying23 rfl rfl rfl rfl rfl)
  same := fun a => by
    obtain ⟨aq, a_⟩ := a
    obtain ⟨a0, a1, a2, a3, rfl⟩ := ar4 a_
    show Instr.sameBits 10000 (.agg #[Value.int .i64 aq, Value.int .i16 a0, Value.int .i16 a1, Value.int .i16 a2, Value.int .i16 a3]) (.agg #[Value.int .i64 aq, Value.int .i16 a0, Value.int .i16 a1, Value.int .i16 a2, Value.int .i16 a3]) = true
    simp [Instr.sameBits]


end Go.Proofs.YtioefkcldfjobaaX
