/- Contracts, printed by gen.py. -/
import Derived.Test.YtcaokmnajnfpiaaXT
import Derived.Test.YtcaokmnajnfpiaaProg
import Derived.Test.YtcaokmnajnfpiaaXRowR
import Derived.Test.YtcaokmnajnfpiaaXSq
import Derived.Test.YtcaokmnajnfpiaaXSeg
import Derived.Test.YtcaokmnajnfpiaaXKey
namespace Go.Proofs.YtcaokmnajnfpiaaX
open Go Go.RowKit Go.Proofs
set_option linter.unusedVariables false
set_option linter.unusedSimpArgs false
theorem eq_S_impl_Bank_70_g : Try.prog.eqGuardType Try.prog.depth 70 = false := by kernel_rfl
set_option maxRecDepth 100000 in
theorem eq_S_impl_Bank_70 (a b : S_impl_Bank) (w : World) : (Op.equal 70 (.agg (enc_S_impl_Bank a).toArray) (.agg (enc_S_impl_Bank b).toArray)).run Try.prog w = .ok (decide (a = b)) w := by
  have q := equal_struct (w := w) (xs := (enc_S_impl_Bank a).toArray) (ys := (enc_S_impl_Bank b).toArray) Try.underlying70 (by kernel_rfl) (eqFields_step (by decide) rfl rfl (equalIn_int (d := 9998) Try.underlying31) (eqFields_step (by decide) rfl rfl (equalIn_bool (d := 9998) Try.underlying4) eqFields_nil))
  rw [q]
  congr 1
  rw [Bool.eq_iff_iff, decide_eq_true_eq]
  cases a; cases b
  simp [S_impl_Bank.mk.injEq]

set_option maxRecDepth 100000 in
theorem key_S_impl_Bank_70 : KeyOk Try.prog 70 ek_S_impl_Bank where
  desc := ⟨_, Try.underlying70, .inl fun _ _ => rfl⟩
  eq := fun a b w => eq_S_impl_Bank_70 a b w
  check := fun a b w => check_struct2 (n := 9999) Try.underlying70 (by decide) (by decide) rfl rfl (check_int (n := 9998) Try.underlying31) (check_bool (n := 9998) Try.underlying4)
  same := fun a => by simp [ek_S_impl_Bank, enc_S_impl_Bank, Instr.sameBits]


end Go.Proofs.YtcaokmnajnfpiaaX
