/- Contracts, printed by gen.py. -/
import Derived.Test.YtmnaclghakalmaaXT
import Derived.Test.YtmnaclghakalmaaProg
import Derived.Test.YtmnaclghakalmaaXRowR
import Derived.Test.YtmnaclghakalmaaXSq
import Derived.Test.YtmnaclghakalmaaXSeg
import Derived.Test.YtmnaclghakalmaaXKey
import Derived.Test.YtmnaclghakalmaaXIter
import Derived.Test.YtmnaclghakalmaaXRow2
import Derived.Test.YtmnaclghakalmaaXEla
import Derived.Test.YtmnaclghakalmaaTCX
namespace Go.Proofs.YtmnaclghakalmaaX
open Go Go.RowKit Go.Proofs
set_option linter.unusedVariables false
set_option linter.unusedSimpArgs false
theorem eq_ar4_30_g : Try.prog.eqGuardType Try.prog.depth 30 = false := by kernel_rfl
set_option maxRecDepth 100000 in
theorem eq_ar4_30 (a b : Ar Int 4) (w : World) : (Op.equal 30 (.agg (encA (encI .i16) a).toArray) (.agg (encA (encI .i16) b).toArray)).run Try.prog w = .ok (decide (a = b)) w := by
  obtain ⟨a0, a1, a2, a3, rfl⟩ := ar4 a
  obtain ⟨b0, b1, b2, b3, rfl⟩ := ar4 b
  have q := equalIn_arr4 (w := w) (d := 9998) (xs := #[Value.int .i16 a0, Value.int .i16 a1, Value.int .i16 a2, Value.int .i16 a3]) (ys := #[Value.int .i16 b0, Value.int .i16 b1, Value.int .i16 b2, Value.int .i16 b3]) Try.underlying30 (by rfl) Try.underlying23 (by kernel_rfl) rfl rfl rfl rfl rfl rfl rfl rfl
  refine Eq.trans q ?_
  congr 1
  rw [Bool.eq_iff_iff, decide_eq_true_eq]
  simp [Ar.mk.injEq, and_assoc]

set_option maxRecDepth 100000 in
theorem key_ar4_30 : KeyOk Try.prog 30 (ekA (n := 4) .i16) where
  desc := ⟨_, Try.underlying30, .inl fun _ _ => rfl⟩
  eq := fun a b w => eq_ar4_30 a b w
  check := fun a b w => by
    obtain ⟨a0, a1, a2, a3, rfl⟩ := ar4 a
    exact check_arr4 (n := 9998) Try.underlying30 Try.underlying23 rfl rfl rfl rfl rfl
  same := fun a => by
    obtain ⟨a0, a1, a2, a3, rfl⟩ := ar4 a
    show Instr.sameBits 10000 (.agg #[Value.int .i16 a0, Value.int .i16 a1, Value.int .i16 a2, Value.int .i16 a3]) (.agg #[Value.int .i16 a0, Value.int .i16 a1, Value.int .i16 a2, Value.int .i16 a3]) = true
    simp [Instr.sameBits]


end Go.Proofs.YtmnaclghakalmaaX
