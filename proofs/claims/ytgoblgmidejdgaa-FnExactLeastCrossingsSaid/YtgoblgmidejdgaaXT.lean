/- How the structs lie in memory, printed by gen.py. -/
import Derived.Test.YtgoblgmidejdgaaXR
import Derived.Test.YtgoblgmidejdgaaXLay
namespace Go.Proofs.YtgoblgmidejdgaaX
open Go Go.RowKit
set_option linter.unusedVariables false
set_option linter.unusedSimpArgs false
def enc_S_impl_Bank (x : S_impl_Bank) : List Value := [Value.int .u16 x.f_Near, Value.bool x.f_Far]
theorem len_S_impl_Bank (x : S_impl_Bank) : (enc_S_impl_Bank x).length = 2 := rfl
theorem one_S_impl_Bank (x : S_impl_Bank) : ∀ v ∈ enc_S_impl_Bank x, v.oneCell' = true := by
  intro v hv
  simp only [enc_S_impl_Bank, List.mem_append, List.mem_cons, List.not_mem_nil, or_false] at hv
  repeat (first | (subst hv; rfl) | (exact (by assumption : ∀ v ∈ _, v.oneCell' = true) v hv) | (rcases hv with hv | hv))
  all_goals first | (subst hv; rfl)
def k_S_impl_Bank : K S_impl_Bank := K.fl 2 enc_S_impl_Bank len_S_impl_Bank one_S_impl_Bank
theorem fk_S_impl_Bank : Flat k_S_impl_Bank enc_S_impl_Bank := Flat.fl
end Go.Proofs.YtgoblgmidejdgaaX
