/- How the structs lie in memory, printed by gen.py. -/
import Derived.Test.YtpbkenbmjgchkaaXR
import Derived.Test.YtpbkenbmjgchkaaXFld
namespace Go.Proofs.YtpbkenbmjgchkaaX
open Go Go.RowKit
set_option linter.unusedVariables false
set_option linter.unusedSimpArgs false
def enc_S_impl_Ask (x : S_impl_Ask) : List Value := [Value.int .u64 x.f_Set, Value.bool x.f_Yes]
theorem len_S_impl_Ask (x : S_impl_Ask) : (enc_S_impl_Ask x).length = 2 := rfl
theorem one_S_impl_Ask (x : S_impl_Ask) : ∀ v ∈ enc_S_impl_Ask x, v.oneCell' = true := by
  intro v hv
  simp only [enc_S_impl_Ask, List.mem_append, List.mem_cons, List.not_mem_nil, or_false] at hv
  repeat (first | (subst hv; rfl) | (exact (by assumption : ∀ v ∈ _, v.oneCell' = true) v hv) | (rcases hv with hv | hv))
  all_goals first | (subst hv; rfl)
def k_S_impl_Ask : K S_impl_Ask := K.fl 2 enc_S_impl_Ask len_S_impl_Ask one_S_impl_Ask
theorem fk_S_impl_Ask : Flat k_S_impl_Ask enc_S_impl_Ask := Flat.fl
def ek_S_impl_Ask (x : S_impl_Ask) : Value := .agg (enc_S_impl_Ask x).toArray
end Go.Proofs.YtpbkenbmjgchkaaX
