/- How the structs lie in memory, printed by gen.py. -/
import Derived.Test.YtjagkhjbbdfkaaaXR
import Derived.Test.YtjagkhjbbdfkaaaXFld
namespace Go.Proofs.YtjagkhjbbdfkaaaX
open Go Go.RowKit
set_option linter.unusedVariables false
set_option linter.unusedSimpArgs false
def enc_S_impl_balance (x : S_impl_balance) : List Value := [Value.int .i64 x.f_ways, Value.int .i64 x.f_least]
theorem len_S_impl_balance (x : S_impl_balance) : (enc_S_impl_balance x).length = 2 := rfl
theorem one_S_impl_balance (x : S_impl_balance) : ∀ v ∈ enc_S_impl_balance x, v.oneCell' = true := by
  intro v hv
  simp only [enc_S_impl_balance, List.mem_append, List.mem_cons, List.not_mem_nil, or_false] at hv
  repeat (first | (subst hv; rfl) | (exact (by assumption : ∀ v ∈ _, v.oneCell' = true) v hv) | (rcases hv with hv | hv))
  all_goals first | (subst hv; rfl)
def k_S_impl_balance : K S_impl_balance := K.fl 2 enc_S_impl_balance len_S_impl_balance one_S_impl_balance
theorem fk_S_impl_balance : Flat k_S_impl_balance enc_S_impl_balance := Flat.fl
def ek_S_impl_balance (x : S_impl_balance) : Value := .agg (enc_S_impl_balance x).toArray
end Go.Proofs.YtjagkhjbbdfkaaaX
