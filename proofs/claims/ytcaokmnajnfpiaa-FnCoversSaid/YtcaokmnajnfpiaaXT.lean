/- How the structs lie in memory, printed by gen.py. -/
import Derived.Test.YtcaokmnajnfpiaaXR
import Derived.Test.YtcaokmnajnfpiaaXFld
namespace Go.Proofs.YtcaokmnajnfpiaaX
open Go Go.RowKit
set_option linter.unusedVariables false
set_option linter.unusedSimpArgs false
def enc_S_impl_Bank (x : S_impl_Bank) : List Value := [Value.int .u16 x.f_Near, Value.bool x.f_Far]
theorem len_S_impl_Bank (x : S_impl_Bank) : (enc_S_impl_Bank x).length = 2 := rfl
theorem one_S_impl_Bank (x : S_impl_Bank) : ∀ v ∈ enc_S_impl_Bank x, v.oneCell' = true := by
  intro v hv
  simp only [enc_S_impl_Bank, List.mem_append, List.mem_cons, List.not_mem_nil, or_false] at hv
  repeat (first | (subst hv; rfl) | (exact (by assumption : ∀ v ∈ _, v.oneCell' = true) v hv) | (rcases hv with hv | hv))
  all_goals first | (subst hv; rfl)
def k_S_impl_Bank : K S_impl_Bank := K.fl 2 enc_S_impl_Bank len_S_impl_Bank one_S_impl_Bank
theorem fk_S_impl_Bank : Flat k_S_impl_Bank enc_S_impl_Bank := Flat.fl
def ek_S_impl_Bank (x : S_impl_Bank) : Value := .agg (enc_S_impl_Bank x).toArray
def enc_S_impl_crossing (x : S_impl_crossing) : List Value := enc_S_impl_Bank x.f_bank ++ ([Value.int .i64 x.f_before, Value.int .u16 x.f_load, Value.int .i64 x.f_many])
theorem len_S_impl_crossing (x : S_impl_crossing) : (enc_S_impl_crossing x).length = 5 := by
  simp only [enc_S_impl_crossing, List.length_append, List.length_cons, List.length_nil, fk_S_impl_Bank.len]
  try rfl
theorem one_S_impl_crossing (x : S_impl_crossing) : ∀ v ∈ enc_S_impl_crossing x, v.oneCell' = true := by
  intro v hv
  simp only [enc_S_impl_crossing, List.mem_append, List.mem_cons, List.not_mem_nil, or_false] at hv
  repeat (first | (subst hv; rfl) | (exact (by assumption : ∀ v ∈ _, v.oneCell' = true) v hv) | exact fk_S_impl_Bank.one _ v hv | (rcases hv with hv | hv))
  all_goals first | (subst hv; rfl) | exact fk_S_impl_Bank.one _ v hv
def k_S_impl_crossing : K S_impl_crossing := K.fl 5 enc_S_impl_crossing len_S_impl_crossing one_S_impl_crossing
theorem fk_S_impl_crossing : Flat k_S_impl_crossing enc_S_impl_crossing := Flat.fl
def ek_S_impl_crossing (x : S_impl_crossing) : Value := .agg (enc_S_impl_crossing x).toArray
end Go.Proofs.YtcaokmnajnfpiaaX
