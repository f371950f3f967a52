/- How the structs lie in memory, printed by gen.py. -/
import Derived.Test.YtcocgeodfbiehaaXR
import Derived.Test.YtcocgeodfbiehaaXFld
namespace Go.Proofs.YtcocgeodfbiehaaX
open Go Go.RowKit
set_option linter.unusedVariables false
set_option linter.unusedSimpArgs false
def enc_S_laws_Task (x : S_laws_Task) : List Value := [Value.int .i8 x.f_Coins, Value.int .i8 x.f_Kind, Value.bool x.f_None, Value.bool x.f_Good]
theorem len_S_laws_Task (x : S_laws_Task) : (enc_S_laws_Task x).length = 4 := rfl
theorem one_S_laws_Task (x : S_laws_Task) : ∀ v ∈ enc_S_laws_Task x, v.oneCell' = true := by
  intro v hv
  simp only [enc_S_laws_Task, List.mem_append, List.mem_cons, List.not_mem_nil, or_false] at hv
  repeat (first | (subst hv; rfl) | (exact (by assumption : ∀ v ∈ _, v.oneCell' = true) v hv) | (rcases hv with hv | hv))
  all_goals first | (subst hv; rfl)
def k_S_laws_Task : K S_laws_Task := K.fl 4 enc_S_laws_Task len_S_laws_Task one_S_laws_Task
theorem fk_S_laws_Task : Flat k_S_laws_Task enc_S_laws_Task := Flat.fl
def ek_S_laws_Task (x : S_laws_Task) : Value := .agg (enc_S_laws_Task x).toArray
def enc_S_impl_Case (x : S_impl_Case) : List Value := [Value.int .i8 x.f_Coin, Value.bool x.f_Heavy]
theorem len_S_impl_Case (x : S_impl_Case) : (enc_S_impl_Case x).length = 2 := rfl
theorem one_S_impl_Case (x : S_impl_Case) : ∀ v ∈ enc_S_impl_Case x, v.oneCell' = true := by
  intro v hv
  simp only [enc_S_impl_Case, List.mem_append, List.mem_cons, List.not_mem_nil, or_false] at hv
  repeat (first | (subst hv; rfl) | (exact (by assumption : ∀ v ∈ _, v.oneCell' = true) v hv) | (rcases hv with hv | hv))
  all_goals first | (subst hv; rfl)
def k_S_impl_Case : K S_impl_Case := K.fl 2 enc_S_impl_Case len_S_impl_Case one_S_impl_Case
theorem fk_S_impl_Case : Flat k_S_impl_Case enc_S_impl_Case := Flat.fl
def ek_S_impl_Case (x : S_impl_Case) : Value := .agg (enc_S_impl_Case x).toArray
end Go.Proofs.YtcocgeodfbiehaaX
