/- How the structs lie in memory, printed by gen.py. -/
import Derived.Test.YtfnfoecocicigaaXR
import Derived.Test.YtfnfoecocicigaaXFld
namespace Go.Proofs.YtfnfoecocicigaaX
open Go Go.RowKit
set_option linter.unusedVariables false
set_option linter.unusedSimpArgs false
def enc_S_impl_stateLeft (x : S_impl_stateLeft) : List Value := (encA (encI .i64)) x.f_x ++ ([Value.int .i64 x.f_left])
theorem len_S_impl_stateLeft (x : S_impl_stateLeft) : (enc_S_impl_stateLeft x).length = 5 := by
  simp only [enc_S_impl_stateLeft, List.length_append, List.length_cons, List.length_nil, (fkA (n := 4) (he := (fkI .i64).len) (h1 := (fkI .i64).one)).len]
  try rfl
theorem one_S_impl_stateLeft (x : S_impl_stateLeft) : ∀ v ∈ enc_S_impl_stateLeft x, v.oneCell' = true := by
  intro v hv
  simp only [enc_S_impl_stateLeft, List.mem_append, List.mem_cons, List.not_mem_nil, or_false] at hv
  repeat (first | (subst hv; rfl) | (exact (by assumption : ∀ v ∈ _, v.oneCell' = true) v hv) | exact (fkA (n := 4) (he := (fkI .i64).len) (h1 := (fkI .i64).one)).one _ v hv | (rcases hv with hv | hv))
  all_goals first | (subst hv; rfl) | exact (fkA (n := 4) (he := (fkI .i64).len) (h1 := (fkI .i64).one)).one _ v hv
def k_S_impl_stateLeft : K S_impl_stateLeft := K.fl 5 enc_S_impl_stateLeft len_S_impl_stateLeft one_S_impl_stateLeft
theorem fk_S_impl_stateLeft : Flat k_S_impl_stateLeft enc_S_impl_stateLeft := Flat.fl
def ek_S_impl_stateLeft (x : S_impl_stateLeft) : Value := .agg (enc_S_impl_stateLeft x).toArray
end Go.Proofs.YtfnfoecocicigaaX
