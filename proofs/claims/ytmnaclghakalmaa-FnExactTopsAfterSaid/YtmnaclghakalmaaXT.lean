/- How the structs lie in memory, printed by gen.py. -/
import Derived.Test.YtmnaclghakalmaaXR
import Derived.Test.YtmnaclghakalmaaXFld
namespace Go.Proofs.YtmnaclghakalmaaX
open Go Go.RowKit
set_option linter.unusedVariables false
set_option linter.unusedSimpArgs false
def enc_S_impl_moment (x : S_impl_moment) : List Value := [Value.int .i64 x.f_time] ++ ((encA (encI .i16)) x.f_tops)
theorem len_S_impl_moment (x : S_impl_moment) : (enc_S_impl_moment x).length = 5 := by
  simp only [enc_S_impl_moment, List.length_append, List.length_cons, List.length_nil, (fkA (n := 4) (he := (fkI .i16).len) (h1 := (fkI .i16).one)).len]
  try rfl
theorem one_S_impl_moment (x : S_impl_moment) : ∀ v ∈ enc_S_impl_moment x, v.oneCell' = true := by
  intro v hv
  simp only [enc_S_impl_moment, List.mem_append, List.mem_cons, List.not_mem_nil, or_false] at hv
  repeat (first | (subst hv; rfl) | (exact (by assumption : ∀ v ∈ _, v.oneCell' = true) v hv) | exact (fkA (n := 4) (he := (fkI .i16).len) (h1 := (fkI .i16).one)).one _ v hv | (rcases hv with hv | hv))
  all_goals first | (subst hv; rfl) | exact (fkA (n := 4) (he := (fkI .i16).len) (h1 := (fkI .i16).one)).one _ v hv
def k_S_impl_moment : K S_impl_moment := K.fl 5 enc_S_impl_moment len_S_impl_moment one_S_impl_moment
theorem fk_S_impl_moment : Flat k_S_impl_moment enc_S_impl_moment := Flat.fl
def ek_S_impl_moment (x : S_impl_moment) : Value := .agg (enc_S_impl_moment x).toArray
end Go.Proofs.YtmnaclghakalmaaX
