/- How the structs lie in memory, printed by gen.py. -/
import Derived.Test.YtioefkcldfjobaaXR
import Derived.Test.YtioefkcldfjobaaXFld
namespace Go.Proofs.YtioefkcldfjobaaX
open Go Go.RowKit
set_option linter.unusedVariables false
set_option linter.unusedSimpArgs false
def enc_S_impl_moment (x : S_impl_moment) : List Value := [Value.int .i64 x.f_time] ++ ((encA (encI .i16)) x.f_tops)
theorem len_S_impl_moment (x : S_impl_moment) : (enc_S_impl_moment x).length = 5 := by
  simp only [enc_S_impl_moment, List.length_append, List.length_cons, List.length_nil, (fkA (n := 4) (he := (fkI .i16).len) (h1 := (fkI .i16).one)).len]
  try rfl
theorem one_S_impl_moment (x : S_impl_moment) : ∀ v ∈ enc_S_impl_moment x, v.oneCell' = true := by
  intro v hv
  simp only [enc_S_impl_moment, List.mem_append, List.mem_cons, List.not_mem_nil, or_false] at hv
  repeat (first | (subst hv; rfl) | (exact (by assumption : ∀ v ∈ _, v.oneCell' = true) v hv) | exact (fkA (n := 4) (he := (fkI .i16).len) (h1 := (fkI .i16).one)).one _ v hv | (rcases hv with hv | hv))
  all_goals first | (subst hv; rfl) | exact (fkA (n := 4) (he := (fkI .i16).len) (h1 := (fkI .i16).one)).one _ v hv
def k_S_impl_moment : K S_impl_moment := K.fl 5 enc_S_impl_moment len_S_impl_moment one_S_impl_moment
theorem fk_S_impl_moment : Flat k_S_impl_moment enc_S_impl_moment := Flat.fl
def ek_S_impl_moment (x : S_impl_moment) : Value := .agg (enc_S_impl_moment x).toArray
def enc_S_spec_l07Node (x : S_spec_l07Node) : List Value := [Value.int .i64 x.f_time] ++ ((encA (encI .i16)) x.f_tops ++ ([Value.int .i64 x.f_from, Value.int .u8 x.f_set, Value.bool x.f_first]))
theorem len_S_spec_l07Node (x : S_spec_l07Node) : (enc_S_spec_l07Node x).length = 8 := by
  simp only [enc_S_spec_l07Node, List.length_append, List.length_cons, List.length_nil, (fkA (n := 4) (he := (fkI .i16).len) (h1 := (fkI .i16).one)).len]
  try rfl
theorem one_S_spec_l07Node (x : S_spec_l07Node) : ∀ v ∈ enc_S_spec_l07Node x, v.oneCell' = true := by
  intro v hv
  simp only [enc_S_spec_l07Node, List.mem_append, List.mem_cons, List.not_mem_nil, or_false] at hv
  repeat (first | (subst hv; rfl) | (exact (by assumption : ∀ v ∈ _, v.oneCell' = true) v hv) | exact (fkA (n := 4) (he := (fkI .i16).len) (h1 := (fkI .i16).one)).one _ v hv | (rcases hv with hv | hv))
  all_goals first | (subst hv; rfl) | exact (fkA (n := 4) (he := (fkI .i16).len) (h1 := (fkI .i16).one)).one _ v hv
def k_S_spec_l07Node : K S_spec_l07Node := K.fl 8 enc_S_spec_l07Node len_S_spec_l07Node one_S_spec_l07Node
theorem fk_S_spec_l07Node : Flat k_S_spec_l07Node enc_S_spec_l07Node := Flat.fl
def ek_S_spec_l07Node (x : S_spec_l07Node) : Value := .agg (enc_S_spec_l07Node x).toArray
def enc_S_impl_step (x : S_impl_step) : List Value := enc_S_impl_moment x.f_moment ++ ([Value.int .i64 x.f_before, Value.int .u8 x.f_set])
theorem len_S_impl_step (x : S_impl_step) : (enc_S_impl_step x).length = 7 := by
  simp only [enc_S_impl_step, List.length_append, List.length_cons, List.length_nil, fk_S_impl_moment.len]
  try rfl
theorem one_S_impl_step (x : S_impl_step) : ∀ v ∈ enc_S_impl_step x, v.oneCell' = true := by
  intro v hv
  simp only [enc_S_impl_step, List.mem_append, List.mem_cons, List.not_mem_nil, or_false] at hv
  repeat (first | (subst hv; rfl) | (exact (by assumption : ∀ v ∈ _, v.oneCell' = true) v hv) | exact fk_S_impl_moment.one _ v hv | (rcases hv with hv | hv))
  all_goals first | (subst hv; rfl) | exact fk_S_impl_moment.one _ v hv
def k_S_impl_step : K S_impl_step := K.fl 7 enc_S_impl_step len_S_impl_step one_S_impl_step
theorem fk_S_impl_step : Flat k_S_impl_step enc_S_impl_step := Flat.fl
def ek_S_impl_step (x : S_impl_step) : Value := .agg (enc_S_impl_step x).toArray
end Go.Proofs.YtioefkcldfjobaaX
