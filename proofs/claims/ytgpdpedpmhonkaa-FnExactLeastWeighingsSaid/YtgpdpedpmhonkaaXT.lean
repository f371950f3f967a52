/- How the structs lie in memory, printed by gen.py. -/
import Derived.Test.YtgpdpedpmhonkaaXR
import Derived.Test.YtgpdpedpmhonkaaXFld
namespace Go.Proofs.YtgpdpedpmhonkaaX
open Go Go.RowKit
set_option linter.unusedVariables false
set_option linter.unusedSimpArgs false
def enc_S_laws_Task (x : S_laws_Task) : List Value := [Value.int .i8 x.f_Coins, Value.int .i8 x.f_Kind, Value.bool x.f_None, Value.bool x.f_Good]
theorem len_S_laws_Task (x : S_laws_Task) : (enc_S_laws_Task x).length = 4 := rfl
theorem one_S_laws_Task (x : S_laws_Task) : ∀ v ∈ enc_S_laws_Task x, v.oneCell' = true := by
  intro v hv
  simp only [enc_S_laws_Task, List.mem_append, List.mem_cons, List.not_mem_nil, or_false] at hv
  repeat (first | (subst hv; rfl) | (exact (by assumption : ∀ v ∈ _, v.oneCell' = true) v hv) | (rcases hv with hv | hv))
  all_goals first | (subst hv; rfl)
def k_S_laws_Task : K S_laws_Task := K.fl 4 enc_S_laws_Task len_S_laws_Task one_S_laws_Task
theorem fk_S_laws_Task : Flat k_S_laws_Task enc_S_laws_Task := Flat.fl
def ek_S_laws_Task (x : S_laws_Task) : Value := .agg (enc_S_laws_Task x).toArray
def enc_S_spec_l03Known (x : S_spec_l03Known) : List Value := [Value.int .i64 x.f_open, Value.int .i64 x.f_heavy, Value.int .i64 x.f_light, Value.int .i64 x.f_none]
theorem len_S_spec_l03Known (x : S_spec_l03Known) : (enc_S_spec_l03Known x).length = 4 := rfl
theorem one_S_spec_l03Known (x : S_spec_l03Known) : ∀ v ∈ enc_S_spec_l03Known x, v.oneCell' = true := by
  intro v hv
  simp only [enc_S_spec_l03Known, List.mem_append, List.mem_cons, List.not_mem_nil, or_false] at hv
  repeat (first | (subst hv; rfl) | (exact (by assumption : ∀ v ∈ _, v.oneCell' = true) v hv) | (rcases hv with hv | hv))
  all_goals first | (subst hv; rfl)
def k_S_spec_l03Known : K S_spec_l03Known := K.fl 4 enc_S_spec_l03Known len_S_spec_l03Known one_S_spec_l03Known
theorem fk_S_spec_l03Known : Flat k_S_spec_l03Known enc_S_spec_l03Known := Flat.fl
def ek_S_spec_l03Known (x : S_spec_l03Known) : Value := .agg (enc_S_spec_l03Known x).toArray
def enc_S_impl_knowledge (x : S_impl_knowledge) : List Value := (encA (encI .i64)) x.f_many ++ ([Value.bool x.f_none])
theorem len_S_impl_knowledge (x : S_impl_knowledge) : (enc_S_impl_knowledge x).length = 5 := by
  simp only [enc_S_impl_knowledge, List.length_append, List.length_cons, List.length_nil, (fkA (n := 4) (he := (fkI .i64).len) (h1 := (fkI .i64).one)).len]
  try rfl
theorem one_S_impl_knowledge (x : S_impl_knowledge) : ∀ v ∈ enc_S_impl_knowledge x, v.oneCell' = true := by
  intro v hv
  simp only [enc_S_impl_knowledge, List.mem_append, List.mem_cons, List.not_mem_nil, or_false] at hv
  repeat (first | (subst hv; rfl) | (exact (by assumption : ∀ v ∈ _, v.oneCell' = true) v hv) | exact (fkA (n := 4) (he := (fkI .i64).len) (h1 := (fkI .i64).one)).one _ v hv | (rcases hv with hv | hv))
  all_goals first | (subst hv; rfl) | exact (fkA (n := 4) (he := (fkI .i64).len) (h1 := (fkI .i64).one)).one _ v hv
def k_S_impl_knowledge : K S_impl_knowledge := K.fl 5 enc_S_impl_knowledge len_S_impl_knowledge one_S_impl_knowledge
theorem fk_S_impl_knowledge : Flat k_S_impl_knowledge enc_S_impl_knowledge := Flat.fl
def ek_S_impl_knowledge (x : S_impl_knowledge) : Value := .agg (enc_S_impl_knowledge x).toArray
def enc_S_impl_knowledgeLeft (x : S_impl_knowledgeLeft) : List Value := enc_S_impl_knowledge x.f_k ++ ([Value.int .i64 x.f_left])
theorem len_S_impl_knowledgeLeft (x : S_impl_knowledgeLeft) : (enc_S_impl_knowledgeLeft x).length = 6 := by
  simp only [enc_S_impl_knowledgeLeft, List.length_append, List.length_cons, List.length_nil, fk_S_impl_knowledge.len]
  try rfl
theorem one_S_impl_knowledgeLeft (x : S_impl_knowledgeLeft) : ∀ v ∈ enc_S_impl_knowledgeLeft x, v.oneCell' = true := by
  intro v hv
  simp only [enc_S_impl_knowledgeLeft, List.mem_append, List.mem_cons, List.not_mem_nil, or_false] at hv
  repeat (first | (subst hv; rfl) | (exact (by assumption : ∀ v ∈ _, v.oneCell' = true) v hv) | exact fk_S_impl_knowledge.one _ v hv | (rcases hv with hv | hv))
  all_goals first | (subst hv; rfl) | exact fk_S_impl_knowledge.one _ v hv
def k_S_impl_knowledgeLeft : K S_impl_knowledgeLeft := K.fl 6 enc_S_impl_knowledgeLeft len_S_impl_knowledgeLeft one_S_impl_knowledgeLeft
theorem fk_S_impl_knowledgeLeft : Flat k_S_impl_knowledgeLeft enc_S_impl_knowledgeLeft := Flat.fl
def ek_S_impl_knowledgeLeft (x : S_impl_knowledgeLeft) : Value := .agg (enc_S_impl_knowledgeLeft x).toArray
def enc_S_impl_form (x : S_impl_form) : List Value := (encA (encI .i64)) x.f_left ++ ((encA (encI .i64)) x.f_right)
theorem len_S_impl_form (x : S_impl_form) : (enc_S_impl_form x).length = 8 := by
  simp only [enc_S_impl_form, List.length_append, List.length_cons, List.length_nil, (fkA (n := 4) (he := (fkI .i64).len) (h1 := (fkI .i64).one)).len, (fkA (n := 4) (he := (fkI .i64).len) (h1 := (fkI .i64).one)).len]
  try rfl
theorem one_S_impl_form (x : S_impl_form) : ∀ v ∈ enc_S_impl_form x, v.oneCell' = true := by
  intro v hv
  simp only [enc_S_impl_form, List.mem_append, List.mem_cons, List.not_mem_nil, or_false] at hv
  repeat (first | (subst hv; rfl) | (exact (by assumption : ∀ v ∈ _, v.oneCell' = true) v hv) | exact (fkA (n := 4) (he := (fkI .i64).len) (h1 := (fkI .i64).one)).one _ v hv | exact (fkA (n := 4) (he := (fkI .i64).len) (h1 := (fkI .i64).one)).one _ v hv | (rcases hv with hv | hv))
  all_goals first | (subst hv; rfl) | exact (fkA (n := 4) (he := (fkI .i64).len) (h1 := (fkI .i64).one)).one _ v hv | exact (fkA (n := 4) (he := (fkI .i64).len) (h1 := (fkI .i64).one)).one _ v hv
def k_S_impl_form : K S_impl_form := K.fl 8 enc_S_impl_form len_S_impl_form one_S_impl_form
theorem fk_S_impl_form : Flat k_S_impl_form enc_S_impl_form := Flat.fl
def ek_S_impl_form (x : S_impl_form) : Value := .agg (enc_S_impl_form x).toArray
end Go.Proofs.YtgpdpedpmhonkaaX
