/- Maps without removals; numbers that wrap. -/
import Derived.Test.YtioefkcldfjobaaYR
namespace Go.Proofs.YtioefkcldfjobaaX
open Go
set_option linter.unusedVariables false
set_option linter.unusedSimpArgs false
theorem i64w_add (x y : Int) : i64w (i64w x + y) = i64w (x + y) := by
  simp [IntKind.wrap, IntKind.bits, IntKind.signed]
  omega
section
variable {κ ν : Type} [DecidableEq κ]
theorem mIdx_key {kv : List (κ × ν)} {k : κ} {i : Nat} (h : mIdx kv k = some i) : ∃ hi : i < kv.length, kv[i].1 = k := by
  obtain ⟨hi, he, _⟩ := List.findIdx?_eq_some_iff_getElem.1 h
  exact ⟨hi, (of_decide_eq_true he).symm⟩
theorem mIdx_no {kv : List (κ × ν)} {k : κ} (h : mIdx kv k = none) : ∀ p ∈ kv, k ≠ p.1 := by
  intro p hp e
  have := List.findIdx?_eq_none_iff.1 h p hp
  simp [e] at this
theorem mSet_keys (kv : List (κ × ν)) (k : κ) (v : ν) : ((mSet kv k v).map (·.1) = kv.map (·.1)) ∨ ((mSet kv k v).map (·.1) = kv.map (·.1) ++ [k] ∧ k ∉ kv.map (·.1)) := by
  unfold mSet
  cases h : mIdx kv k with
  | some i =>
    left
    obtain ⟨hi, he⟩ := mIdx_key h
    simp only [List.map_set]
    rw [← he]
    refine List.ext_getElem (by simp) fun j h1 h2 => ?_
    by_cases c : i = j
    · subst c; simp
    · simp [List.getElem_set, c]
  | none =>
    right
    refine ⟨by simp, fun hm => ?_⟩
    obtain ⟨p, hp, he⟩ := List.mem_map.1 hm
    exact mIdx_no h p hp he.symm
theorem mSet_nodup {kv : List (κ × ν)} (h : (kv.map (·.1)).Nodup) (k : κ) (v : ν) : ((mSet kv k v).map (·.1)).Nodup := by
  rcases mSet_keys kv k v with e | ⟨e, hn⟩
  · rw [e]; exact h
  · rw [e, List.nodup_append]
    refine ⟨h, by simp, fun a ha b hb q => ?_⟩
    rw [List.mem_singleton] at hb
    subst hb q
    exact hn ha
theorem mSet_len (kv : List (κ × ν)) (k : κ) (v : ν) : (mSet kv k v).length ≤ kv.length + 1 := by
  unfold mSet
  cases mIdx kv k <;> simp
theorem mSet_in {kv : List (κ × ν)} {k : κ} {v : ν} {x : κ} (h : x ∈ (mSet kv k v).map (·.1)) : x ∈ kv.map (·.1) ∨ x = k := by
  rcases mSet_keys kv k v with e | ⟨e, _⟩
  · rw [e] at h; exact .inl h
  · rw [e, List.mem_append, List.mem_singleton] at h; exact h
theorem mGet_at {kv : List (κ × ν)} (hn : (kv.map (·.1)).Nodup) {p : κ × ν} (hp : p ∈ kv) (z : ν) : mGet kv p.1 z = p.2 := by
  unfold mGet
  cases h : mIdx kv p.1 with
  | none => exact absurd rfl (mIdx_no h p hp)
  | some i =>
    obtain ⟨hi, he⟩ := mIdx_key h
    obtain ⟨j, hj, rfl⟩ := List.mem_iff_getElem.1 hp
    have : i = j := by
      have := (List.nodup_iff_pairwise_ne.1 hn)
      have h1 := List.getElem?_eq_getElem (l := kv.map (·.1)) (i := i) (by simpa using hi)
      by_cases c : i = j
      · exact c
      · exfalso
        have hh := List.pairwise_iff_getElem.1 this
        rcases Nat.lt_or_gt_of_ne c with c | c
        · exact hh i j (by simpa using hi) (by simpa using hj) c (by simpa using he)
        · exact hh j i (by simpa using hj) (by simpa using hi) c (by simpa using he.symm)
    subst this
    simp [List.getElem?_eq_getElem hi]
theorem mGet_no {kv : List (κ × ν)} {k : κ} (h : k ∉ kv.map (·.1)) (z : ν) : mGet kv k z = z := by
  unfold mGet
  cases e : mIdx kv k with
  | none => rfl
  | some i =>
    obtain ⟨hi, he⟩ := mIdx_key e
    exact absurd (List.mem_map.2 ⟨kv[i], List.getElem_mem hi, he⟩) h
theorem mGet_set {kv : List (κ × ν)} (hn : (kv.map (·.1)).Nodup) (k : κ) (v : ν) (b : κ) (z : ν) : mGet (mSet kv k v) b z = if b = k then v else mGet kv b z := by
  have hn2 := mSet_nodup hn k v
  by_cases c : b = k
  · subst c
    rw [if_pos rfl]
    have : (b, v) ∈ mSet kv b v := by
      unfold mSet
      cases h : mIdx kv b with
      | some i => obtain ⟨hi, _⟩ := mIdx_key h; exact List.mem_iff_getElem.2 ⟨i, by simpa using hi, by simp⟩
      | none => simp
    exact mGet_at hn2 this z
  · rw [if_neg c]
    by_cases hb : b ∈ kv.map (·.1)
    · obtain ⟨p, hp, rfl⟩ := List.mem_map.1 hb
      have : p ∈ mSet kv k v := by
        unfold mSet
        cases h : mIdx kv k with
        | some i =>
          obtain ⟨hi, he⟩ := mIdx_key h
          obtain ⟨j, hj, rfl⟩ := List.mem_iff_getElem.1 hp
          refine List.mem_iff_getElem.2 ⟨j, by simpa using hj, ?_⟩
          have : ¬ i = j := fun e => c (by subst e; exact he)
          simp [List.getElem_set, this]
        | none => exact List.mem_append_left _ hp
      rw [mGet_at hn2 this, mGet_at hn hp]
    · rw [mGet_no hb, mGet_no fun h => (mSet_in h).elim hb c]
end
end Go.Proofs.YtioefkcldfjobaaX
