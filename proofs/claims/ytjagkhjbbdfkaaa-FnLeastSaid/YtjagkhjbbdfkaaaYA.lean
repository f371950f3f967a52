/- The lesser of two; tables; maps. -/
import Derived.Test.YtjagkhjbbdfkaaaXR
import Derived.Test.YtjagkhjbbdfkaaaXWalk
namespace Go.Proofs.YtjagkhjbbdfkaaaX
open Go
set_option linter.unusedVariables false
set_option linter.unusedSimpArgs false
abbrev Tb := Nat → Nat → Option Nat
/-- The lesser one, if there is any. -/
def om : Option Nat → Option Nat → Option Nat
  | none, y => y
  | some a, none => some a
  | some a, some b => some (min a b)
theorem om_none (x : Option Nat) : om x none = x := by cases x <;> rfl
theorem om_assoc (x y z : Option Nat) : om (om x y) z = om x (om y z) := by
  cases x <;> cases y <;> cases z <;> simp [om, Nat.min_assoc]
theorem om_comm (x y : Option Nat) : om x y = om y x := by
  cases x <;> cases y <;> simp [om, Nat.min_comm]
/-- The least of those that count. -/
def Om (don : Nat → Bool) (c : Nat → Option Nat) : Nat → Option Nat
  | 0 => none
  | m + 1 => om (Om don c m) (if don m = true then c m else none)
def tt : Nat → Bool := fun _ => true
theorem Om_more {don : Nat → Bool} {c : Nat → Option Nat} {i : Nat} (h : don i = false) : ∀ m, Om (fun k => don k || (k == i)) c m = om (Om don c m) (if i < m then c i else none)
  | 0 => by simp [Om, om]
  | m + 1 => by
    rw [Om, Om, Om_more h m]
    by_cases e : m = i
    · subst e
      simp [h, om_none]
    · have : (m == i) = false := by simpa using e
      simp only [this, Bool.or_false]
      by_cases c1 : i < m
      · rw [if_pos c1, if_pos (show i < m + 1 by omega), om_assoc, om_assoc, om_comm (c i)]
      · rw [if_neg c1, if_neg (show ¬ i < m + 1 by omega), om_none, om_none]
theorem Om_all {don : Nat → Bool} {c : Nat → Option Nat} : ∀ {m : Nat}, (∀ i, i < m → don i = false → c i = none) → Om don c m = Om tt c m
  | 0, _ => rfl
  | m + 1, h => by
    rw [Om, Om, Om_all fun i hi hd => h i (by omega) hd]
    cases e : don m with
    | true => simp [tt]
    | false => rw [if_neg Bool.false_ne_true, h m (by omega) e]; simp [tt]
theorem Om_no {c : Nat → Option Nat} : ∀ m, Om (fun _ => false) c m = none
  | 0 => rfl
  | m + 1 => by rw [Om, Om_no m]; rfl
theorem Om_step {c : Nat → Option Nat} (m : Nat) : Om tt c (m + 1) = om (Om tt c m) (c m) := by simp [Om, tt]
theorem Om_congr {don : Nat → Bool} {c d : Nat → Option Nat} : ∀ {m : Nat}, (∀ i, i < m → c i = d i) → Om don c m = Om don d m
  | 0, _ => rfl
  | m + 1, h => by rw [Om, Om, Om_congr fun i hi => h i (by omega), h m (by omega)]
theorem Om_nil {don : Nat → Bool} {c : Nat → Option Nat} : ∀ {m : Nat}, (∀ i, i < m → c i = none) → Om don c m = none
  | 0, _ => rfl
  | m + 1, h => by rw [Om, Om_nil fun i hi => h i (by omega), h m (by omega)]; simp [om]
theorem om_le {x y : Option Nat} {b : Nat} (hx : ∀ v, x = some v → v ≤ b) (hy : ∀ v, y = some v → v ≤ b) : ∀ v, om x y = some v → v ≤ b := by
  intro v h
  cases x with
  | none => exact hy v h
  | some a =>
    have := hx a rfl
    cases y with
    | none => simp [om] at h; omega
    | some c => simp [om] at h; omega
/-- A number that may be none, as the table has it. -/
def vi : Option Nat → Int
  | none => -1
  | some v => (v : Int)
theorem rdL_stL {α : Type} {L : List α} {i j : Nat} {v z : α} : rdL (stL L (i : Int) v) (j : Int) z = if i = j ∧ i < L.length then v else rdL L (j : Int) z := by
  simp only [rdL, stL, Int.toNat_natCast, List.getD, List.getElem?_set]
  by_cases e : i = j
  · subst e
    by_cases c : i < L.length
    · simp [c]
    · simp [c]
  · simp [e]
theorem len_stL {α : Type} {L : List α} {i : Int} {v : α} : (stL L i v).length = L.length := by simp [stL]
/-- A table that tells F. -/
structure RepT (n T : Nat) (L : List (List Int)) (F : Tb) : Prop where
  len : L.length = T + 1
  row : ∀ t : Nat, t ≤ T → (rdL L (t : Int) []).length = n
  val : ∀ t : Nat, t ≤ T → ∀ k : Nat, k < n → rdL (rdL L (t : Int) []) (k : Int) 0 = vi (F t k)
theorem RepT.set {n T : Nat} {L : List (List Int)} {F F' : Tb} (r : RepT n T L F) {t k : Nat} (ht : t ≤ T) (hk : k < n) {x : Int} {o : Option Nat} (hx : x = vi o) (hF : ∀ t2 k2, F' t2 k2 = if t2 = t ∧ k2 = k then o else F t2 k2) :
    RepT n T (stL L (t : Int) (stL (rdL L (t : Int) []) (k : Int) x)) F' := by
  have hl := r.len
  refine ⟨by rw [len_stL]; exact hl, fun t2 h2 => ?_, fun t2 h2 k2 g2 => ?_⟩
  · rw [rdL_stL]
    by_cases e : t = t2
    · rw [if_pos ⟨e, by omega⟩, len_stL]; exact r.row t ht
    · rw [if_neg (fun g => e g.1)]; exact r.row t2 h2
  · rw [rdL_stL, hF]
    by_cases e : t = t2
    · subst e
      rw [if_pos ⟨rfl, by omega⟩, rdL_stL, r.row t ht]
      by_cases e2 : k = k2
      · subst e2
        rw [if_pos ⟨rfl, hk⟩, if_pos ⟨rfl, rfl⟩, hx]
      · rw [if_neg (fun g => e2 g.1), if_neg (fun g => e2 g.2.symm)]
        exact r.val t ht k2 g2
    · rw [if_neg (fun g => e g.1), if_neg (fun g => e g.1.symm)]
      exact r.val t2 h2 k2 g2
section
variable {κ ν : Type} [DecidableEq κ]
theorem mIdx_key {kv : List (κ × ν)} {k : κ} {i : Nat} (h : mIdx kv k = some i) : ∃ hi : i < kv.length, kv[i].1 = k := by
  obtain ⟨hi, he, _⟩ := List.findIdx?_eq_some_iff_getElem.1 h
  exact ⟨hi, (of_decide_eq_true he).symm⟩
theorem mIdx_no {kv : List (κ × ν)} {k : κ} (h : mIdx kv k = none) : ∀ p ∈ kv, k ≠ p.1 := by
  intro p hp e
  have := List.findIdx?_eq_none_iff.1 h p hp
  simp [e] at this
theorem mSet_keys (kv : List (κ × ν)) (k : κ) (v : ν) : ((mSet kv k v).map (·.1) = kv.map (·.1)) ∨ ((mSet kv k v).map (·.1) = kv.map (·.1) ++ [k] ∧ k ∉ kv.map (·.1)) := by
  unfold mSet
  cases h : mIdx kv k with
  | some i =>
    left
    obtain ⟨hi, he⟩ := mIdx_key h
    simp only [List.map_set]
    rw [← he]
    refine List.ext_getElem (by simp) fun j h1 h2 => ?_
    by_cases c : i = j
    · subst c; simp
    · simp [List.getElem_set, c]
  | none =>
    right
    refine ⟨by simp, fun hm => ?_⟩
    obtain ⟨p, hp, he⟩ := List.mem_map.1 hm
    exact mIdx_no h p hp he.symm
theorem mSet_nodup {kv : List (κ × ν)} (h : (kv.map (·.1)).Nodup) (k : κ) (v : ν) : ((mSet kv k v).map (·.1)).Nodup := by
  rcases mSet_keys kv k v with e | ⟨e, hn⟩
  · rw [e]; exact h
  · rw [e, List.nodup_append]
    refine ⟨h, by simp, fun a ha b hb q => ?_⟩
    rw [List.mem_singleton] at hb
    subst hb q
    exact hn ha
theorem mSet_len (kv : List (κ × ν)) (k : κ) (v : ν) : (mSet kv k v).length ≤ kv.length + 1 := by
  unfold mSet
  cases mIdx kv k <;> simp
theorem mSet_in {kv : List (κ × ν)} {k : κ} {v : ν} {x : κ} (h : x ∈ (mSet kv k v).map (·.1)) : x ∈ kv.map (·.1) ∨ x = k := by
  rcases mSet_keys kv k v with e | ⟨e, _⟩
  · rw [e] at h; exact .inl h
  · rw [e, List.mem_append, List.mem_singleton] at h; exact h
theorem mGet_at {kv : List (κ × ν)} (hn : (kv.map (·.1)).Nodup) {p : κ × ν} (hp : p ∈ kv) (z : ν) : mGet kv p.1 z = p.2 := by
  unfold mGet
  cases h : mIdx kv p.1 with
  | none => exact absurd rfl (mIdx_no h p hp)
  | some i =>
    obtain ⟨hi, he⟩ := mIdx_key h
    obtain ⟨j, hj, rfl⟩ := List.mem_iff_getElem.1 hp
    have : i = j := by
      have := (List.nodup_iff_pairwise_ne.1 hn)
      have h1 := List.getElem?_eq_getElem (l := kv.map (·.1)) (i := i) (by simpa using hi)
      by_cases c : i = j
      · exact c
      · exfalso
        have hh := List.pairwise_iff_getElem.1 this
        rcases Nat.lt_or_gt_of_ne c with c | c
        · exact hh i j (by simpa using hi) (by simpa using hj) c (by simpa using he)
        · exact hh j i (by simpa using hj) (by simpa using hi) c (by simpa using he.symm)
    subst this
    simp [List.getElem?_eq_getElem hi]
theorem mGet_no {kv : List (κ × ν)} {k : κ} (h : k ∉ kv.map (·.1)) (z : ν) : mGet kv k z = z := by
  unfold mGet
  cases e : mIdx kv k with
  | none => rfl
  | some i =>
    obtain ⟨hi, he⟩ := mIdx_key e
    exact absurd (List.mem_map.2 ⟨kv[i], List.getElem_mem hi, he⟩) h
theorem mGet_set {kv : List (κ × ν)} (hn : (kv.map (·.1)).Nodup) (k : κ) (v : ν) (b : κ) (z : ν) : mGet (mSet kv k v) b z = if b = k then v else mGet kv b z := by
  have hn2 := mSet_nodup hn k v
  by_cases c : b = k
  · subst c
    rw [if_pos rfl]
    have : (b, v) ∈ mSet kv b v := by
      unfold mSet
      cases h : mIdx kv b with
      | some i => obtain ⟨hi, _⟩ := mIdx_key h; exact List.mem_iff_getElem.2 ⟨i, by simpa using hi, by simp⟩
      | none => simp
    exact mGet_at hn2 this z
  · rw [if_neg c]
    by_cases hb : b ∈ kv.map (·.1)
    · obtain ⟨p, hp, rfl⟩ := List.mem_map.1 hb
      have : p ∈ mSet kv k v := by
        unfold mSet
        cases h : mIdx kv k with
        | some i =>
          obtain ⟨hi, he⟩ := mIdx_key h
          obtain ⟨j, hj, rfl⟩ := List.mem_iff_getElem.1 hp
          refine List.mem_iff_getElem.2 ⟨j, by simpa using hj, ?_⟩
          have : ¬ i = j := fun e => c (by subst e; exact he)
          simp [List.getElem_set, this]
        | none => exact List.mem_append_left _ hp
      rw [mGet_at hn2 this, mGet_at hn hp]
    · rw [mGet_no hb, mGet_no fun h => (mSet_in h).elim hb c]
end
section
variable {κ ν : Type} [DecidableEq κ]
theorem mem_get {kv : List (κ × ν)} {k : κ} (h : k ∈ kv.map (·.1)) (hn : (kv.map (·.1)).Nodup) (z : ν) : (k, mGet kv k z) ∈ kv := by
  obtain ⟨p, hp, rfl⟩ := List.mem_map.1 h
  rw [mGet_at hn hp]
  exact hp
theorem mSet_has (kv : List (κ × ν)) (k : κ) (v : ν) : k ∈ (mSet kv k v).map (·.1) := by
  unfold mSet
  cases h : mIdx kv k with
  | some i =>
    obtain ⟨hi, he⟩ := mIdx_key h
    exact List.mem_map.2 ⟨(k, v), List.mem_iff_getElem.2 ⟨i, by simpa using hi, by simp⟩, rfl⟩
  | none => simp
theorem mSet_keep {kv : List (κ × ν)} {k : κ} {v : ν} {x : κ} (h : x ∈ kv.map (·.1)) : x ∈ (mSet kv k v).map (·.1) := by
  rcases mSet_keys kv k v with e | ⟨e, _⟩
  · rw [e]; exact h
  · rw [e]; exact List.mem_append_left _ h
theorem mIdx_in {kv : List (κ × ν)} {k : κ} : (mIdx kv k).isSome = true ↔ k ∈ kv.map (·.1) := by
  cases h : mIdx kv k with
  | some i =>
    obtain ⟨hi, he⟩ := mIdx_key h
    exact ⟨fun _ => List.mem_map.2 ⟨kv[i], List.getElem_mem hi, he⟩, fun _ => rfl⟩
  | none =>
    refine ⟨fun g => (by cases g), fun g => ?_⟩
    obtain ⟨p, hp, e⟩ := List.mem_map.1 g
    exact absurd e.symm (mIdx_no h p hp)
end
theorem nat_few : ∀ (n : Nat) (l : List Nat), l.Nodup → (∀ x ∈ l, x < n) → l.length ≤ n
  | 0, l, _, h => by
    cases l with
    | nil => simp
    | cons x l => exact absurd (h x List.mem_cons_self) (Nat.not_lt_zero _)
  | n + 1, l, hd, h => by
    have h1 := nat_few n (l.erase n) (hd.erase n) (fun x hx => by
      have h2 := (hd.mem_erase_iff).1 hx
      have h3 := h x h2.2
      have h4 : x ≠ n := h2.1
      omega)
    have h2 := List.length_erase (a := n) (l := l)
    split at h2 <;> omega
end Go.Proofs.YtjagkhjbbdfkaaaX
