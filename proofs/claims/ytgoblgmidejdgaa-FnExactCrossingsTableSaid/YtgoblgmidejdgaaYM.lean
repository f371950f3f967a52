/- Ferries, plainly: the program's search and the reference's. -/
import Derived.Test.YtgoblgmidejdgaaYK
namespace Go.Proofs.YtgoblgmidejdgaaX
open Go
set_option linter.unusedVariables false
set_option linter.unusedSimpArgs false
abbrev Cr := S_impl_crossing
abbrev zc : Cr := z_S_impl_crossing
/- maps -/
theorem mGet_cons {κ ν : Type} [DecidableEq κ] (p : κ × ν) (kv : List (κ × ν)) (k : κ) (z : ν) : mGet (p :: kv) k z = if k = p.1 then p.2 else mGet kv k z := by
  unfold mGet mIdx
  rw [List.findIdx?_cons]
  by_cases c : k = p.1
  · simp [c]
  · simp only [c, decide_false, Bool.false_eq_true, if_false]
    cases List.findIdx? (fun p => decide (k = p.1)) kv with
    | none => rfl
    | some i => simp
theorem mSet_cons {κ ν : Type} [DecidableEq κ] (p : κ × ν) (kv : List (κ × ν)) (k : κ) (v : ν) : mSet (p :: kv) k v = if k = p.1 then (k, v) :: kv else p :: mSet kv k v := by
  unfold mSet mIdx
  rw [List.findIdx?_cons]
  by_cases c : k = p.1
  · simp [c]
  · simp only [c, decide_false, Bool.false_eq_true, if_false]
    cases List.findIdx? (fun p => decide (k = p.1)) kv with
    | none => rfl
    | some i => simp
theorem mGet_set {κ ν : Type} [DecidableEq κ] (k k' : κ) (v z : ν) : ∀ kv : List (κ × ν), mGet (mSet kv k v) k' z = if k' = k then v else mGet kv k' z
  | [] => by
    have e : mSet ([] : List (κ × ν)) k v = [(k, v)] := rfl
    rw [e, mGet_cons]
  | p :: kv => by
    rw [mSet_cons]
    by_cases c : k = p.1
    · rw [if_pos c, mGet_cons, mGet_cons]
      by_cases d : k' = k
      · rw [if_pos d, if_pos d]
      · rw [if_neg d, if_neg d, if_neg (fun e => d (e.trans c.symm))]
    · rw [if_neg c, mGet_cons, mGet_cons, mGet_set k k' v z kv]
      by_cases d : k' = p.1
      · rw [if_pos d, if_pos d, if_neg (fun e => c (e.symm.trans d))]
      · rw [if_neg d, if_neg d]
/- lists -/
theorem rdL_st {xs : List Int} {a b v : Int} (ha : 0 ≤ a ∧ a < xs.length) (hb : 0 ≤ b ∧ b < xs.length) : rdL (stL xs a v) b 0 = if b = a then v else rdL xs b 0 := by
  obtain ⟨a, rfl⟩ := Int.eq_ofNat_of_zero_le ha.1
  obtain ⟨b, rfl⟩ := Int.eq_ofNat_of_zero_le hb.1
  unfold rdL stL
  simp only [Int.toNat_natCast, List.getD_eq_getElem?_getD, List.getElem?_set]
  by_cases e : a = b
  · subst e
    rw [if_pos rfl, if_pos (by omega), if_pos rfl]; rfl
  · rw [if_neg e, if_neg (by omega)]
theorem stL_len (xs : List Int) (a v : Int) : (stL xs a v).length = xs.length := by simp [stL]
theorem rdL_app {α : Type} (xs : List α) (c z : α) {p : Nat} (hp : p < xs.length) : rdL (xs ++ [c]) (p : Int) z = rdL xs (p : Int) z := by
  unfold rdL
  simp [List.getD_eq_getElem?_getD, List.getElem?_append_left hp]
theorem rdL_new {α : Type} (xs : List α) (c z : α) : rdL (xs ++ [c]) (xs.length : Int) z = c := by
  unfold rdL
  simp [List.getD_eq_getElem?_getD]
theorem rdL_memb {α : Type} {xs : List α} {z : α} {p : Nat} (hp : p < xs.length) : rdL xs (p : Int) z ∈ xs := by rw [rdL_nat hp]; exact List.getElem_mem hp
theorem memb_rdL {α : Type} {xs : List α} {x : α} (z : α) (h : x ∈ xs) : ∃ p : Nat, p < xs.length ∧ rdL xs (p : Int) z = x := by
  obtain ⟨p, hp, rfl⟩ := List.mem_iff_getElem.1 h
  exact ⟨p, hp, rdL_nat hp⟩
/- numbers of banks -/
def nearOk (F : Fe) (b : Bk) : Prop := 0 ≤ b.f_Near ∧ b.f_Near ≤ allF F
theorem numF_inj {F : Fe} {a b : Bk} (ha : nearOk F a) (hb : nearOk F b) (h : numF F a = numF F b) : a = b := by
  obtain ⟨x, u⟩ := a
  obtain ⟨y, v⟩ := b
  unfold nearOk at ha hb
  unfold numF at h
  simp only at ha hb h
  cases u <;> cases v <;> simp only [Bool.false_eq_true, if_false, if_true] at h
  · rw [h]
  · omega
  · omega
  · have : x = y := by omega
    rw [this]
theorem atF_num {F : Fe} (hT : T8 F) {b : Bk} (hb : nearOk F b) : atF F (numF F b) = b := by
  have hall := all_range hT
  obtain ⟨x, u⟩ := b
  unfold nearOk at hb
  simp only at hb
  unfold atF numF
  cases u
  · simp only [Bool.false_eq_true, if_false]
    have h1 : x % (allF F + 1) = x := Int.emod_eq_of_lt hb.1 (by omega)
    have h2 : ¬ x ≥ allF F + 1 := by omega
    rw [h1, decide_eq_false h2]
  · simp only [if_true]
    have h1 : (x + allF F + 1) % (allF F + 1) = x := by
      rw [show x + allF F + 1 = x + (allF F + 1) by omega, Int.add_emod_right]
      exact Int.emod_eq_of_lt hb.1 (by omega)
    have h2 : x + allF F + 1 ≥ allF F + 1 := by omega
    rw [h1, decide_eq_true h2]
def nB (F : Fe) : Int := 2 * (allF F + 1)
/-- What the two searches have found alike. -/
structure Rel (F : Fe) (out : List Cr) (met : List (Bk × Bool)) (tb fr ba qu : List Int) : Prop where
  pos : 0 < out.length
  q : qu = out.map fun c => numF F c.f_bank
  near : ∀ c ∈ out, nearOk F c.f_bank
  nd : (out.map fun c => numF F c.f_bank).Nodup
  met : ∀ b, mGet met b false = true ↔ b ∈ out.map (·.f_bank)
  lt : (tb.length : Int) = nB F ∧ (fr.length : Int) = nB F ∧ (ba.length : Int) = nB F
  no : ∀ j : Int, 0 ≤ j → j < nB F → j ∉ (out.map fun c => numF F c.f_bank) → rdL tb j 0 = -1
  yes : ∀ p : Nat, p < out.length → rdL tb (numF F (rdL out (p : Int) zc).f_bank) 0 = (rdL out (p : Int) zc).f_many ∧
    (p = 0 → (rdL out (p : Int) zc).f_before = -1 ∧ (rdL out (p : Int) zc).f_many = 0) ∧
    (0 < p → 0 ≤ (rdL out (p : Int) zc).f_before ∧ (rdL out (p : Int) zc).f_before < p ∧ 1 ≤ (rdL out (p : Int) zc).f_many ∧ (rdL out (p : Int) zc).f_many ≤ p ∧
      rdL ba (numF F (rdL out (p : Int) zc).f_bank) 0 = (rdL out (p : Int) zc).f_load ∧ rdL fr (numF F (rdL out (p : Int) zc).f_bank) 0 = numF F (rdL out ((rdL out (p : Int) zc).f_before) zc).f_bank)
theorem nodup_range_len {l : List Int} {n : Nat} (hd : l.Nodup) (hr : ∀ x ∈ l, 0 ≤ x ∧ x < n) : l.length ≤ n := by
  have := hd.length_le_of_subset (l₂ := idx n) (fun x hx => by
    have := hr x hx
    exact List.mem_map.2 ⟨x.toNat, List.mem_range.2 (by omega), by omega⟩)
  rwa [idx_len] at this
theorem Rel.len {F : Fe} (hT : T8 F) {out met tb fr ba qu} (h : Rel F out met tb fr ba qu) : (out.length : Int) ≤ nB F := by
  have hall := all_range hT
  have := nodup_range_len (n := (nB F).toNat) h.nd (fun x hx => by
    obtain ⟨c, hc, rfl⟩ := List.mem_map.1 hx
    have := numF_range hT (h.near c hc)
    unfold nB
    omega)
  rw [List.length_map] at this
  unfold nB at this ⊢
  omega
theorem Rel.found {F : Fe} {out met tb fr ba qu} (h : Rel F out met tb fr ba qu) {b : Bk} (hb : nearOk F b) : b ∈ out.map (·.f_bank) ↔ numF F b ∈ out.map fun c => numF F c.f_bank := by
  constructor
  · intro hm
    obtain ⟨c, hc, rfl⟩ := List.mem_map.1 hm
    exact List.mem_map.2 ⟨c, hc, rfl⟩
  · intro hm
    obtain ⟨c, hc, he⟩ := List.mem_map.1 hm
    exact List.mem_map.2 ⟨c, hc, numF_inj (h.near c hc) hb he⟩
theorem Rel.tb_nonneg {F : Fe} {out met tb fr ba qu} (h : Rel F out met tb fr ba qu) {p : Nat} (hp : p < out.length) : 0 ≤ (rdL out (p : Int) zc).f_many ∧ (rdL out (p : Int) zc).f_many ≤ p := by
  have := h.yes p hp
  by_cases c : p = 0
  · have := this.2.1 c; omega
  · have := this.2.2 (by omega); omega
/-- Met or not, as the table says. -/
theorem Rel.tells {F : Fe} (hT : T8 F) {out met tb fr ba qu} (h : Rel F out met tb fr ba qu) {b : Bk} (hb : nearOk F b) : rdL tb (numF F b) 0 < 0 ↔ ¬ mGet met b false = true := by
  have hr := numF_range hT hb
  rw [h.met b, h.found hb]
  constructor
  · intro hlt hm
    obtain ⟨c, hc, he⟩ := List.mem_map.1 hm
    obtain ⟨p, hp, rfl⟩ := memb_rdL zc hc
    have := (h.yes p hp).1
    have := h.tb_nonneg hp
    rw [← he] at hlt
    omega
  · intro hm
    rw [h.no _ hr.1 hr.2 hm]
    decide
/-- A bank that is new. -/
theorem Rel.add {F : Fe} (hT : T8 F) {out met tb fr ba qu} (h : Rel F out met tb fr ba qu) {b : Bk} (hb : nearOk F b) (hm : ¬ mGet met b false = true) {i : Nat} (hi : i < out.length) (l : Int) :
    Rel F (out ++ [⟨b, (i : Int), l, (rdL out (i : Int) zc).f_many + 1⟩]) (mSet met b true) (stL tb (numF F b) ((rdL out (i : Int) zc).f_many + 1)) (stL fr (numF F b) (numF F (rdL out (i : Int) zc).f_bank)) (stL ba (numF F b) l) (qu ++ [numF F b]) := by
  have hr := numF_range hT hb
  have hnot : numF F b ∉ out.map fun c => numF F c.f_bank := fun hx => hm ((h.met b).2 ((h.found hb).2 hx))
  have hl := h.lt
  have hrT : 0 ≤ numF F b ∧ numF F b < tb.length := ⟨hr.1, by unfold nB at hl; omega⟩
  have hrF : 0 ≤ numF F b ∧ numF F b < fr.length := ⟨hr.1, by unfold nB at hl; omega⟩
  have hrB : 0 ≤ numF F b ∧ numF F b < ba.length := ⟨hr.1, by unfold nB at hl; omega⟩
  refine ⟨by simp, by rw [h.q]; simp, ?_, ?_, ?_, ⟨by rw [stL_len]; exact hl.1, by rw [stL_len]; exact hl.2.1, by rw [stL_len]; exact hl.2.2⟩, ?_, ?_⟩
  · intro c hc
    rcases List.mem_append.1 hc with hc | hc
    · exact h.near c hc
    · rw [List.mem_singleton] at hc; subst hc; exact hb
  · rw [List.map_append, List.nodup_append]
    refine ⟨h.nd, by simp, ?_⟩
    intro x hx y hy e
    simp only [List.map_cons, List.map_nil, List.mem_singleton] at hy
    subst hy
    exact hnot (e ▸ hx)
  · intro b'
    rw [mGet_set, List.map_append, List.mem_append]
    by_cases e : b' = b
    · subst e; simp
    · rw [if_neg e, h.met b']
      simp [e]
  · intro j j0 j1 hj
    rw [List.map_append, List.mem_append] at hj
    have h1 : j ∉ out.map fun c => numF F c.f_bank := fun x => hj (.inl x)
    have h2 : ¬ j = numF F b := fun x => hj (.inr (by simp [x]))
    rw [rdL_st hrT ⟨j0, by omega⟩, if_neg h2]
    exact h.no j j0 j1 h1
  · intro p hp
    rw [List.length_append, List.length_singleton] at hp
    by_cases hpo : p < out.length
    · rw [rdL_app _ _ _ hpo]
      have hc := rdL_memb (z := zc) hpo
      have hrp := numF_range hT (h.near _ hc)
      have hne : ¬ numF F (rdL out (p : Int) zc).f_bank = numF F b := fun e => hnot (e ▸ List.mem_map.2 ⟨_, hc, rfl⟩)
      obtain ⟨y1, y2, y3⟩ := h.yes p hpo
      refine ⟨by rw [rdL_st hrT ⟨hrp.1, by unfold nB at hl; omega⟩, if_neg hne]; exact y1, y2, fun h0 => ?_⟩
      obtain ⟨z1, z2, z3, z4, z5, z6⟩ := y3 h0
      refine ⟨z1, z2, z3, z4, by rw [rdL_st hrB ⟨hrp.1, by unfold nB at hl; omega⟩, if_neg hne]; exact z5, ?_⟩
      rw [rdL_st hrF ⟨hrp.1, by unfold nB at hl; omega⟩, if_neg hne, z6]
      obtain ⟨q, hq⟩ := Int.eq_ofNat_of_zero_le z1
      rw [hq] at z2 ⊢
      rw [rdL_app _ _ _ (by omega)]
    · obtain rfl : p = out.length := by omega
      rw [rdL_new]
      have hmn := h.tb_nonneg hi
      refine ⟨by rw [rdL_st hrT hrT, if_pos rfl], fun h0 => by have := h.pos; omega, fun _ => ⟨by dsimp only; omega, by dsimp only; omega, by dsimp only; omega, by dsimp only; omega, by rw [rdL_st hrB hrB, if_pos rfl], ?_⟩⟩
      rw [rdL_st hrF hrF, if_pos rfl]
      dsimp only
      rw [rdL_app _ _ _ hi]
end Go.Proofs.YtgoblgmidejdgaaX
