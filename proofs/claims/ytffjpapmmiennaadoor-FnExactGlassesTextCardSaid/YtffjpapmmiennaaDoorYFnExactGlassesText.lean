/- FnExactGlassesText is true on every input: the plain side. -/
import Derived.Test.YtffjpapmmiennaaDoorYT
import Derived.Test.YtffjpapmmiennaaDoorYD
namespace Go.Proofs.YtffjpapmmiennaaDoorX
open Go
set_option linter.unusedVariables false
set_option linter.unusedSimpArgs false
/-- A numeral, kept closed. -/
def dgs (x : Int) : List UInt8 := Lib.decDigits x.toNat
theorem dgs_len {x : Int} (h0 : 0 ≤ x) (h1 : x ≤ 100) : (dgs x).length ≤ 101 := by
  have := dec_len x.toNat
  show (Lib.decDigits x.toNat).length ≤ 101
  omega
theorem dgs_spec {N : Nat} {x : Int} (h0 : 0 ≤ x) (h1 : x ≤ 40) (hN : 100 < N) : spec_Decimal.f N (i64w x) = some ⟨(dgs x).toArray⟩ := by
  rw [i64w_id (by omega) (by omega), Decimal_eq h0 (by omega) (by omega)]
  rfl
theorem dgs_impl {N : Nat} {x : Int} (h0 : 0 ≤ x) (h1 : x ≤ 40) : impl_decimal.f N (i64w x) = some ⟨(dgs x).toArray⟩ := by
  rw [i64w_id (by omega) (by omega), decimal_eq N h0 (by omega)]
  rfl
/-- The word of glass k. -/
def wd (a : List Int) (c : Ar Int 4) (k : Nat) : List UInt8 := (dgs (c.l.getD k 0) ++ [47]) ++ dgs (a.getD k 0)
def jg (a : List Int) (c : Ar Int 4) (k : Nat) : List UInt8 := Lib.join ((List.range k).map (wd a c)) [32]
theorem jg_succ (a : List Int) (c : Ar Int 4) (k : Nat) : jg a c (k + 1) = if k = 0 then wd a c 0 else (jg a c k ++ [32]) ++ wd a c k := by
  unfold jg
  rw [List.range_succ, List.map_append]
  show Lib.join ((List.range k).map (wd a c) ++ [wd a c k]) [32] = _
  rw [join_snoc]
  by_cases hk : k = 0
  · subst hk; simp
  · rw [if_neg hk, if_neg (by simp [hk])]
theorem in_range {a : List Int} {c : Ar Int 4} (h : okT a c) {k : Nat} (hk : k < a.length) : (0 ≤ c.l.getD k 0 ∧ c.l.getD k 0 ≤ 40) ∧ (0 ≤ a.getD k 0 ∧ a.getD k 0 ≤ 40) := by
  obtain ⟨h1, h4, ho⟩ := okT_len h
  have hf := h.2 k (by omega)
  have hg := ho _ (List.getElem_mem hk)
  rw [getD_in hk] at *
  omega
theorem wd_len {a : List Int} {c : Ar Int 4} (h : okT a c) {k : Nat} (hk : k < a.length) : (wd a c k).length ≤ 203 := by
  obtain ⟨h1, h2⟩ := in_range h hk
  have l1 := dgs_len h1.1 (by omega)
  have l2 := dgs_len h2.1 (by omega)
  unfold wd
  rw [List.length_append, List.length_append, List.length_singleton]
  omega
theorem jg_len {a : List Int} {c : Ar Int 4} (h : okT a c) (k : Nat) : k ≤ a.length → (jg a c k).length ≤ 204 * k := by
  induction k with
  | zero => intro _; simp [jg, Lib.join_nil]
  | succ k ih =>
    intro hk
    have := ih (by omega)
    have w := wd_len h (show k < a.length by omega)
    rw [jg_succ]
    by_cases h0 : k = 0
    · rw [if_pos h0]; subst h0; omega
    · rw [if_neg h0, List.length_append, List.length_append, List.length_singleton]; omega
theorem word_spec {N : Nat} {a : List Int} {c : Ar Int 4} (h : okT a c) {k : Nat} (hk : k < a.length) (hN : 100 < N) {out : List UInt8} (ho : out.length ≤ 1000) :
    spec_l07Text.j2 N (k : Int) c a ⟨out.toArray⟩ = some (.next (⟨(out ++ wd a c k).toArray⟩, ((k + 1 : Nat) : Int))) := by
  obtain ⟨h1, h4, _⟩ := okT_len h
  obtain ⟨r1, r2⟩ := in_range h hk
  have l1 := dgs_len r1.1 (by omega)
  have l2 := dgs_len r2.1 (by omega)
  have lw := wd_len h hk
  have e1 : rdL a (k : Int) 0 = a.getD k 0 := by rw [rdL_nat hk, getD_in hk]
  have s1 : ((dgs (c.l.getD k 0)).length : Int) + (([47] : List UInt8).length : Int) ≤ 9223372036854775807 := by rw [List.length_singleton]; omega
  have s2 : ((dgs (c.l.getD k 0) ++ [47]).length : Int) + ((dgs (a.getD k 0)).length : Int) ≤ 9223372036854775807 := by rw [List.length_append, List.length_singleton]; omega
  have s3 : (out.length : Int) + ((wd a c k).length : Int) ≤ 9223372036854775807 := by omega
  unfold spec_l07Text.j2
  rw [if_pos ⟨by omega, by omega⟩, ar_get, dgs_spec r1.1 r1.2 hN, Option.bind_some, ba_size, ba_size, if_pos s1, if_pos ⟨by omega, by omega⟩, e1, dgs_spec r2.1 r2.2 hN, Option.bind_some, ba_app, ba_size, ba_size, if_pos s2, ba_app]
  show (if ((⟨out.toArray⟩ : ByteArray).size : Int) + (⟨(wd a c k).toArray⟩ : ByteArray).size ≤ 9223372036854775807 then some (Bd.next ((⟨out.toArray⟩ : ByteArray) ++ (⟨(wd a c k).toArray⟩ : ByteArray), i64w ((k : Int) + 1))) else none) = _
  rw [ba_size, ba_size, if_pos s3, ba_app, i64w_succ hk (by omega)]
theorem text_spec {N : Nat} {a : List Int} {c : Ar Int 4} (h : okT a c) (hN : 100 < N) : spec_l07Text.f N a c = some ⟨(jg a c a.length).toArray⟩ := by
  obtain ⟨h1, h4, _⟩ := okT_len h
  have q := rounds_for (b := fun s => spec_l07Text.b0 N a c s.1 s.2) (e := .go ⟨(jg a c a.length).toArray⟩) (fun k => ((⟨(jg a c k).toArray⟩ : ByteArray), (k : Int))) a.length 0 N (by omega) (by omega) (by
    intro i _ hi
    have hl := jg_len h i (by omega)
    have g1 : (i : Int) < a.length := by omega
    show spec_l07Text.b0 N a c ⟨(jg a c i).toArray⟩ (i : Int) = _
    unfold spec_l07Text.b0
    rw [if_pos g1, jg_succ]
    by_cases h0 : i = 0
    · subst h0
      rw [if_neg (by omega), word_spec h hi hN (by omega), if_pos rfl]
      have : jg a c 0 = [] := by simp [jg, Lib.join_nil]
      rw [this]; rfl
    · have s1 : ((jg a c i).length : Int) + (([32] : List UInt8).length : Int) ≤ 9223372036854775807 := by rw [List.length_singleton]; omega
      rw [if_pos (by omega), ba_size, ba_size, if_pos s1, ba_app, word_spec h hi hN (by rw [List.length_append, List.length_singleton]; omega), if_neg h0]) (by
    show spec_l07Text.b0 N a c _ (a.length : Int) = _
    unfold spec_l07Text.b0
    rw [if_neg (by omega)])
  have : jg a c 0 = [] := by simp [jg, Lib.join_nil]
  have q' : rounds (fun s => spec_l07Text.b0 N a c s.1 s.2) N ((⟨#[]⟩ : ByteArray), 0) = some (.go ⟨(jg a c a.length).toArray⟩) := by simpa [this] using q
  unfold spec_l07Text.f
  rw [q']
  rfl
theorem words_impl {N : Nat} {a : List Int} {c : Ar Int 4} (h : okT a c) (hN : 100 < N) : impl_levelsText.f N c.l a = some ((List.range a.length).map fun k => (⟨(wd a c k).toArray⟩ : ByteArray)) := by
  obtain ⟨h1, h4, _⟩ := okT_len h
  have hc := c.h
  have q := rounds_for (b := fun s => impl_levelsText.b0 N a c.l s.1 s.2) (e := .go ((List.range a.length).map fun k => (⟨(wd a c k).toArray⟩ : ByteArray))) (fun k => ((List.range k).map fun k => (⟨(wd a c k).toArray⟩ : ByteArray), (k : Int))) a.length 0 N (by omega) (by omega) (by
    intro i _ hi
    obtain ⟨r1, r2⟩ := in_range h hi
    have l1 := dgs_len r1.1 (by omega)
    have l2 := dgs_len r2.1 (by omega)
    have g1 : (i : Int) < a.length := by omega
    have e1 : rdL a (i : Int) 0 = a.getD i 0 := by rw [rdL_nat hi, getD_in hi]
    have e2 : rdL c.l (i : Int) 0 = c.l.getD i 0 := by simp [rdL]
    have s1 : ((dgs (c.l.getD i 0)).length : Int) + (([47] : List UInt8).length : Int) ≤ 9223372036854775807 := by rw [List.length_singleton]; omega
    have s2 : ((dgs (c.l.getD i 0) ++ [47]).length : Int) + ((dgs (a.getD i 0)).length : Int) ≤ 9223372036854775807 := by rw [List.length_append, List.length_singleton]; omega
    show impl_levelsText.b0 N a c.l _ (i : Int) = _
    unfold impl_levelsText.b0
    rw [if_pos g1, if_pos ⟨by omega, by omega⟩, if_pos ⟨by omega, by omega⟩, e1, e2, dgs_impl r1.1 r1.2, Option.bind_some, ba_size, ba_size, if_pos s1, dgs_impl r2.1 r2.2, Option.bind_some, ba_app, ba_size, ba_size, if_pos s2, ba_app, if_pos (by rw [List.length_map, List.length_range, List.length_singleton]; omega), i64w_succ hi (by omega), List.range_succ, List.map_append]
    rfl) (by
    show impl_levelsText.b0 N a c.l _ (a.length : Int) = _
    unfold impl_levelsText.b0
    rw [if_neg (by omega)])
  have q' : rounds (fun s => impl_levelsText.b0 N a c.l s.1 s.2) N (([] : List ByteArray), 0) = some (.go ((List.range a.length).map fun k => (⟨(wd a c k).toArray⟩ : ByteArray))) := by simpa using q
  unfold impl_levelsText.f
  rw [q']
  rfl
theorem GlassesText_same {N : Nat} {a : List Int} {c : Ar Int 4} (hb : ∀ x ∈ a, -32768 ≤ x ∧ x ≤ 32767) (hl : a.length ≤ 1048576) (hN : a.length + 100 < N) : ∃ r, spec_GlassesText.f N a c = some r ∧ impl_GlassesText.f N a c = some r := by
  classical
  simp only [spec_GlassesText.f, impl_GlassesText.f, okT_spec hb (show 5 < N by omega), okT_impl hb hl (show a.length + 5 < N by omega), Option.bind_some, decide_eq_true_eq]
  by_cases hk : okT a c
  · obtain ⟨h1, h4, _⟩ := okT_len hk
    have hj := jg_len hk a.length (Nat.le_refl _)
    have ej : (((List.range a.length).map fun k => (⟨(wd a c k).toArray⟩ : ByteArray)).map (·.data.toList)) = (List.range a.length).map (wd a c) := by simp [Function.comp_def]
    rw [if_pos hk, if_pos hk, text_spec hk (show 100 < N by omega), words_impl hk (show 100 < N by omega), Option.bind_some, Option.bind_some]
    refine ⟨_, rfl, ?_⟩
    unfold strings_Join.f
    rw [ej, if_pos ⟨by rw [List.length_map, List.length_range]; omega, by show (jg a c a.length).length ≤ _; omega⟩]
    rfl
  · rw [if_neg hk, if_neg hk]
    exact ⟨_, rfl, rfl⟩
theorem laws_FnExactGlassesText.told (a0 : List Int) (h0 : ∀ x ∈ a0, IntKind.min .i16 ≤ x ∧ x ≤ IntKind.max .i16) (l0 : a0.length ≤ 9223372036854775807) (a1 : Ar Int 4) (h1 : ∀ x ∈ a1.l, IntKind.min .i16 ≤ x ∧ x ≤ IntKind.max .i16) : ∃ N, laws_FnExactGlassesText.f N a0 a1 = some true := by
  rw [min_i16, max_i16] at h0
  by_cases h : (a0.length : Int) > 1048576
  · exact ⟨0, by simp only [laws_FnExactGlassesText.f, if_pos h]⟩
  · refine ⟨a0.length + 200, ?_⟩
    have hl : a0.length ≤ 1048576 := by omega
    obtain ⟨r, e1, e2⟩ := GlassesText_same (c := a1) h0 hl (show a0.length + 100 < a0.length + 200 by omega)
    simp only [laws_FnExactGlassesText.f, if_neg h, toGlasses_eq hl (show a0.length < a0.length + 200 by omega), toTops_eq a1 (show 4 < a0.length + 200 by omega), Option.bind_some, e1, e2, eqGlasses_eq (c := a0) hl (show a0.length < a0.length + 200 by omega), if_true, decide_true]
end Go.Proofs.YtffjpapmmiennaaDoorX
