/- FnExactCrossAll is true on every input: the plain side. -/
import Derived.Test.YtgoblgmidejdgaaYH
namespace Go.Proofs.YtgoblgmidejdgaaX
open Go
set_option linter.unusedVariables false
set_option linter.unusedSimpArgs false
abbrev caS (F : Fe) (b : Bk) (l : Int) : Ex (Ex (Bk × Int) Bk) Bk := if codeF F b l = 0 then .go (crossedB b l) else .ret (.ret (⟨0, false⟩, codeF F b l))
abbrev caF (b : Bk) : Ex (Bk × Int) Bk := .go b
theorem ca_spec {N : Nat} {F : Fe} (h : OkF F) {a : List Int} (ha : ∀ x ∈ a, 0 ≤ x ∧ x ≤ 65535) (hl : a.length ≤ 1000) (hN : 2000 < N) {b : Bk} (hb : 0 ≤ b.f_Near ∧ b.f_Near ≤ 255) :
    rounds (fun s => spec_CrossAll.b0 N a F s.1 s.2) N (b, 0) = some (walk (caS F) caF b a) := by
  refine rounds_walk0 (fun b i => (b, i)) a (caS F) caF (fun _ b => 0 ≤ b.f_Near ∧ b.f_Near ≤ 255) (by omega) hb ?_ ?_
  · intro b i hi hb
    have g1 : (i : Int) < a.length := by omega
    have g2 : (0 : Int) ≤ i := by omega
    have hx := ha _ (List.getElem_mem hi)
    by_cases c : codeF F b a[i] = 0
    · have e : caS F b a[i] = .go (crossedB b a[i]) := if_pos c
      rw [e]
      have := crossedB_range h.t8 c
      refine ⟨⟨this.1, this.2.2⟩, ?_⟩
      simp only [spec_CrossAll.b0, g1, g2, and_self, if_true, rdL_nat hi, i64w_succ hi (show a.length ≤ 9223372036854775807 by omega), F_eta, cross_spec h (show 40 < N by omega) hb hx, Option.bind_some, if_pos c]
    · have e : caS F b a[i] = .ret (.ret (⟨0, false⟩, codeF F b a[i])) := if_neg c
      rw [e]
      simp only [spec_CrossAll.b0, g1, g2, and_self, if_true, rdL_nat hi, i64w_succ hi (show a.length ≤ 9223372036854775807 by omega), F_eta, cross_spec h (show 40 < N by omega) hb hx, Option.bind_some, if_neg c]
  · intro b _
    simp only [spec_CrossAll.b0]
    rw [if_neg (by omega)]
theorem ca_impl {N : Nat} {F : Fe} (h : OkF F) {a : List Int} (ha : ∀ x ∈ a, 0 ≤ x ∧ x ≤ 65535) (hl : a.length ≤ 1000) (hN : 2000 < N) {b : Bk} (hb : 0 ≤ b.f_Near ∧ b.f_Near ≤ 255) :
    rounds (fun s => impl_CrossAll.b0 N a F s.1 s.2) N (b, 0) = some (walk (caS F) caF b a) := by
  refine rounds_walk0 (fun b i => (b, i)) a (caS F) caF (fun _ b => 0 ≤ b.f_Near ∧ b.f_Near ≤ 255) (by omega) hb ?_ ?_
  · intro b i hi hb
    have g1 : (i : Int) < a.length := by omega
    have g2 : (0 : Int) ≤ i := by omega
    have hx := ha _ (List.getElem_mem hi)
    by_cases c : codeF F b a[i] = 0
    · have e : caS F b a[i] = .go (crossedB b a[i]) := if_pos c
      rw [e]
      have := crossedB_range h.t8 c
      refine ⟨⟨this.1, this.2.2⟩, ?_⟩
      simp only [impl_CrossAll.b0, impl_crossed.f, g1, g2, and_self, if_true, rdL_nat hi, i64w_succ hi (show a.length ≤ 9223372036854775807 by omega), F_eta, cross_impl h (show 40 < N by omega) hb hx, Option.bind_some, if_pos c, crossedB]
    · have e : caS F b a[i] = .ret (.ret (⟨0, false⟩, codeF F b a[i])) := if_neg c
      rw [e]
      simp only [impl_CrossAll.b0, impl_crossed.f, g1, g2, and_self, if_true, rdL_nat hi, i64w_succ hi (show a.length ≤ 9223372036854775807 by omega), F_eta, cross_impl h (show 40 < N by omega) hb hx, Option.bind_some, if_neg c]
  · intro b _
    simp only [impl_CrossAll.b0]
    rw [if_neg (by omega)]
theorem CrossAll_same {N : Nat} {F : Fe} (hF : InF F) {a : List Int} (ha : ∀ x ∈ a, 0 ≤ x ∧ x ≤ 65535) (hN : 2000 < N) : ∃ r, spec_CrossAll.f N F a = some r ∧ impl_CrossAll.f N F a = some r := by
  simp only [spec_CrossAll.f, impl_CrossAll.f, F_eta, okF_spec hF (show 40 < N by omega), okF_impl hF (show 40 < N by omega), Option.bind_some]
  by_cases hk : okF F = true
  · have h := okF_iff.1 hk
    rw [if_pos hk, if_pos hk]
    by_cases hl : (a.length : Int) > 1000
    · exact ⟨_, by rw [if_pos hl], by rw [if_pos hl]⟩
    · rw [if_neg hl, if_neg hl]
      have hall := all_range h.t8
      simp only [spec_all N h.t8, impl_all N h.t8, Option.bind_some, ca_spec h ha (show a.length ≤ 1000 by omega) hN (b := ⟨allF F, false⟩) ⟨show 0 ≤ allF F by omega, show allF F ≤ 255 by omega⟩, ca_impl h ha (show a.length ≤ 1000 by omega) hN (b := ⟨allF F, false⟩) ⟨show 0 ≤ allF F by omega, show allF F ≤ 255 by omega⟩]
      cases walk (caS F) caF ⟨allF F, false⟩ a with
      | ret r => exact ⟨_, rfl, rfl⟩
      | go s => exact ⟨_, rfl, rfl⟩
  · exact ⟨_, by rw [if_neg hk], by rw [if_neg hk]⟩
theorem laws_FnExactCrossAll.told (a0 : S_laws_Ferry) (h0_0 : IntKind.min .i8 ≤ a0.f_Things ∧ a0.f_Things ≤ IntKind.max .i8) (h0_1 : IntKind.min .i8 ≤ a0.f_Boat ∧ a0.f_Boat ≤ IntKind.max .i8) (h0_2 : ∀ x ∈ a0.f_Rules, IntKind.min .u16 ≤ x ∧ x ≤ IntKind.max .u16) (l0_2 : a0.f_Rules.length ≤ 9223372036854775807) (a1 : List Int) (h1 : ∀ x ∈ a1, IntKind.min .u16 ≤ x ∧ x ≤ IntKind.max .u16) (l1 : a1.length ≤ 9223372036854775807) : ∃ N, laws_FnExactCrossAll.f N a0 a1 = some true := by
  rw [min_i8, max_i8] at h0_0 h0_1
  rw [min_u16, max_u16] at h0_2 h1
  have hF : InF a0 := ⟨h0_0, h0_1, h0_2⟩
  by_cases h : (a1.length : Int) > 1048576
  · exact ⟨0, by simp only [laws_FnExactCrossAll.f, if_pos h]⟩
  by_cases h' : a0.f_Rules.length > 1048576
  · exact ⟨0, by simp only [laws_FnExactCrossAll.f, if_neg h, F_eta, szFerry_neg h' l0_2, Option.bind_some]; rfl⟩
  obtain ⟨N, hN⟩ : ∃ N, N = a0.f_Rules.length + a1.length + 3000 := ⟨_, rfl⟩
  refine ⟨N, ?_⟩
  have hl : a0.f_Rules.length ≤ 1048576 := by omega
  have hl' : a1.length ≤ 1048576 := by omega
  obtain ⟨r, e1, e2⟩ := CrossAll_same (N := N) hF h1 (by omega)
  simp only [laws_FnExactCrossAll.f, if_neg h, F_eta, szFerry_pos hl, Option.bind_some, if_neg (show ¬ (1048576 - (a0.f_Rules.length : Int)) < 0 by omega), toFerry_eq (N := N) hl (by omega), toUint16S_eq (N := N) hl' (by omega), e1, e2, eqBank_same, if_true, eqFerry_same (N := N) hl (by omega), eqUint16S_same (N := N) hl' (by omega)]
end Go.Proofs.YtgoblgmidejdgaaX
