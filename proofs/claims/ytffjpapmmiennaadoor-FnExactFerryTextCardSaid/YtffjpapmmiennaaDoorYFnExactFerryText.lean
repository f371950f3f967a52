/- FnExactFerryText is true on every input: the plain side. -/
import Derived.Test.YtffjpapmmiennaaDoorYS
namespace Go.Proofs.YtffjpapmmiennaaDoorX
open Go
set_option linter.unusedVariables false
set_option linter.unusedSimpArgs false
theorem ok_parts {F : Fe} (h : okF F = true) : T8 F ∧ (0 ≤ F.f_Boat ∧ F.f_Boat ≤ F.f_Things) ∧ F.f_Rules.length ≤ 20 ∧ ∀ x ∈ F.f_Rules, bad (allF F) x = false := by
  simp only [okF, Bool.and_eq_true, decide_eq_true_eq, Bool.not_eq_true', List.any_eq_false, Bool.not_eq_true] at h
  exact ⟨h.1, h.2.1, h.2.2.1, h.2.2.2⟩
theorem rule_range {F : Fe} (hF : InF F) (h : okF F = true) {x : Int} (hx : x ∈ F.f_Rules) : 0 ≤ x ∧ x < 256 := by
  obtain ⟨h8, _, _, hb⟩ := ok_parts h
  have hr := hF.2.2 x hx
  have ha := all_range h8
  have := hb x hx
  simp only [bad, Bool.or_eq_false_iff, Bool.not_eq_false', beq_iff_eq] at this
  have := andNot_le hr ⟨by omega, by omega⟩ this.1
  omega
/-- The words of a ferry, up to rule k. -/
def ws (F : Fe) (k : Nat) : List (List UInt8) := [Lib.decDigits F.f_Things.toNat, Lib.decDigits F.f_Boat.toNat] ++ (F.f_Rules.take k).map txt
def jw (F : Fe) (k : Nat) : List UInt8 := Lib.join (ws F k) [32]
theorem ws_succ {F : Fe} {k : Nat} (h : k < F.f_Rules.length) : ws F (k + 1) = ws F k ++ [txt F.f_Rules[k]] := by
  unfold ws
  rw [List.take_add_one, List.getElem?_eq_getElem h, List.map_append, List.append_assoc]
  rfl
theorem jw_zero (F : Fe) : jw F 0 = Lib.decDigits F.f_Things.toNat ++ [32] ++ Lib.decDigits F.f_Boat.toNat := by
  show Lib.join ([Lib.decDigits F.f_Things.toNat] ++ [Lib.decDigits F.f_Boat.toNat]) [32] = _
  rw [join_snoc, if_neg (by simp), Lib.join_one]
theorem jw_succ {F : Fe} {k : Nat} (h : k < F.f_Rules.length) : jw F (k + 1) = jw F k ++ ([32] ++ txt F.f_Rules[k]) := by
  unfold jw
  rw [ws_succ h, join_snoc, if_neg (by simp [ws]), List.append_assoc]
theorem jw_len {F : Fe} (hF : InF F) (h : okF F = true) : ∀ k, k ≤ F.f_Rules.length → (jw F k).length ≤ 40 + 9 * k
  | 0, _ => by
    obtain ⟨h8, hb, _, _⟩ := ok_parts h
    have := h8.2
    have h1 := dec_len F.f_Things.toNat
    have h2 := dec_len F.f_Boat.toNat
    rw [jw_zero]
    simp only [List.length_append, List.length_cons, List.length_nil]
    omega
  | k + 1, hk => by
    have ih := jw_len hF h k (by omega)
    have hr := rule_range hF h (List.getElem_mem (show k < F.f_Rules.length by omega))
    have := (txt_at (N := 71) (by omega) hr.1 hr.2).2.2
    rw [jw_succ (by omega)]
    simp only [List.length_append, List.length_cons, List.length_nil]
    omega
theorem spec_loop {N : Nat} {F : Fe} (hF : InF F) (h : okF F = true) (hN : 100 < N) : rounds (fun s => spec_l05FerryText.b0 N F s.1 s.2) N ((⟨(jw F 0).toArray⟩ : ByteArray), 0) = some (.go ⟨(jw F F.f_Rules.length).toArray⟩) := by
  obtain ⟨h8, hb, h20, _⟩ := ok_parts h
  have hsp : (⟨#[32]⟩ : ByteArray) = ⟨([32] : List UInt8).toArray⟩ := rfl
  have q := rounds_for (b := fun s => spec_l05FerryText.b0 N F s.1 s.2) (e := .go ⟨(jw F F.f_Rules.length).toArray⟩) (fun k => ((⟨(jw F k).toArray⟩ : ByteArray), (k : Int))) F.f_Rules.length 0 N (by omega) (by omega) (by
    intro i _ hi
    have hr := rule_range hF h (List.getElem_mem hi)
    have ht := txt_at (N := N) (by omega) hr.1 hr.2
    have hl := jw_len hF h i (by omega)
    have g1 : (i : Int) < F.f_Rules.length := by omega
    have g2 : (0 : Int) ≤ i := by omega
    simp only [spec_l05FerryText.b0, g1, g2, and_self, if_true, rdL_nat hi, ht.2.1, Option.bind_some, i64w_succ hi (show F.f_Rules.length ≤ 9223372036854775807 by omega), hsp, ba_app, ba_size]
    have h4 := ht.2.2
    rw [jw_succ hi, if_pos (by simp only [List.length_append, List.length_cons, List.length_nil]; omega), if_pos (by simp only [List.length_append, List.length_cons, List.length_nil]; omega)]) (by
    simp only [spec_l05FerryText.b0]
    rw [if_neg (by omega)])
  simpa using q
theorem text_spec {N : Nat} {F : Fe} (hF : InF F) (h : okF F = true) (hN : 100 < N) : spec_l05FerryText.f N F = some ⟨(jw F F.f_Rules.length).toArray⟩ := by
  obtain ⟨h8, hb, h20, _⟩ := ok_parts h
  have t1 := h8.1
  have t2 := h8.2
  have l1 := dec_len F.f_Things.toNat
  have l2 := dec_len F.f_Boat.toNat
  have q1 := Decimal_eq (N := N) (n := F.f_Things) (by omega) (by omega) (by omega)
  have q2 := Decimal_eq (N := N) (n := F.f_Boat) (by omega) (by omega) (by omega)
  have z := jw_zero F
  generalize Lib.decDigits F.f_Things.toNat = d1 at q1 l1 z
  generalize Lib.decDigits F.f_Boat.toNat = d2 at q2 l2 z
  have q := spec_loop hF h hN
  have s1 : (d1.length : Int) + (([32] : List UInt8).length : Int) ≤ 9223372036854775807 := by rw [List.length_singleton]; omega
  have s2 : ((d1 ++ [32]).length : Int) + (d2.length : Int) ≤ 9223372036854775807 := by rw [List.length_append, List.length_singleton]; omega
  unfold spec_l05FerryText.f
  rw [i64w_id (x := F.f_Things) (by omega) (by omega), i64w_id (x := F.f_Boat) (by omega) (by omega), q1, Option.bind_some, ba_size, ba_size, if_pos s1, q2, Option.bind_some, ba_app, ba_size, ba_size, if_pos s2, ba_app, ← z, q]
  rfl
theorem words_impl {N : Nat} {F : Fe} (hF : InF F) (h : okF F = true) (hN : 100 < N) :
    rounds (fun s => impl_FerryText.b0 N F s.1 s.2) N ((ws F 0).map fun x => (⟨x.toArray⟩ : ByteArray), 0) = some (.go ((ws F F.f_Rules.length).map fun x => (⟨x.toArray⟩ : ByteArray))) := by
  obtain ⟨h8, hb, h20, _⟩ := ok_parts h
  have q := rounds_for (b := fun s => impl_FerryText.b0 N F s.1 s.2) (e := .go ((ws F F.f_Rules.length).map fun x => (⟨x.toArray⟩ : ByteArray))) (fun k => ((ws F k).map fun x => (⟨x.toArray⟩ : ByteArray), (k : Int))) F.f_Rules.length 0 N (by omega) (by omega) (by
    intro i _ hi
    have hr := rule_range hF h (List.getElem_mem hi)
    have ht := txt_at (N := N) (by omega) hr.1 hr.2
    have g1 : (i : Int) < F.f_Rules.length := by omega
    have g2 : (0 : Int) ≤ i := by omega
    simp only [impl_FerryText.b0, g1, g2, and_self, if_true, rdL_nat hi, ht.1, Option.bind_some, i64w_succ hi (show F.f_Rules.length ≤ 9223372036854775807 by omega)]
    rw [if_pos (by simp [ws]; omega), ws_succ hi, List.map_append]
    rfl) (by
    simp only [impl_FerryText.b0]
    rw [if_neg (by omega)])
  simpa using q
theorem FerryText_same {N : Nat} {F : Fe} (hF : InF F) (hN : 100 < N) : ∃ r, spec_FerryText.f N F = some r ∧ impl_FerryText.f N F = some r := by
  simp only [spec_FerryText.f, impl_FerryText.f, F_eta, okF_spec hF (show 40 < N by omega), okF_impl hF (show 40 < N by omega), Option.bind_some]
  by_cases hk : okF F = true
  · obtain ⟨h8, hb, h20, _⟩ := ok_parts hk
    have t1 := h8.1
    have t2 := h8.2
    have hl := jw_len hF hk F.f_Rules.length (Nat.le_refl _)
    have hw := words_impl hF hk hN
    have e0 : [(⟨(Lib.decDigits F.f_Things.toNat).toArray⟩ : ByteArray), (⟨(Lib.decDigits F.f_Boat.toNat).toArray⟩ : ByteArray)] = (ws F 0).map fun x => (⟨x.toArray⟩ : ByteArray) := by simp [ws]
    have ej : ∀ l : List (List UInt8), ((l.map fun x => (⟨x.toArray⟩ : ByteArray)).map (·.data.toList)) = l := by
      intro l
      simp [Function.comp_def]
    have hwl : (ws F F.f_Rules.length).length ≤ 22 := by simp [ws]; omega
    rw [if_pos hk, if_pos hk]
    simp only [text_spec hF hk hN, i64w_id (x := F.f_Things) (by omega) (by omega), i64w_id (x := F.f_Boat) (by omega) (by omega), decimal_eq N (n := F.f_Things) (by omega) (by omega), decimal_eq N (n := F.f_Boat) (by omega) (by omega), Option.bind_some, e0, hw, Ex.fin, impl_FerryText.a0, strings_Join.f]
    refine ⟨_, rfl, ?_⟩
    rw [ej, if_pos ⟨by rw [List.length_map]; omega, by show (jw F F.f_Rules.length).length ≤ _; omega⟩]
    rfl
  · rw [if_neg hk, if_neg hk]
    exact ⟨_, rfl, rfl⟩
theorem laws_FnExactFerryText.told (a0 : S_laws_Ferry) (h0_0 : IntKind.min .i8 ≤ a0.f_Things ∧ a0.f_Things ≤ IntKind.max .i8) (h0_1 : IntKind.min .i8 ≤ a0.f_Boat ∧ a0.f_Boat ≤ IntKind.max .i8) (h0_2 : ∀ x ∈ a0.f_Rules, IntKind.min .u16 ≤ x ∧ x ≤ IntKind.max .u16) (l0_2 : a0.f_Rules.length ≤ 9223372036854775807) : ∃ N, laws_FnExactFerryText.f N a0 = some true := by
  have hF : InF a0 := ⟨h0_0, h0_1, h0_2⟩
  by_cases h : a0.f_Rules.length > 1048576
  · exact ⟨0, by simp only [laws_FnExactFerryText.f, F_eta, szFerry_neg h l0_2, Option.bind_some]; rfl⟩
  · refine ⟨a0.f_Rules.length + 200, ?_⟩
    obtain ⟨r, h1, h2⟩ := FerryText_same hF (N := a0.f_Rules.length + 200) (by omega)
    simp only [laws_FnExactFerryText.f, F_eta, szFerry_pos (N := a0.f_Rules.length + 200) (F := a0) (by omega), Option.bind_some, toFerry_eq (N := a0.f_Rules.length + 200) (F := a0) (by omega) (by omega), h1, h2, if_true, eqFerry_same (N := a0.f_Rules.length + 200) (F := a0) (by omega) (by omega)]
    rw [if_neg (by omega)]
end Go.Proofs.YtffjpapmmiennaaDoorX
