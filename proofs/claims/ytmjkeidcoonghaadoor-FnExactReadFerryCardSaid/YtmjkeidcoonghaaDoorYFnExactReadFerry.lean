/- FnExactReadFerry is true on every input: the plain side. -/
import Derived.Test.YtmjkeidcoonghaaDoorYN
import Derived.Test.YtmjkeidcoonghaaDoorYR
import Derived.Test.YtmjkeidcoonghaaDoorYF
namespace Go.Proofs.YtmjkeidcoonghaaDoorX
open Go
set_option linter.unusedVariables false
set_option linter.unusedSimpArgs false
abbrev W := S_impl_Ferry × Int
def badF : W := (⟨0, 0, []⟩, 5)
abbrev fS (t b : Int) (acc : List Int) (w : ByteArray) : Ex (Ex W (Int × Int × List Int)) (List Int) := if (spR w.data.toList).2 = true then .go (acc ++ [(spR w.data.toList).1]) else .ret (.ret badF)
abbrev fF (t b : Int) (acc : List Int) : Ex W (Int × Int × List Int) := .go (t, b, acc)
theorem spec_loopF {N : Nat} {ws : List ByteArray} {t b : Int} (hw : ∀ w ∈ ws, w.size ≤ 1048576) (hl : ws.length ≤ 1048577) (hN : 3000000 < N) (h2 : 2 ≤ ws.length) : rounds (fun s => spec_ReadFerry.b0 N ws s.1 s.2.1 s.2.2.1 s.2.2.2) N (t, b, [], 2) = some (walk (fS t b) (fF t b) [] (ws.drop 2)) := by
  have hd : (ws.drop 2).length = ws.length - 2 := by rw [List.length_drop]
  have q := rounds_walk0 (b := fun s => spec_ReadFerry.b0 N ws s.1 s.2.1 s.2.2.1 s.2.2.2) (N := N) (acc := ([] : List Int)) (fun acc i => (t, b, acc, i + 2)) (ws.drop 2) (fS t b) (fF t b) (fun i acc => acc.length = i) (by omega) rfl (by
    intro acc i hi hI
    have hi2 : i + 2 < ws.length := by omega
    have e2 : (i : Int) + 2 = ((i + 2 : Nat) : Int) := by omega
    have ew : (ws.drop 2)[i] = ws[i + 2] := by rw [List.getElem_drop]; congr 1; omega
    have hz := hw _ (List.getElem_mem hi2)
    have hb : spec_ReadFerry.b0 N ws t b acc ((i + 2 : Nat) : Int) = if (spR (ws[i + 2]).data.toList).2 = true then some (.next (t, b, acc ++ [(spR (ws[i + 2]).data.toList).1], ((i + 2 + 1 : Nat) : Int))) else some (.out (.ret badF)) := by
      unfold spec_ReadFerry.b0
      rw [if_pos (by omega), if_pos ⟨by omega, by omega⟩, rdL_nat hi2, read_spec hz (by omega), Option.bind_some, i64w_succ hi2 (by omega)]
      by_cases c : (spR (ws[i + 2]).data.toList).2 = true
      · rw [if_pos c, if_pos c, if_pos (by rw [List.length_singleton]; omega)]
      · rw [if_neg c, if_neg c]; rfl
    by_cases c : (spR (ws[i + 2]).data.toList).2 = true
    · rw [ew, show fS t b acc ws[i + 2] = .go (acc ++ [(spR (ws[i + 2]).data.toList).1]) from if_pos c]
      refine ⟨by rw [List.length_append, List.length_singleton, hI], ?_⟩
      show spec_ReadFerry.b0 N ws t b acc ((i : Int) + 2) = some (.next (t, b, acc ++ [(spR (ws[i + 2]).data.toList).1], ((i + 1 : Nat) : Int) + 2))
      rw [e2, hb, if_pos c, show ((i + 1 : Nat) : Int) + 2 = ((i + 2 + 1 : Nat) : Int) by omega]
    · rw [ew, show fS t b acc ws[i + 2] = .ret (.ret badF) from if_neg c]
      show spec_ReadFerry.b0 N ws t b acc ((i : Int) + 2) = _
      rw [e2, hb, if_neg c]) (by
    intro acc _
    show spec_ReadFerry.b0 N ws t b acc (((ws.drop 2).length : Int) + 2) = _
    unfold spec_ReadFerry.b0
    rw [if_neg (by omega)])
  exact q
theorem impl_loopF {N : Nat} {ws : List ByteArray} {t b : Int} (hw : ∀ w ∈ ws, w.size ≤ 1048576) (hl : ws.length ≤ 1048577) (hN : 3000000 < N) (h2 : 2 ≤ ws.length) : rounds (fun s => impl_ReadFerry.b0 N ws s.1 s.2.1 s.2.2.1 s.2.2.2) N (t, b, [], 0) = some (walk (fS t b) (fF t b) [] (ws.drop 2)) := by
  have hd : (ws.drop 2).length = ws.length - 2 := by rw [List.length_drop]
  have ed : (ws.drop ((2 : Int)).toNat).take (((ws.length : Int)).toNat - ((2 : Int)).toNat) = ws.drop 2 := by
    rw [Int.toNat_natCast]
    exact List.take_of_length_le (by rw [List.length_drop]; exact Nat.le_refl _)
  refine rounds_walk0 (fun acc i => (t, b, acc, i)) (ws.drop 2) (fS t b) (fF t b) (fun i acc => acc.length = i) (by omega) rfl ?_ ?_
  · intro acc i hi hI
    have hm : (ws.drop 2)[i] ∈ ws := List.mem_of_mem_drop (List.getElem_mem hi)
    have hz := hw _ hm
    have hb : impl_ReadFerry.b0 N ws t b acc (i : Int) = if (spR ((ws.drop 2)[i]).data.toList).2 = true then some (.next (t, b, acc ++ [(spR ((ws.drop 2)[i]).data.toList).1], ((i + 1 : Nat) : Int))) else some (.out (.ret badF)) := by
      unfold impl_ReadFerry.b0 impl_ReadThings.f
      rw [ed, if_pos (by omega), if_pos ⟨by omega, by omega⟩, rdL_nat hi, read_impl (many := 8) (lim := 256) (.inr ⟨rfl, rfl⟩) hz (by omega), Option.bind_some, i64w_succ hi (by omega)]
      by_cases c : (spR ((ws.drop 2)[i]).data.toList).2 = true
      · have hr := (sp_ok c).1
        rw [im_of_sp8 c, if_pos c]
        show ((if true = true then some (u16w (spR ((ws.drop 2)[i]).data.toList).1, 0) else some (0, 5)).bind _) = _
        rw [if_pos rfl, Option.bind_some, if_pos rfl, u16w_id (by omega) (by omega), if_pos (by rw [List.length_singleton]; omega)]
      · have hn : ¬ (imR 8 ((ws.drop 2)[i]).data.toList).2 = true := fun g => c (by rw [sp_of_im (.inr ⟨rfl, rfl⟩) g])
        rw [if_neg hn, if_neg c, Option.bind_some, if_neg (by decide)]; rfl
    by_cases c : (spR ((ws.drop 2)[i]).data.toList).2 = true
    · rw [show fS t b acc (ws.drop 2)[i] = .go (acc ++ [(spR ((ws.drop 2)[i]).data.toList).1]) from if_pos c]
      refine ⟨by rw [List.length_append, List.length_singleton, hI], ?_⟩
      show impl_ReadFerry.b0 N ws t b acc (i : Int) = _
      rw [hb, if_pos c]
    · rw [show fS t b acc (ws.drop 2)[i] = .ret (.ret badF) from if_neg c]
      show impl_ReadFerry.b0 N ws t b acc (i : Int) = _
      rw [hb, if_neg c]
  · intro acc _
    show impl_ReadFerry.b0 N ws t b acc ((ws.drop 2).length : Int) = _
    unfold impl_ReadFerry.b0
    rw [ed, if_neg (by omega)]
theorem f_walk (t b : Int) : ∀ (ws : List ByteArray) (acc : List Int), (∀ x ∈ acc, 0 ≤ x ∧ x ≤ 65535) → walk (fS t b) (fF t b) acc ws = .ret badF ∨ ∃ out, walk (fS t b) (fF t b) acc ws = .go (t, b, out) ∧ ∀ x ∈ out, 0 ≤ x ∧ x ≤ 65535
  | [], acc, h => .inr ⟨acc, rfl, h⟩
  | w :: ws, acc, h => by
    by_cases c : (spR w.data.toList).2 = true
    · simp only [walk, fS, if_pos c]
      have hr := (sp_ok c).1
      refine f_walk t b ws (acc ++ [(spR w.data.toList).1]) ?_
      intro x hx
      rcases List.mem_append.1 hx with hx | hx
      · exact h x hx
      · rw [List.mem_singleton] at hx; subst hx; omega
    · simp only [walk, fS, if_neg c]
      exact .inl trivial
theorem ok20 {F : Fe} (h : okF F = true) : F.f_Rules.length ≤ 20 := by
  simp only [okF, Bool.and_eq_true, decide_eq_true_eq] at h
  exact h.2.2.1
theorem ReadFerry_same {N : Nat} {s : ByteArray} (hs : s.size ≤ 1048576) (hN : 4000000 < N) : ∃ r, spec_ReadFerry.f N s = some r ∧ impl_ReadFerry.f N s = some r ∧ r.1.f_Rules.length ≤ 20 := by
  unfold spec_ReadFerry.f impl_ReadFerry.f
  have e32 : (32 : Int) = (((32 : UInt8).toNat : Nat) : Int) := rfl
  have hw : ∀ w ∈ Lib.splitB ⟨#[32]⟩ 0 (Lib.countB s ⟨#[32]⟩) s, w.size ≤ 1048576 := fun w h => Nat.le_trans (word_len h) hs
  have hl : (Lib.splitB ⟨#[32]⟩ 0 (Lib.countB s ⟨#[32]⟩) s).length ≤ 1048577 := Nat.le_trans words_len (by omega)
  rw [e32, split_spec hs (show s.size < N by omega), split_impl hs, Option.bind_some, Option.bind_some]
  generalize Lib.splitB ⟨#[32]⟩ 0 (Lib.countB s ⟨#[32]⟩) s = ws at hw hl
  have hbad : badF.1.f_Rules.length ≤ 20 := by decide
  by_cases h2 : (ws.length : Int) < 2
  · rw [if_pos h2, if_pos h2]; exact ⟨badF, rfl, rfl, hbad⟩
  · have hw2 : 2 ≤ ws.length := by omega
    have g0 : (0 : Int) ≤ 0 ∧ (0 : Int) < ws.length := ⟨by omega, by omega⟩
    have g1 : (0 : Int) ≤ 1 ∧ (1 : Int) < ws.length := ⟨by omega, by omega⟩
    have g2 : (0 : Int) ≤ (2 : Int) ∧ (2 : Int) ≤ (ws.length : Int) ∧ (ws.length : Int) ≤ (ws.length : Int) := ⟨by omega, by omega, by omega⟩
    have r0 : rdL ws 0 (⟨#[]⟩ : ByteArray) = ws[0] := rdL_nat (i := 0) (by omega)
    have r1 : rdL ws 1 (⟨#[]⟩ : ByteArray) = ws[1] := rdL_nat (i := 1) (by omega)
    have z0 := hw _ (List.getElem_mem (show 0 < ws.length by omega))
    have z1 := hw _ (List.getElem_mem (show 1 < ws.length by omega))
    rw [if_neg h2, if_neg h2, if_pos g0, if_pos g0, r0, number_spec (by omega), number_impl N z0, Option.bind_some, Option.bind_some, if_pos g1, if_pos g1, r1, number_spec (by omega), number_impl N z1, Option.bind_some, Option.bind_some, if_pos g2, impl_loopF hw hl (by omega) hw2, Option.bind_some]
    by_cases c0 : (nuI 8 (ws[0]).data.toList).2 = true
    · obtain ⟨e0, q0⟩ := nuS_of_nuI (by decide) c0
      by_cases c1 : (nuI 8 (ws[1]).data.toList).2 = true
      · obtain ⟨e1, q1⟩ := nuS_of_nuI (by decide) c1
        rw [e0, e1]
        simp only [if_true]
        rw [if_neg (by omega), if_neg (by omega), spec_loopF hw hl (by omega) hw2, Option.bind_some, i8w_id (by omega) (by omega), i8w_id (by omega) (by omega)]
        rcases f_walk (nuI 8 (ws[0]).data.toList).1 (nuI 8 (ws[1]).data.toList).1 (ws.drop 2) [] (by simp) with h | ⟨out, h, ho⟩
        · rw [h]; exact ⟨badF, rfl, rfl, hbad⟩
        · rw [h]
          show ∃ r, spec_ReadFerry.a0 N (nuI 8 (ws[0]).data.toList).1 (nuI 8 (ws[1]).data.toList).1 out = some r ∧ impl_ReadFerry.a0 N (nuI 8 (ws[0]).data.toList) (nuI 8 (ws[1]).data.toList) (nuI 8 (ws[0]).data.toList).1 (nuI 8 (ws[1]).data.toList).1 out = some r ∧ _
          have hF : InF (⟨(nuI 8 (ws[0]).data.toList).1, (nuI 8 (ws[1]).data.toList).1, out⟩ : Fe) := ⟨⟨by show -128 ≤ (nuI 8 (ws[0]).data.toList).1; omega, by show (nuI 8 (ws[0]).data.toList).1 ≤ 127; omega⟩, ⟨by show -128 ≤ (nuI 8 (ws[1]).data.toList).1; omega, by show (nuI 8 (ws[1]).data.toList).1 ≤ 127; omega⟩, ho⟩
          unfold spec_ReadFerry.a0 impl_ReadFerry.a0
          rw [if_pos c0, if_pos c1, okF_spec hF (by omega), okF_impl hF (by omega), Option.bind_some]
          by_cases k : okF (⟨(nuI 8 (ws[0]).data.toList).1, (nuI 8 (ws[1]).data.toList).1, out⟩ : Fe) = true
          · rw [if_pos k]; exact ⟨_, rfl, rfl, ok20 k⟩
          · rw [if_neg k]; exact ⟨badF, rfl, rfl, hbad⟩
      · have hi : ∀ e, (walk (fS (i8w (nuI 8 (ws[0]).data.toList).1) (i8w (nuI 8 (ws[1]).data.toList).1)) (fF (i8w (nuI 8 (ws[0]).data.toList).1) (i8w (nuI 8 (ws[1]).data.toList).1)) [] (ws.drop 2)) = e → Ex.fin (fun s => impl_ReadFerry.a0 N (nuI 8 (ws[0]).data.toList) (nuI 8 (ws[1]).data.toList) s.1 s.2.1 s.2.2) e = some badF := by
          intro e he
          rcases f_walk (i8w (nuI 8 (ws[0]).data.toList).1) (i8w (nuI 8 (ws[1]).data.toList).1) (ws.drop 2) [] (by simp) with h | ⟨out, h, ho⟩
          · rw [← he, h]; rfl
          · rw [← he, h]
            show impl_ReadFerry.a0 N _ _ _ _ _ = _
            unfold impl_ReadFerry.a0
            rw [if_pos c0, if_neg c1]; rfl
        rw [hi _ rfl, e0]
        simp only [if_true]
        refine ⟨badF, ?_, rfl, hbad⟩
        by_cases c2 : (nuS (ws[1]).data.toList).2 = true
        · rw [if_pos c2, if_neg (by omega)]
          by_cases c3 : (nuS (ws[1]).data.toList).1 > 8
          · rw [if_pos c3]; rfl
          · exact absurd (by rw [nuI_of_nuS (by decide) c2 (by omega)]) c1
        · rw [if_neg c2]; rfl
    · have hi : ∀ e, (walk (fS (i8w (nuI 8 (ws[0]).data.toList).1) (i8w (nuI 8 (ws[1]).data.toList).1)) (fF (i8w (nuI 8 (ws[0]).data.toList).1) (i8w (nuI 8 (ws[1]).data.toList).1)) [] (ws.drop 2)) = e → Ex.fin (fun s => impl_ReadFerry.a0 N (nuI 8 (ws[0]).data.toList) (nuI 8 (ws[1]).data.toList) s.1 s.2.1 s.2.2) e = some badF := by
        intro e he
        rcases f_walk (i8w (nuI 8 (ws[0]).data.toList).1) (i8w (nuI 8 (ws[1]).data.toList).1) (ws.drop 2) [] (by simp) with h | ⟨out, h, ho⟩
        · rw [← he, h]; rfl
        · rw [← he, h]
          show impl_ReadFerry.a0 N _ _ _ _ _ = _
          unfold impl_ReadFerry.a0
          rw [if_neg c0]; rfl
      rw [hi _ rfl]
      refine ⟨badF, ?_, rfl, hbad⟩
      by_cases c2 : (nuS (ws[0]).data.toList).2 = true
      · rw [if_pos c2]
        have c3 : (nuS (ws[0]).data.toList).1 > 8 := by
          by_cases c3 : (nuS (ws[0]).data.toList).1 > 8
          · exact c3
          · exact absurd (by rw [nuI_of_nuS (by decide) c2 (by omega)]) c0
        by_cases c4 : (nuS (ws[1]).data.toList).2 = true
        · rw [if_pos c4, if_pos c3]; rfl
        · rw [if_neg c4]; rfl
      · rw [if_neg c2]; rfl
theorem laws_FnExactReadFerry.told (a0 : ByteArray) : ∃ N, laws_FnExactReadFerry.f N a0 = some true := by
  by_cases h : (a0.size : Int) > 1048576
  · exact ⟨0, by simp only [laws_FnExactReadFerry.f, if_pos h]⟩
  · refine ⟨5000000, ?_⟩
    obtain ⟨r, e1, e2, hr⟩ := ReadFerry_same (N := 5000000) (s := a0) (by omega) (by omega)
    have em : laws_markFerry.f 5000000 r.1 1 = some (1 + (r.1.f_Rules.length : Int), marked u16w 1 r.1.f_Rules.length) := by
      simp only [laws_markFerry.f, markUint16S_eq (N := 5000000) (a := r.1.f_Rules) (k := 1) ⟨by omega, by omega⟩ (by omega) (by omega), Option.bind_some]
    have hn : ¬ (1 + (r.1.f_Rules.length : Int) < 0) := by omega
    have eh : laws_heldFerry.f 5000000 (⟨r.1.f_Things, r.1.f_Boat, marked u16w 1 r.1.f_Rules.length⟩ : Fe) 1 = some (1 + (r.1.f_Rules.length : Int)) := by
      simp only [laws_heldFerry.f, heldUint16S_eq (N := 5000000) (n := r.1.f_Rules.length) (k := 1) ⟨by omega, by omega⟩ (by omega) (by omega), Option.bind_some, hn, if_false]
    unfold laws_FnExactReadFerry.f
    rw [if_neg h, e1, e2, Option.bind_some, Option.bind_some]
    simp only [F_eta, eqFerry_same (N := 5000000) (F := r.1) (by omega) (by omega), Option.bind_some, if_true, em, eh, hn, if_false]
end Go.Proofs.YtmjkeidcoonghaaDoorX
