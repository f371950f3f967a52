/- Struct and array literals. -/
import Derived.Test.YtgpdpedpmhonkaaXMore
namespace Go.Proofs.YtgpdpedpmhonkaaX
open Go Go.RowKit
set_option linter.unusedVariables false
set_option linter.unusedSimpArgs false
set_option linter.unusedSectionVars false

theorem foldl_put (vs : List Value) : ∀ (n off : Nat) (cs : Array Value), off + n + vs.length ≤ cs.size →
    (vs.zipIdx n).foldl (fun (cs : Array Value) (p : Value × Nat) => cs.setIfInBounds (off + p.2) p.1) cs = (cs.toList.take (off + n) ++ (vs ++ cs.toList.drop (off + n + vs.length))).toArray := by
  induction vs with
  | nil => intro n off cs h; simp
  | cons v vs ih =>
    intro n off cs h
    simp only [List.length_cons] at h
    rw [List.zipIdx_cons, List.foldl_cons, ih (n + 1) off _ (by simp; omega)]
    congr 1
    have h1 : (cs.setIfInBounds (off + n) v).toList = cs.toList.set (off + n) v := by simp
    have := list_seg_step cs.toList (off + n) v vs (by simp; omega)
    rw [h1]
    simpa [Nat.add_assoc, Nat.add_comm, Nat.add_left_comm] using this

def segPl : Nat → List (List Value) → List (Nat × Nat)
  | _, [] => []
  | o, s :: ss => (o, s.length) :: segPl (o + s.length) ss
theorem segPl_get : ∀ (ss : List (List Value)) (o i : Nat) (s : List Value), ss[i]? = some s → (segPl o ss)[i]? = some (o + (ss.take i).flatten.length, s.length)
  | [], _, _, _, h => by simp at h
  | x :: ss, o, 0, s, h => by simp at h; subst h; simp [segPl]
  | x :: ss, o, i + 1, s, h => by
    have := segPl_get ss (o + x.length) i s (by simpa using h)
    simp only [segPl, List.getElem?_cons_succ, this, List.take_succ_cons, List.flatten_cons, List.length_append]
    congr 2
    omega
theorem segPl_set : ∀ (ss : List (List Value)) (o i : Nat) (s vs : List Value), ss[i]? = some s → vs.length = s.length → segPl o (ss.set i vs) = segPl o ss
  | [], _, _, _, _, h, _ => by simp at h
  | x :: ss, o, 0, s, vs, h, hl => by simp at h; subst h; simp [segPl, hl]
  | x :: ss, o, i + 1, s, vs, h, hl => by
    simp only [List.set_cons_succ, segPl]
    rw [segPl_set ss (o + x.length) i s vs (by simpa using h) hl]
theorem seg_set : ∀ (ss : List (List Value)) (i : Nat) (s vs : List Value), ss[i]? = some s → vs.length = s.length →
    ss.flatten.take ((ss.take i).flatten.length) ++ (vs ++ ss.flatten.drop ((ss.take i).flatten.length + vs.length)) = (ss.set i vs).flatten
  | [], _, _, _, h, _ => by simp at h
  | x :: ss, 0, s, vs, h, hl => by
    simp at h; subst h
    simp [hl]
  | x :: ss, i + 1, s, vs, h, hl => by
    have ih := seg_set ss i s vs (by simpa using h) hl
    simp only [List.take_succ_cons, List.flatten_cons, List.length_append, List.set_cons_succ, ← ih]
    rw [List.take_append, List.take_of_length_le (by omega), List.drop_append, List.drop_eq_nil_of_le (by omega), List.nil_append, List.append_assoc]
    congr 2
    · congr 1; omega
    · congr 2; omega
theorem fill_segs : ∀ (parts : List (Nat × Value)) (segs : List (List Value)), (∀ p ∈ parts, ∃ s, segs[p.1]? = some s ∧ p.2.cells.size = s.length) →
    Instr.fill (fun i => (segPl 0 segs)[i]?) segs.flatten.toArray parts = some ((parts.foldl (fun s p => s.set p.1 p.2.cells.toList) segs).flatten.toArray)
  | [], segs, _ => rfl
  | (i, v) :: parts, segs, h => by
    obtain ⟨s, hs, hv⟩ := h (i, v) (by simp)
    have hp := segPl_get segs 0 i s hs
    have hfit : (segs.take i).flatten.length + s.length ≤ segs.flatten.length := by
      have hi : i < segs.length := (List.getElem?_eq_some_iff.1 hs).1
      have e : segs = segs.take i ++ s :: segs.drop (i + 1) := by
        have := (List.getElem?_eq_some_iff.1 hs).2
        conv => lhs; rw [← List.take_append_drop i segs]
        rw [List.drop_eq_getElem_cons hi, this]
      conv => rhs; rw [e]
      simp
    have hc1 : ¬ (v.cells.size ≠ s.length) := by simpa using hv
    have hc2 : ¬ (segs.flatten.toArray.size < 0 + (segs.take i).flatten.length + v.cells.size) := by rw [List.size_toArray, hv]; omega
    have hfold : v.cells.zipIdx.foldl (fun cs (c, j) => cs.setIfInBounds (0 + (segs.take i).flatten.length + j) c) segs.flatten.toArray = ((segs.set i v.cells.toList).flatten).toArray := by
      rw [← Array.foldl_toList, Array.toList_zipIdx]
      have := foldl_put v.cells.toList 0 (0 + (segs.take i).flatten.length) segs.flatten.toArray (by simp only [List.size_toArray, Array.length_toList, hv]; omega)
      refine this.trans ?_
      congr 1
      have h2 := seg_set segs i s v.cells.toList hs (by simpa using hv)
      simpa using h2
    have ih := fill_segs parts (segs.set i v.cells.toList) (fun p hp' => by
      obtain ⟨s', hs', hv'⟩ := h p (List.mem_cons_of_mem _ hp')
      by_cases e : i = p.1
      · have hi : i < segs.length := (List.getElem?_eq_some_iff.1 hs).1
        subst e
        rw [hs] at hs'; cases hs'
        exact ⟨v.cells.toList, by simp [hi], by rw [hv']; simp [hv]⟩
      · exact ⟨s', by rw [List.getElem?_set_ne e]; exact hs', hv'⟩)
    rw [segPl_set segs 0 i s _ hs (by simpa using hv)] at ih
    simp only [Instr.fill, hp, List.foldl_cons]
    rw [if_neg (by simp only [Bool.or_eq_true, decide_eq_true_eq, not_or]; exact ⟨hc1, by simpa using hc2⟩)]
    exact (congrArg (fun c => Instr.fill _ c parts) hfold).trans ih

section
variable {P : Program} {t : List Value} {w : World} {o : Oper}
def PlOk (P : Program) : List Field → List (Nat × Nat) → Prop
  | [], [] => True
  | f :: fs, (a, s) :: pl => f.offset = a ∧ (∀ w, (Go.sizeOf f.type).run P w = .ok s w) ∧ PlOk P fs pl
  | _, _ => False
def place1 (f : Field) : Sem (Nat × Nat) := do pure (f.offset, ← Go.sizeOf f.type)
theorem PlOk.run {P : Program} {w : World} : ∀ {fs : List Field} {pl : List (Nat × Nat)}, PlOk P fs pl → (fs.mapM place1).run P w = .ok pl w
  | [], [], _ => by simp
  | f :: fs, (a, s) :: pl, ⟨h1, h2, h3⟩ => by
    have ih := PlOk.run (P := P) (w := w) h3
    have e1 : (place1 f).run P w = .ok (a, s) w := by simp [place1, h2, h1]
    simp only [List.mapM_cons, Sem.run_bind, e1, Result.andThen_ok, ih]
    rfl
  | [], _ :: _, h => h.elim
  | _ :: _, [], h => h.elim
theorem build_eq (T : TypeId) (ps : Array (Nat × Value)) : Instr.build T ps = (do
    let zero := (← zeroValue T).cells
    match ← underlying T with
    | .struct fields =>
      let places ← fields.mapM place1
      let some cells := Instr.fill (places[·]?) zero ps.toList | stuck "build: no such field, or a part of the wrong size"
      pure (.agg cells)
    | .array _ elem =>
      let size ← Go.sizeOf elem
      let some cells := Instr.fill (fun i => some (i * size, size)) zero ps.toList | stuck "build: a part of the wrong size"
      pure (.agg cells)
    | _ => stuck "build: struct or array type expected") := rfl
/-- A struct literal: the cells field by field. -/
theorem x_buildS {T : TypeId} {ps : List (Nat × Operand)} {fs : List Field} {segs : List (List Value)} {cs : List Value} (hop : o.op = .build T ps.toArray) (hT : P.underlying T = some (.struct fs.toArray))
    (hz : ∀ w, (zeroValue T).run P w = .ok (.agg segs.flatten.toArray) w) (hpl : PlOk P fs (segPl 0 segs))
    (hps : ∀ p ∈ ps.map (fun x => (x.1, ev t x.2)), ∃ s, segs[p.1]? = some s ∧ p.2.cells.size = s.length) (hc : ((ps.map fun x => (x.1, ev t x.2)).foldl (fun s p => s.set p.1 p.2.cells.toList) segs).flatten = cs) :
    (execOp (ev t) o).run P w = .ok (.value (.agg cs.toArray)) w := by
  subst hc
  have hf := fill_segs (ps.map fun x => (x.1, ev t x.2)) segs hps
  refine x_build hop ?_
  have h1 := hpl.run (w := w)
  have e1 : (fun (x : Nat) => (segPl 0 segs).toArray[x]?) = (fun (i : Nat) => (segPl 0 segs)[i]?) := by funext x; simp
  have h2 : (fs.toArray.mapM place1).run P w = .ok (segPl 0 segs).toArray w := by rw [List.mapM_toArray]; simp [h1]
  rw [build_eq]
  simp only [Sem.run_bind, hz, Result.andThen_ok, run_underlying hT, h2, Value.cells, e1, hf, Sem.run_pure]
end
theorem slCells {α : Type} {κ : K α} {w : World} {v : Value} {xs : List α} (h : RdRow κ w v xs) : v.cells = [v].toArray := by obtain ⟨A, cap, rfl, _⟩ := h; rfl
theorem slSize {α : Type} {κ : K α} {w : World} {v : Value} {xs : List α} (h : RdRow κ w v xs) : v.cells.size = 1 := by rw [slCells h]; rfl
theorem slOne {α : Type} {κ : K α} {w : World} {v : Value} {xs : List α} (h : RdRow κ w v xs) : v.oneCell' = true := by obtain ⟨A, cap, rfl, _⟩ := h; rfl
end Go.Proofs.YtgpdpedpmhonkaaX
