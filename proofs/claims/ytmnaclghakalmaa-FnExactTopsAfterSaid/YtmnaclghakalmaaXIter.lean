/- Ranges over maps: whichever entry comes next; and walks whose choices are open. -/
import Derived.Test.YtmnaclghakalmaaXEnt
import Derived.Test.YtmnaclghakalmaaXDem
import Derived.Maps.RangeRun
namespace Go.Proofs.YtmnaclghakalmaaX
open Go Go.RowKit Go.ChangeMaps
set_option linter.unusedVariables false
set_option linter.unusedSimpArgs false
set_option linter.unusedSectionVars false
section
variable {κ ν : Type}
/-- Those whose places have not been seen. -/
def unseen (kv : List (κ × ν)) (seen : Array Nat) : List ((κ × ν) × Nat) := kv.zipIdx.filter fun p => !seen.contains p.2
theorem one_at : ∀ (kv : List (κ × ν)) (n i : Nat) (p : κ × ν), kv[i]? = some p → (kv.zipIdx n).filter (fun q => q.2 == n + i) = [(p, n + i)]
  | [], _, _, _, h => by simp at h
  | x :: kv, n, 0, p, h => by
    simp only [List.getElem?_cons_zero, Option.some.injEq] at h
    subst h
    rw [Nat.add_zero]
    have : (kv.zipIdx (n + 1)).filter (fun q => q.2 == n) = [] := by
      rw [List.filter_eq_nil_iff]
      intro q hq
      have := (List.mem_zipIdx hq).1
      simp; omega
    rw [List.zipIdx_cons, List.filter_cons_of_pos (by simp), this]
  | x :: kv, n, i + 1, p, h => by
    have ih := one_at kv (n + 1) i p (by simpa using h)
    rw [show n + (i + 1) = n + 1 + i by omega]
    rw [List.zipIdx_cons, List.filter_cons_of_neg (by simp; omega)]
    exact ih
theorem unseen_push {kv : List (κ × ν)} {seen : Array Nat} {i : Nat} {p : κ × ν} (h : kv[i]? = some p) (hi : seen.contains i = false) : (unseen kv seen).Perm ((p, i) :: unseen kv (seen.push i)) := by
  have h1 : (unseen kv seen).filter (fun q => q.2 == i) = [(p, i)] := by
    unfold unseen
    rw [List.filter_filter]
    have e := one_at kv 0 i p h
    simp only [Nat.zero_add] at e
    rw [← e]
    refine List.filter_congr fun q _ => ?_
    by_cases c : q.2 = i
    · subst c; rw [beq_self_eq_true, hi]; rfl
    · simp [c]
  have h2 : (unseen kv seen).filter (fun q => !(q.2 == i)) = unseen kv (seen.push i) := by
    unfold unseen
    rw [List.filter_filter]
    refine List.filter_congr fun q _ => ?_
    rw [Array.contains_push]
    cases (q.2 == i) <;> cases seen.contains q.2 <;> rfl
  have h3 := List.filter_append_perm (fun q : (κ × ν) × Nat => q.2 == i) (unseen kv seen)
  rw [h1, h2] at h3
  exact h3.symm
end
section
variable {κ ν : Type} [DecidableEq κ] {ek : κ → Value} {en : ν → Value}
/-- Block r ranges over the map in block b, which holds kv; left: those that are still to come; cur: what came last. -/
def IterAs (r b : Nat) (kv left : List (κ × ν)) (cur : Option (κ × ν)) : As :=
  ⟨fun F w => F = [r] ∧ ∃ seen, w.heap[r]? = some (.mapIter (some b) kv.length seen kv.length) ∧ ((unseen kv seen).map (·.1)).Perm left ∧ ∀ p, cur = some p → ∃ i, seen.back? = some i ∧ kv[i]? = some p,
   fun h ⟨e, s, hb, hr⟩ => by subst e; exact ⟨rfl, s, by rw [h r (by simp)]; exact hb, hr⟩,
   fun ⟨e, s, hb, _⟩ => by subst e; simp; exact (Array.getElem?_eq_some_iff.1 hb).1⟩
variable {P : Program} {f : FuncId} {R : Ending → World → Prop} {k : List Item} {t : List Value} {w0 w : World} {Γ : List As} {ops : Array Oper} {i : Nat} {rest : List Nat} {o : Oper}
theorem s_range {b : Nat} {kv : List (κ × ν)} (h : St w0 (MapAs b ek en kv :: Γ) w) (ho : ops[i]? = some o) (hw : Region.wanted o (yl ops t) = true) {T kt vt : TypeId} {m : Operand} (hop : o.op = .range T m) (hT : P.underlying T = some (.map kt vt))
    (hm : ev t m = .map (some b)) (hk : ∀ r w1, St w0 (IterAs r b kv kv none :: MapAs b ek en kv :: Γ) w1 → G P f R (.inRegion ops rest :: k) (put t o.dst (.pointer (some ⟨r, 0, none⟩))) w1) : G P f R (.inRegion ops (i :: rest) :: k) t w := by
  obtain ⟨F, ⟨rfl, es, hb, he, hborn⟩, _⟩ := h.head
  have hlen : es.size = kv.length := by have := congrArg List.length he; simpa using this
  refine g_op (v := .pointer (some ⟨w.heap.size, 0, none⟩)) (w' := w.alloc (.mapIter (some b) es.size #[] es.size)) ho hw ?_ (hk _ _ ?_)
  · simp only [execOp, hop, hm]
    exact run_value (run_range_map w T kt vt b es es.size hT hb)
  · refine h.new (Turn.alloc w _) (F' := [w.heap.size]) ⟨rfl, #[], ?_, ?_, fun p hp => by cases hp⟩ (by simp) (by simp)
    · rw [heap_alloc_new w _, hlen]
    · have : unseen kv #[] = kv.zipIdx := by
        unfold unseen
        rw [List.filter_eq_self]
        intro q _
        simp
      rw [this]
      have e2 : (kv.zipIdx).map (·.1) = kv := by simp
      rw [e2]
theorem s_next {r b : Nat} {kv left : List (κ × ν)} {cur : Option (κ × ν)} (h : St w0 (IterAs r b kv left cur :: MapAs b ek en kv :: Γ) w) (ho : ops[i]? = some o) (hw : Region.wanted o (yl ops t) = true) {m : Operand} (hop : o.op = .next m false)
    (hm : ev t m = .pointer (some ⟨r, 0, none⟩))
    (hk0 : left = [] → ∀ w1, St w0 (IterAs r b kv left cur :: MapAs b ek en kv :: Γ) w1 → G P f R (.inRegion ops rest :: k) (put t o.dst (.tuple #[.bool false])) w1)
    (hk1 : ∀ p l, left.Perm (p :: l) → ∀ w1, St w0 (IterAs r b kv l (some p) :: MapAs b ek en kv :: Γ) w1 → G P f R (.inRegion ops rest :: k) (put t o.dst (.tuple #[.bool true, ek p.1, en p.2])) w1) : G P f R (.inRegion ops (i :: rest) :: k) t w := by
  obtain ⟨F, ⟨rfl, seen, hr, hl, hc⟩, _⟩ := h.head
  obtain ⟨F2, ⟨rfl, es, hb, he, hborn⟩, _⟩ := (h.pull 1 rfl).head
  have hlen : es.size = kv.length := by have := congrArg List.length he; simpa using this
  have hold : ∀ x ∈ es.toList, x.born < kv.length := by
    intro x hx
    obtain ⟨j, hj, rfl⟩ := List.mem_iff_getElem.1 hx
    have hj' : j < es.size := by simpa using hj
    have := hborn j es[j] (Array.getElem?_eq_getElem hj')
    simp only [Array.getElem_toList]
    omega
  rcases run_next_at (P := P) w o.type r b kv.length kv.length seen es es.size hr hb hold (Nat.le_refl _) with ⟨h0, hrun⟩ | ⟨e, hel, w1, hw1, hrun⟩
  · refine g_op (v := .tuple #[.bool false]) (w' := w) ho hw ?_ (hk0 ?_ w h)
    · simp only [execOp, hop, hm]
      exact run_value hrun
    · have hu : unseen kv seen = [] := by
        unfold unseen
        rw [List.filter_eq_nil_iff]
        intro q hq hn
        obtain ⟨_, hlt, hqe⟩ := List.mem_zipIdx hq
        have hq2 : q.2 < es.size := by omega
        have hmem : es[q.2] ∈ leftOf es seen := by
          unfold leftOf
          rw [Array.mem_filter]
          refine ⟨Array.getElem_mem hq2, ?_⟩
          rw [hborn q.2 es[q.2] (Array.getElem?_eq_getElem hq2)]
          exact hn
        rw [Array.size_eq_zero_iff.1 h0] at hmem
        simp at hmem
      rw [hu] at hl
      exact (List.nil_perm.1 hl)
  · have he1 : e ∈ es ∧ (!seen.contains e.born) = true := by
      have := Array.mem_toList_iff.1 hel
      unfold leftOf at this
      exact Array.mem_filter.1 this
    obtain ⟨j, hj, rfl⟩ := Array.mem_iff_getElem.1 he1.1
    have hbj : es[j].born = j := hborn j es[j] (Array.getElem?_eq_getElem hj)
    have hjk : j < kv.length := by omega
    have hkv : kv[j]? = some kv[j] := List.getElem?_eq_getElem hjk
    have hsn : seen.contains j = false := by
      have := he1.2
      rw [hbj] at this
      simpa using this
    have hent := congrArg (fun l => l[j]?) he
    simp only [List.getElem?_map, Array.getElem?_toList, Array.getElem?_eq_getElem hj, hkv, Option.map_some, Option.some.injEq, Prod.mk.injEq] at hent
    have hperm : left.Perm (kv[j] :: (unseen kv (seen.push j)).map (·.1)) := by
      have := (unseen_push hkv hsn).map (·.1)
      exact hl.symm.trans this
    rw [hent.1, hent.2, hbj] at hrun
    refine g_op (v := .tuple #[.bool true, ek kv[j].1, en kv[j].2]) (w' := setBlock w1 r (.mapIter (some b) kv.length (seen.push j) es.size)) ho hw ?_ (hk1 kv[j] _ hperm _ ?_)
    · simp only [execOp, hop, hm]
      exact run_value hrun
    · have hrlt : r < w.heap.size := (Array.getElem?_eq_some_iff.1 hr).1
      have hw1' : w1.heap = w.heap ∧ w1.os = w.os ∧ w1.tape = w.tape ∧ w1.output = w.output := by
        rcases hw1 with rfl | rfl
        · exact ⟨rfl, rfl, rfl, rfl⟩
        · exact ⟨rfl, rfl, rfl, rfl⟩
      refine h.turn fun F hF hnd => ?_
      obtain ⟨rfl, _⟩ := hF
      refine ⟨⟨hw1'.2.1, hw1'.2.2.1, hw1'.2.2.2, by simp [setBlock, hw1'.1], fun c hc hcb => ?_⟩, [r], ⟨rfl, seen.push j, ?_, List.Perm.refl _, ?_⟩, by simp, fun c hc => .inl hc⟩
      · have : ¬ r = c := fun e => hcb (by simp [e])
        simp [setBlock, hw1'.1, Array.getElem?_setIfInBounds, this]
      · simp [setBlock, hw1'.1, hrlt, hlen]
      · intro p hp
        cases hp
        exact ⟨j, by simp, hkv⟩
theorem find_born_at {es : Array MapEntry} (hb : ∀ (i : Nat) e, es[i]? = some e → e.born = i) {j : Nat} (hj : j < es.size) : es.find? (·.born == j) = some es[j] := by
  rw [← Array.find?_toList]
  rw [List.find?_eq_some_iff_getElem]
  have hj' : es[j].born = j := hb j es[j] (Array.getElem?_eq_getElem hj)
  refine ⟨by simp [hj'], j, by simpa using hj, by simp, fun i hi => ?_⟩
  have hi' : i < es.size := by omega
  have := hb i es[i] (Array.getElem?_eq_getElem hi')
  simp [this]; omega
theorem s_entry {r b : Nat} {kv left : List (κ × ν)} {p : κ × ν} (h : St w0 (IterAs r b kv left (some p) :: MapAs b ek en kv :: Γ) w) (ho : ops[i]? = some o) (hw : Region.wanted o (yl ops t) = true) {m : Operand} (hop : o.op = .entry m)
    (hm : ev t m = .pointer (some ⟨r, 0, none⟩)) (hk : G P f R (.inRegion ops rest :: k) (put t o.dst (.tuple #[ek p.1, en p.2])) w) : G P f R (.inRegion ops (i :: rest) :: k) t w := by
  obtain ⟨F, ⟨rfl, seen, hr, hl, hc⟩, _⟩ := h.head
  obtain ⟨F2, ⟨rfl, es, hb, he, hborn⟩, _⟩ := (h.pull 1 rfl).head
  have hlen : es.size = kv.length := by have := congrArg List.length he; simpa using this
  obtain ⟨j, hj1, hj2⟩ := hc p rfl
  have hjk : j < kv.length := (List.getElem?_eq_some_iff.1 hj2).1
  have hj : j < es.size := by omega
  have hent := congrArg (fun l => l[j]?) he
  simp only [List.getElem?_map, Array.getElem?_toList, Array.getElem?_eq_getElem hj, hj2, Option.map_some, Option.some.injEq, Prod.mk.injEq] at hent
  refine g_op (v := .tuple #[ek p.1, en p.2]) (w' := w) ho hw ?_ hk
  simp only [execOp, hop, hm]
  refine run_value ?_
  simp only [Instr.entry, getObj, Sem.run_bind, Sem.run, hr, hb, Result.andThen, hj1, hlen, bne_self_eq_false, Bool.false_eq_true, if_false, find_born_at hborn hj, hent.1, hent.2]
  rfl
theorem St.iterForget {r b : Nat} {kv left : List (κ × ν)} {c : Option (κ × ν)} (h : St w0 (IterAs r b kv left c :: Γ) w) : St w0 (IterAs r b kv left none :: Γ) w :=
  h.imp fun F ⟨e, seen, hr, hl, _⟩ hn => ⟨F, ⟨e, seen, hr, hl, fun p hp => by cases hp⟩, hn, fun b hb => hb⟩
end
end Go.Proofs.YtmnaclghakalmaaX
