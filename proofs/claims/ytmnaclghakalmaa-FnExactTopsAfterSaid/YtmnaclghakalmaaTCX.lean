/- slices.SortFunc over tops: its contract on a row of the call's own. -/
import Derived.Test.YtmnaclghakalmaaTC
import Derived.Test.YtmnaclghakalmaaXShelf
import Derived.Test.YtmnaclghakalmaaXRowR
namespace Go.Proofs.YtmnaclghakalmaaX
open Go Go.RowKit Go.Sort Go.Proofs
set_option linter.unusedVariables false
set_option linter.unusedSimpArgs false
abbrev tEnc : Ar Int 4 → List Value := encA (encI .i16)
abbrev tKind : K (Ar Int 4) := K.ar 4 1 (encI .i16) (fkI .i16).len (fkI .i16).one
theorem ar4t (a : Ar Int 4) : ∃ x0 x1 x2 x3, a = ⟨[x0, x1, x2, x3], rfl⟩ := by
  obtain ⟨l, h⟩ := a
  match l, h with
  | [x0, x1, x2, x3], h => exact ⟨x0, x1, x2, x3, rfl⟩
theorem tCmp (blk off size : Nat) (w : World) : CmpLays Try.prog 20 #[] tEnc 4 tCf blk off size w := by
  intro m os dk _ x y
  obtain ⟨x0, x1, x2, x3, rfl⟩ := ar4t x
  obtain ⟨y0, y1, y2, y3, rfl⟩ := ar4t y
  exact TC.closure x0 x1 x2 x3 y0 y1 y2 y3 _
theorem tLt (a b : Ar Int 4) : ltOf tCf a b = decide (TC.lex a.l b.l < 0) := rfl
theorem tSwo : SWO (ltOf tCf) where
  irrefl x := by rw [tLt, TC.lex_self]; rfl
  trans x y z h1 h2 := by
    rw [tLt] at *
    exact decide_eq_true (TC.lex_trans _ _ _ (x.h.trans y.h.symm) (y.h.trans z.h.symm) (of_decide_eq_true h1) (of_decide_eq_true h2))
  ntrans x y z h1 h2 := by
    rw [tLt] at *
    have h1 := of_decide_eq_false h1
    have h2 := of_decide_eq_false h2
    refine decide_eq_false fun h3 => ?_
    rcases TC.lex_le (a := y.l) (b := z.l) with h | h | h
    · exact h2 h
    · rw [← TC.lex_zero _ _ (y.h.trans z.h.symm) h] at h3; exact h1 h3
    · exact h1 (TC.lex_trans _ _ _ (x.h.trans z.h.symm) (z.h.trans y.h.symm) h3 h)
theorem tTot (x y : Ar Int 4) (h1 : ltOf tCf x y = false) (h2 : ltOf tCf y x = false) : x = y := by
  rw [tLt] at h1 h2
  have h1 := of_decide_eq_false h1
  have h2 := of_decide_eq_false h2
  have := TC.lex_neg x.l y.l
  exact Ar.ext' (TC.lex_zero _ _ (x.h.trans y.h.symm) (by omega))
theorem flat_get {k : Nat} (hk : 0 < k) : ∀ (L : List (List Value)), (∀ c ∈ L, c.length = k) → ∀ t, L.flatten[t]? = (L[t / k]?).bind (·[t % k]?)
  | [], _, t => by simp
  | c :: L, h, t => by
    have hc := h c List.mem_cons_self
    rw [List.flatten_cons]
    by_cases ht : t < k
    · rw [List.getElem?_append_left (by omega), Nat.div_eq_of_lt ht, Nat.mod_eq_of_lt ht]; rfl
    · rw [List.getElem?_append_right (by omega), hc, flat_get hk L (fun c hm => h c (List.mem_cons_of_mem _ hm)) (t - k)]
      have e1 : t / k = (t - k) / k + 1 := by rw [← Nat.add_div_right _ hk, Nat.sub_add_cancel (by omega)]
      have e2 : t % k = (t - k) % k := by rw [← Nat.add_mod_right (t - k) k, Nat.sub_add_cancel (by omega)]
      rw [e1, e2, List.getElem?_cons_succ]
theorem tLen (a : Ar Int 4) : (tEnc a).length = 4 := encA_len (fkI .i16).len a
theorem tOne (a : Ar Int 4) : ∀ v ∈ tEnc a, v.oneCell' = true := encA_one (fkI .i16).one a
theorem flat_len (xs : List (Ar Int 4)) : (xs.map tEnc).flatten.length = xs.length * 4 := by
  induction xs with
  | nil => rfl
  | cons a l ih => rw [List.map_cons, List.flatten_cons, List.length_append, ih, tLen, List.length_cons]; omega
theorem flatK_eq (xs : List (Ar Int 4)) : flatK tEnc 4 xs.toArray = (xs.map tEnc).flatten.toArray := by
  apply Array.ext
  · simp only [size_flatK, List.size_toArray, flat_len]
  · intro t h1 h2
    have h1' : t < xs.length * 4 := by simpa using h1
    have hg := get_flatK tEnc 4 xs.toArray t (by simpa using h1')
    rw [getElem!_pos _ t h1] at hg
    rw [hg]
    have hf := flat_get (k := 4) (by decide) (xs.map tEnc) (fun c hc => by obtain ⟨a, _, rfl⟩ := List.mem_map.1 hc; exact tLen a) t
    have hd : t / 4 < xs.length := by omega
    have hm : t % 4 < 4 := by omega
    rw [List.getElem?_map, List.getElem?_eq_getElem hd, Option.map_some, Option.bind_some] at hf
    have hk4 : t % 4 < (tEnc xs[t / 4]).length := by rw [tLen]; exact hm
    rw [List.getElem?_eq_getElem hk4] at hf
    have h3 : (xs.map tEnc).flatten[t]? = some ((xs.map tEnc).flatten.toArray[t]) := by rw [List.getElem?_eq_getElem (by simpa using h2)]; rfl
    rw [h3] at hf
    have e1 : xs.toArray[t / 4]! = xs[t / 4] := by simp [hd]
    rw [e1, getElem!_pos (tEnc xs[t / 4]) (t % 4) hk4]
    exact (Option.some.inj hf).symm
theorem idHolds {w : World} {g : Nat} {cur : Array Value} {e : TypeId} {F : List Value} (hb : w.heap[g]? = some (.cells cur e (0, 0))) (ht : cur.toList.take F.length = F) : Holds id w g 0 F.toArray := by
  intro j hj
  have hj' : j < F.length := by simpa using hj
  refine ⟨?_, by simp [World.frozen?, hb]⟩
  have h1 : (cur.toList.take F.length)[j]? = F[j]? := by rw [ht]
  rw [List.getElem?_take_of_lt hj'] at h1
  simp only [World.cell?, hb, Nat.zero_add]
  simp only [Option.isSome_none, Bool.false_eq_true, if_false]
  rw [← Array.getElem?_toList, h1]
  simp [hj']
theorem idHeap {w : World} {g n : Nat} {os : Array Obj} {cur : Array Value} {e : TypeId} {fr : Nat × Nat} (d : Array Value) (hb : w.heap[g]? = some (.cells cur e fr)) :
    (grow (putRow id (Sort.ahead w n) g 0 d) os).heap[g]? = some (.cells (putCells id 0 d cur) e fr) := by
  have hg : g < w.heap.size := (Array.getElem?_eq_some_iff.1 hb).1
  rw [heap_grow_old _ _ (by simpa using hg)]
  simp [putRow, mapBlock, Sort.ahead, Array.getElem?_modify, hb, onCells]
theorem idTurn {w : World} {g n : Nat} {os : Array Obj} (d : Array Value) : Turn [g] w (grow (putRow id (Sort.ahead w n) g 0 d) os) := by
  refine ⟨rfl, rfl, rfl, by simp, fun k hk hne => ?_⟩
  rw [heap_grow_old _ _ (by simpa using hk)]
  have : g ≠ k := fun e => hne (by simp [e])
  simp [putRow, mapBlock, Sort.ahead, Array.getElem?_modify, this]
theorem idTake (cur : Array Value) (ts : List Value) (h : ts.length ≤ cur.size) : (putCells id 0 ts.toArray cur).toList.take ts.length = ts := by
  apply List.ext_getElem?
  intro j
  by_cases hj : j < ts.length
  · rw [List.getElem?_take_of_lt hj, Array.getElem?_toList]
    simp [putCells, hj, show j < cur.size by omega]
  · rw [List.getElem?_take_eq_none (by omega), List.getElem?_eq_none (by omega)]
theorem top_sort {v : Value} {wb : World} {Z : As} {xs : List (Ar Int 4)} {w : World} (hs : St wb [Row 30 tKind v xs, Z] w) (hl : xs.length < 4611686018427387904) :
    Calls Try.prog 19 #[v, .func (.func 20) #[] #[]] w fun e w' => e = .returned (.tuple #[]) ∧ St wb [Row 30 tKind v (tSorted xs), Z] w' := by
  have fk : Flat tKind tEnc := fkA
  obtain ⟨F, ⟨cs, F', rfl, how, hel⟩, _⟩ := hs.head
  obtain ⟨rfl, rfl⟩ := Els.of_flat fk hel
  rcases how.2 with ⟨rfl, h0⟩ | ⟨g, cap, cur, rfl, hbg, hg, hnc, hcm, hcs, htake⟩
  · obtain rfl : xs = [] := List.length_eq_zero_iff.1 h0
    exact (AnyF.slices_SortFunc_none Try.sortTops none 0 (.func (.func 20) #[] #[]) w).mono fun e w' ⟨he, hw⟩ => ⟨he, by subst hw; simpa [tSorted] using hs⟩
  · have hn1 : tKind.n = 4 := rfl
    rw [hn1] at hcs htake
    have ht : cur.toList.take (xs.map tEnc).flatten.length = (xs.map tEnc).flatten := by rw [flat_len]; exact htake
    have hH : HoldsK tEnc 4 w g 0 xs.toArray := by
      unfold HoldsK
      rw [flatK_eq]
      exact idHolds hg ht
    have eg : ∀ args w, (callFunc 20 args).run Try.prog w = .ok (.enter 20 args) w := enters_of Try.func20 (by kernel_rfl) rfl
    have c1 := AnyQ.slices_SortFunc_total Try.sortTops 4 Try.isAgg30 Try.sizeOf30 tEnc tLen tOne tCf tSwo 20 #[] g 0 cap xs.toArray w eg (tCmp g 0 xs.toArray.size w) hH (Array.getElem?_eq_some_iff.1 hg).1 (by simpa using hl) tTot
    refine Calls.mono (show Calls Try.prog 19 #[.slice (some ⟨g, 0, none⟩) xs.length cap, .func (.func 20) #[] #[]] w _ from c1) fun e w' ⟨he, n, os, hw⟩ => ⟨he, ?_⟩
    subst hw
    unfold sortWorldK putRowK
    have hts0 : (xs.toArray.toList.mergeSort fun x y => !(ltOf tCf) y x) = tSorted xs := rfl
    rw [hts0]
    generalize hts : tSorted xs = ts
    have hlen : ts.length = xs.length := by rw [← hts]; simp [tSorted]
    rw [flatK_eq]
    refine hs.turn fun F hF hnd => ?_
    obtain ⟨cs2, F2, rfl, how2, hel2⟩ := hF
    obtain ⟨rfl, rfl⟩ := Els.of_flat fk hel2
    refine ⟨Turn.mono (idTurn _) (by simp [Value.ownBlock]), _, ⟨(ts.map tEnc).flatten, [], rfl, ⟨?_, .inr ⟨g, cap, _, by rw [hlen], hbg, idHeap _ hg, by rw [hlen]; exact hnc, hcm, ?_, ?_⟩⟩, Els.flat fk _⟩, by simp [Value.ownBlock], fun b hb => .inl (by simpa [Value.ownBlock] using hb)⟩
    · exact (Els.flat (w := w) fk ts).len
    · rw [hn1]; simp [putCells, hcs]
    · rw [hn1, ← flat_len]
      refine idTake cur _ ?_
      rw [flat_len, hlen, hcs]
      exact Nat.mul_le_mul_right 4 hnc
end Go.Proofs.YtmnaclghakalmaaX
