/- The library's Delete on a row of the call's own. -/
import Derived.Test.YtjagkhjbbdfkaaaXRowR
import Derived.Test.YtjagkhjbbdfkaaaXDelP
namespace Go.Proofs.YtjagkhjbbdfkaaaX
open Go Go.RowKit Go.Sort
set_option linter.unusedVariables false
set_option linter.unusedSimpArgs false
set_option linter.unusedSectionVars false
section
variable {P : Program} {f : FuncId} {R : Ending → World → Prop} {k : List Item} {t : List Value} {w0 w : World} {Γ : List As} {ops : Array Oper} {i : Nat} {rest : List Nat} {o : Oper} {q : IntKind}
theorem delHolds {w : World} {g : Nat} {cur : Array Value} {e : TypeId} {ss : List Int} (hb : w.heap[g]? = some (.cells cur e (0, 0))) (ht : cur.toList.take ss.length = ss.map (Value.int q)) : Holds (Value.int q) w g 0 ss.toArray := by
  intro j hj
  have hj' : j < ss.length := by simpa using hj
  refine ⟨?_, by simp [World.frozen?, hb]⟩
  have h1 : (cur.toList.take ss.length)[j]? = (ss.map (Value.int q))[j]? := by rw [ht]
  rw [List.getElem?_take_of_lt hj'] at h1
  simp only [World.cell?, hb, Nat.zero_add]
  simp only [Option.isSome_none, Bool.false_eq_true, if_false]
  rw [← Array.getElem?_toList, h1]
  simp [hj']
theorem delHeap {w : World} {g n : Nat} {cur : Array Value} {e : TypeId} {fr : Nat × Nat} (d : Array Int) (hb : w.heap[g]? = some (.cells cur e fr)) :
    (putRow (Value.int q) (Sort.ahead w n) g 0 d).heap[g]? = some (.cells (putCells (Value.int q) 0 d cur) e fr) := by
  simp [putRow, mapBlock, Sort.ahead, Array.getElem?_modify, hb, onCells]
theorem delTurn {w : World} {g n : Nat} (d : Array Int) : Turn [g] w (putRow (Value.int q) (Sort.ahead w n) g 0 d) := by
  refine ⟨rfl, rfl, rfl, by simp [putRow, mapBlock, Sort.ahead], fun k hk hne => ?_⟩
  have : g ≠ k := fun e => hne (by simp [e])
  simp [putRow, mapBlock, Sort.ahead, Array.getElem?_modify, this]
theorem delTake (cur : Array Value) (ts zs : List Int) (h : ts.length + zs.length ≤ cur.size) : (putCells (Value.int q) 0 (ts ++ zs).toArray cur).toList.take ts.length = ts.map (Value.int q) := by
  apply List.ext_getElem?
  intro j
  by_cases hj : j < ts.length
  · rw [List.getElem?_take_of_lt hj, Array.getElem?_toList]
    have h2 : j < ts.length + zs.length := by omega
    simp [putCells, hj, h2, show j < cur.size by omega]
  · rw [List.getElem?_take_eq_none (by omega), List.getElem?_eq_none (by simp; omega)]
theorem flat_intq (l : List Int) : (l.map fun x => [Value.int q x]).flatten = l.map (Value.int q) := by
  induction l with
  | nil => rfl
  | cons a l ih => rw [List.map_cons, List.flatten_cons, ih]; rfl
theorem s_delete {fn : FuncId}
    (c1 : ∀ (blk off cap i j : Nat) (d : Array Int) (w : World), Holds (Value.int q) w blk off d → d.size ≤ cap → cap ≤ 9223372036854775807 → i ≤ j → j ≤ d.size →
      Calls P fn #[.slice (some ⟨blk, off, none⟩) d.size cap, .int .i64 i, .int .i64 j] w fun e w' => e = .returned (.slice (some ⟨blk, off, none⟩) (d.size - (j - i)) cap) ∧ ∃ n, w' = putRow (Value.int q) (Sort.ahead w n) blk off (d.toList.take i ++ d.toList.drop j ++ List.replicate (j - i) (0 : Int)).toArray)
    {E : TypeId} {v : Value} {xs : List Int} (h : St w0 (Row E (K.int q) v xs :: Γ) w) {a b : Int} (ho : ops[i]? = some o) (hw : Region.wanted o (yl ops t) = true)
    (hr : (execOp (ev t) o).run P w = .ok (.enter fn [v, .int .i64 a, .int .i64 b].toArray) w) (h0 : 0 ≤ a ∧ a ≤ b ∧ b ≤ xs.length ∧ 0 < xs.length)
    (hk : ∀ v' w1, St w0 (Row E (K.int q) v' (delL xs a b) :: Γ) w1 → G P f R (.inRegion ops rest :: k) (put t o.dst v') w1) : G P f R (.inRegion ops (i :: rest) :: k) t w := by
  obtain ⟨ha, hab, hb, hne⟩ := h0
  obtain ⟨a, rfl⟩ := Int.eq_ofNat_of_zero_le ha
  obtain ⟨b, rfl⟩ := Int.eq_ofNat_of_zero_le (Int.le_trans ha hab)
  have hab : a ≤ b := by omega
  have hb : b ≤ xs.length := by omega
  have fk := fkI q
  obtain ⟨F, ⟨cs, F', rfl, how, hel⟩, _⟩ := h.head
  obtain ⟨rfl, rfl⟩ := Els.of_flat fk hel
  rcases how.2 with ⟨rfl, h0⟩ | ⟨g, cap, cur, rfl, hbg, hg, hnc, hcm, hcs, htake⟩
  · exact absurd h0 (by omega)
  · have hn1 : (K.int q).n = 1 := rfl
    rw [hn1, Nat.mul_one] at hcs htake
    have ht : cur.toList.take xs.length = xs.map (Value.int q) := htake.trans (flat_intq xs)
    refine s_call (R' := fun v' w1 => St w0 (Row E (K.int q) v' (delL xs a b) :: Γ) w1) ho hw hr ((c1 g 0 cap a b xs.toArray w (delHolds hg ht) (by simpa using hnc) (Nat.le_trans hcm (by decide)) hab (by simpa using hb)).mono fun e w' ⟨he, n, hw⟩ => ⟨_, he, ?_⟩) hk
    subst hw
    show St w0 (Row E (K.int q) _ (xs.take a ++ xs.drop b) :: Γ) _
    generalize hts : xs.take a ++ xs.drop b = ts
    have hlen : ts.length = xs.length - (b - a) := by rw [← hts]; simp; omega
    have hz : (List.replicate (b - a) (0 : Int)).length = b - a := by simp
    refine h.turn fun F hF hnd => ?_
    obtain ⟨cs2, F2, rfl, how2, hel2⟩ := hF
    obtain ⟨rfl, rfl⟩ := Els.of_flat fk hel2
    refine ⟨Turn.mono (delTurn _) (by simp [Value.ownBlock]), _, ⟨(ts.map fun x => [Value.int q x]).flatten, [], rfl, ⟨?_, .inr ⟨g, cap, _, by rw [hlen]; rfl, hbg, delHeap _ hg, by rw [hlen]; omega, hcm, ?_, ?_⟩⟩, Els.flat fk _⟩, by simp [Value.ownBlock], fun b hb => .inl (by simpa [Value.ownBlock] using hb)⟩
    · exact (Els.flat (w := w) fk ts).len
    · rw [hn1, Nat.mul_one]; simp [putCells, hcs]
    · rw [flat_intq, hn1, Nat.mul_one]
      exact delTake cur ts _ (by rw [hz]; omega)
end
end Go.Proofs.YtjagkhjbbdfkaaaX
