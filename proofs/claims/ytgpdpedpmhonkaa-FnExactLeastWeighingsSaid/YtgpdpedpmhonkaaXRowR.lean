/- Slices of slices, append of zeros, the library's sort on a row of the call's own. -/
import Derived.Test.YtgpdpedpmhonkaaXEnt
import Derived.Lib.AppendZeros
import Derived.Sort.Row
import Derived.Sort.Grow
namespace Go.Proofs.YtgpdpedpmhonkaaX
open Go Go.RowKit Go.Sort
set_option linter.unusedVariables false
set_option linter.unusedSimpArgs false
set_option linter.unusedSectionVars false
section
variable {P : Program} {f : FuncId} {R : Ending → World → Prop} {k : List Item} {t : List Value} {w0 w : World} {Γ : List As} {ops : Array Oper} {i : Nat} {rest : List Nat} {o : Oper}
/-- The address of an element of a slice of slices. -/
theorem s_idxR {α : Type} {κ : K α} {E0 : TypeId} {v : Value} {xs : List (List α)} {T E : TypeId} (hr : RdRow (K.sl E0 κ) w0 v xs) (hs : St w0 Γ w) (hT : P.underlying T = some (.slice E)) (hsz : ∀ w, (Go.sizeOf E).run P w = .ok 1 w) {n : Int} (h0 : 0 ≤ n) (h1 : n < xs.length)
    (ho : ops[i]? = some o) (hw : Region.wanted o (yl ops t) = true) {x ix : Operand} {q : IntKind} (hop : o.op = .indexAddr T x ix) (hx : ev t x = v) (hi : ev t ix = .int q n)
    (hk : ∀ p u, CellsAt w0 p [u] → RdRow κ w0 u (rdL xs n []) → G P f R (.inRegion ops rest :: k) (put t o.dst (.pointer (some p))) w) : G P f R (.inRegion ops (i :: rest) :: k) t w := by
  obtain ⟨A, cap, rfl, hc, he⟩ := hr
  obtain ⟨n, rfl⟩ := Int.eq_ofNat_of_zero_le h0
  have hn : n < xs.length := by omega
  obtain ⟨ad, cs, rfl, hlt, hcell, u, rfl, hu⟩ := he n hn
  have e1 : rdL xs (n : Int) [] = xs[n] := by rw [← rdL_get (by simpa using hn)]; simp
  refine g_op (v := .pointer (some (ad.add n))) ho hw ?_ (hk (ad.add n) u ?_ (by rw [e1]; exact hu))
  · simp only [execOp, hop]
    refine run_value ?_
    have h2 : ((n : Int) < (xs.length : Int)) := by omega
    simp [Instr.indexAt, hx, hi, asIntOf, Instr.sureAddr, run_underlying hT, hsz, h2, hn]
  · intro j y hj
    have := hcell j y hj
    rw [add_add]
    have hk1 : (K.sl E0 κ).n = 1 := rfl
    rw [hk1, Nat.mul_one] at this
    exact this
inductive RdEach {α : Type} (κ : K α) (w : World) : List Value → List (List α) → Prop
  | nil : RdEach κ w [] []
  | cons {v vs x xs} : RdRow κ w v x → RdEach κ w vs xs → RdEach κ w (v :: vs) (x :: xs)
theorem RdEach.len {α : Type} {κ : K α} {vs : List Value} {xs : List (List α)} (h : RdEach κ w vs xs) : vs.length = xs.length := by
  induction h with
  | nil => rfl
  | cons _ _ ih => simp [ih]
theorem RdEach.at {α : Type} {κ : K α} {vs : List Value} {xs : List (List α)} (h : RdEach κ w vs xs) : ∀ (i : Nat) (hi : i < xs.length), ∃ v, vs[i]? = some v ∧ RdRow κ w v xs[i] := by
  induction h with
  | nil => intro i hi; simp at hi
  | cons h _ ih =>
    intro i hi
    cases i with
    | zero => exact ⟨_, rfl, h⟩
    | succ i =>
      obtain ⟨v, h1, h2⟩ := ih i (by simpa using hi)
      exact ⟨v, by simpa using h1, by simpa using h2⟩
/-- A variable that is an array of slices, seen as a slice of slices. -/
theorem rdBoxR {α : Type} {κ : K α} {E0 : TypeId} {b : Nat} {vs : List Value} {xs : List (List α)} {E : TypeId} {fz : Nat × Nat} (hb : w.heap[b]? = some (.cells vs.toArray E fz)) {n : Nat} (hn : xs.length = n) (h : RdEach κ w vs xs) :
    RdRow (K.sl E0 κ) w (.slice (some ⟨b, 0, none⟩) n n) xs := by
  subst hn
  refine ⟨_, xs.length, rfl, Nat.le_refl _, fun i hi => ?_⟩
  obtain ⟨v, h1, h2⟩ := h.at i hi
  refine ⟨⟨b, 0, none⟩, [v], rfl, (Array.getElem?_eq_some_iff.1 hb).1, fun j u hj => ?_, v, rfl, h2⟩
  have hj0 : j = 0 := by
    cases j with
    | zero => rfl
    | succ j => simp at hj
  subst hj0
  simp only [List.getElem?_cons_zero, Option.some.injEq] at hj
  subst hj
  have := (cells_load hb i 1 rfl : CellsAt w ⟨b, i, none⟩ ((vs.drop i).take 1)) 0 v (by
    rw [List.getElem?_take, if_pos (by decide), List.getElem?_drop]; simpa using h1)
  have e : (⟨b, 0, none⟩ : Addr).add (i * 1 + 0) = (⟨b, i, none⟩ : Addr).add 0 := by unfold Addr.add; split <;> simp_all
  have hk1 : (K.sl E0 κ).n = 1 := rfl
  rw [hk1, e]
  exact this
/-- cap(nil). -/
theorem x_capNil {x : Operand} {T E : TypeId} (hop : o.op = .call { callee := .builtin .cap, args := #[x], argTypes := #[T] }) (hT : P.underlying T = some (.slice E)) (hx : ev t x = .slice none 0 0) :
    (execOp (ev t) o).run P w = .ok (.value (.int .i64 0)) w := by
  simp [execOp, hop, resolve, hx, invoke, builtin, Builtin.cap_, goInt, run_underlying hT]
theorem zeros_one (z : Value) (n : Nat) : Builtin.zeroCells #[z] n = (List.replicate n z).toArray := by
  apply Array.ext
  · simp [Builtin.zeroCells]
  · intro i h1 h2
    simp [Builtin.zeroCells, Nat.mod_one]
theorem rep_flat (u : Value) (n : Nat) : (List.replicate n [u]).flatten = List.replicate n u := by
  induction n with
  | zero => rfl
  | succ n ih => rw [List.replicate_succ, List.flatten_cons, ih]; rfl
/-- append(nil, make([]E, n)...), n not 0. -/
theorem s_appendZ {α : Type} {κ : K α} {enc : α → List Value} (fk : Flat κ enc) (c : α → Value) (hc : ∀ x, enc x = [c x]) (h1n : κ.n = 1) (z : α) (h : St w0 Γ w) (ho : ops[i]? = some o) (hw : Region.wanted o (yl ops t) = true) {T Tn E : TypeId} {x y : Operand} {inf : TypeInfo} {kn q : IntKind} {n : Int}
    (hop : o.op = .call { callee := .builtin .append, args := #[x, y], argTypes := #[T, Tn] }) (hx : ev t x = .slice none 0 0) (hy : ev t y = .int q n)
    (hT : P.underlying T = some (.slice E)) (hTn : P.underlying Tn = some (.int kn)) (hi : P.info? E = some inf) (hz : inf.zero = some (c z)) (hzc : (c z).cells = #[c z]) (hs : inf.size = 1) {B : Nat} (hby : inf.bytes = B) (hB : 0 < B) (h0 : 0 < n) (hn : n * B ≤ 140737488355328)
    (hk : ∀ v w1, St w0 (Row E κ v (List.replicate n.toNat z) :: Γ) w1 → G P f R (.inRegion ops rest :: k) (put t o.dst v) w1) : G P f R (.inRegion ops (i :: rest) :: k) t w := by
  obtain ⟨n, rfl⟩ := Int.eq_ofNat_of_zero_le (Int.le_of_lt h0)
  simp only [Int.toNat_natCast] at hk
  have hnB : n * B ≤ 140737488355328 := by
    have : ((n * B : Nat) : Int) ≤ 140737488355328 := by rw [Int.natCast_mul]; exact hn
    omega
  have hn1 : n ≤ 140737488355328 := Nat.le_trans (Nat.le_mul_of_pos_right _ hB) hnB
  have hr := Lib.run_append_nil_zeros (P := P) w T Tn o.type E inf (c z) q kn hT hTn hi hz n (by omega) (by omega) (by omega) (by rw [hby]; omega)
  rw [hzc, zeros_one, zeros_one] at hr
  have hge := grownCap_ge w n 0 E
  have hle := grownCap_le_maxLen w n 0 E (by unfold maxLen; omega)
  refine g_op (v := .slice (some ⟨w.heap.size, 0, none⟩) n (grownCap w n 0 E)) (w' := w.drew.alloc (.cells ((List.replicate n (c z)).toArray ++ (List.replicate (grownCap w n 0 E - n) (c z)).toArray) E)) ho hw ?_ (hk _ _ ?_)
  · simp only [execOp, hop, resolve]
    simp [invoke, builtin, hx, hy]
    simp at hr
    rw [hr]; rfl
  · have hfl : ((List.replicate n z).map enc).flatten = List.replicate n (c z) := by
      rw [List.map_replicate, hc, rep_flat]
    have hturn : ∀ o, Turn [] w (w.drew.alloc o) := fun o => ⟨rfl, rfl, rfl, by simp, fun b hb _ => Below.heap_alloc w.drew o b hb⟩
    refine h.new (hturn _) (F' := [w.heap.size]) ⟨((List.replicate n z).map enc).flatten, [], rfl, ⟨?_, .inr ⟨w.heap.size, grownCap w n 0 E, _, by simp, Nat.zero_le _, heap_alloc_new w.drew _, by simpa using hge, hle, ?_, ?_⟩⟩, Els.flat fk _⟩ (by simp) (by simp)
    · rw [hfl]; simp [h1n]
    · rw [h1n]; simp; omega
    · rw [hfl, h1n]; simp
theorem run_bool {b b' : Bool} (h : (execOp (ev t) o).run P w = .ok (.value (.bool b)) w) (e : b = b') : (execOp (ev t) o).run P w = .ok (.value (.bool b')) w := by rw [h, e]
theorem nilCases {α : Type} {κ : K α} {v : Value} {xs : List α} (h : RdRow κ w v xs) : (∃ n cap, v = .slice none n cap ∧ xs = []) ∨ ∃ ad n cap, v = .slice (some ad) n cap := by
  obtain ⟨A, cap, rfl, hc, he⟩ := h
  cases A with
  | some ad => exact .inr ⟨_, _, _, rfl⟩
  | none =>
    left
    refine ⟨_, _, rfl, ?_⟩
    cases xs with
    | nil => rfl
    | cons x xs => obtain ⟨ad, _, e, _⟩ := he 0 (by simp); cases e
theorem slNil {d : Nat} {T E : TypeId} {n cap : Nat} (ht : P.underlying T = some (.slice E)) : (Op.equalIn (d + 1) T (.slice none n cap) (.slice none 0 0)).run P w = .ok true w := by
  simp [Op.equalIn, run_underlying ht]
theorem slSome {d : Nat} {T E : TypeId} {ad : Addr} {n cap : Nat} (ht : P.underlying T = some (.slice E)) : (Op.equalIn (d + 1) T (.slice (some ad) n cap) (.slice none 0 0)).run P w = .ok false w := by
  simp [Op.equalIn, run_underlying ht]
theorem x_eqNil {x y : Operand} {T T' E : TypeId} {v : Value} {n cap : Nat} (hop : o.op = .binOp .eql T x y T') (hT : P.underlying T = some (.slice E)) (hx : ev t x = v) (hv : v = .slice none n cap) (hy : ev t y = .slice none 0 0) :
    (execOp (ev t) o).run P w = .ok (.value (.bool true)) w := by
  subst hv
  have h : (Op.equal T (.slice none n cap) (.slice none 0 0)).run P w = .ok true w := slNil (d := 9999) hT
  simp [execOp, hop, hx, hy, eqGuard, binOp, h]
theorem x_neNil {x y : Operand} {T T' E : TypeId} {v : Value} {ad : Addr} {n cap : Nat} (hop : o.op = .binOp .eql T x y T') (hT : P.underlying T = some (.slice E)) (hx : ev t x = v) (hv : v = .slice (some ad) n cap) (hy : ev t y = .slice none 0 0) :
    (execOp (ev t) o).run P w = .ok (.value (.bool false)) w := by
  subst hv
  have h : (Op.equal T (.slice (some ad) n cap) (.slice none 0 0)).run P w = .ok false w := slSome (d := 9999) hT
  simp [execOp, hop, hx, hy, eqGuard, binOp, h]
/- the sort -/
theorem sortHolds {w : World} {g : Nat} {cur : Array Value} {e : TypeId} {ss : List Int} (hb : w.heap[g]? = some (.cells cur e (0, 0))) (ht : cur.toList.take ss.length = ss.map (Value.int .i64)) : Holds (Value.int .i64) w g 0 ss.toArray := by
  intro j hj
  have hj' : j < ss.length := by simpa using hj
  refine ⟨?_, by simp [World.frozen?, hb]⟩
  have h1 : (cur.toList.take ss.length)[j]? = (ss.map (Value.int .i64))[j]? := by rw [ht]
  rw [List.getElem?_take_of_lt hj'] at h1
  simp only [World.cell?, hb, Nat.zero_add]
  simp only [Option.isSome_none, Bool.false_eq_true, if_false]
  rw [← Array.getElem?_toList, h1]
  simp [hj']
theorem sortHeap {w : World} {g n : Nat} {os : Array Obj} {cur : Array Value} {e : TypeId} {fr : Nat × Nat} (d : Array Int) (hb : w.heap[g]? = some (.cells cur e fr)) :
    (grow (putRow (Value.int .i64) (Sort.ahead w n) g 0 d) os).heap[g]? = some (.cells (putCells (Value.int .i64) 0 d cur) e fr) := by
  have hg : g < w.heap.size := (Array.getElem?_eq_some_iff.1 hb).1
  rw [heap_grow_old _ _ (by simpa using hg)]
  simp [putRow, mapBlock, Sort.ahead, Array.getElem?_modify, hb, onCells]
theorem sortTurn {w : World} {g n : Nat} {os : Array Obj} (d : Array Int) : Turn [g] w (grow (putRow (Value.int .i64) (Sort.ahead w n) g 0 d) os) := by
  refine ⟨rfl, rfl, rfl, by simp, fun k hk hne => ?_⟩
  rw [heap_grow_old _ _ (by simpa using hk)]
  have : g ≠ k := fun e => hne (by simp [e])
  simp [putRow, mapBlock, Sort.ahead, Array.getElem?_modify, this]
theorem sortTake (cur : Array Value) (ts : List Int) (h : ts.length ≤ cur.size) : (putCells (Value.int .i64) 0 ts.toArray cur).toList.take ts.length = ts.map (Value.int .i64) := by
  apply List.ext_getElem?
  intro j
  by_cases hj : j < ts.length
  · rw [List.getElem?_take_of_lt hj, Array.getElem?_toList]
    simp [putCells, hj, show j < cur.size by omega]
  · rw [List.getElem?_take_eq_none (by omega), List.getElem?_eq_none (by simp; omega)]
theorem flat_ints (l : List Int) : (l.map fun x => [Value.int .i64 x]).flatten = l.map (Value.int .i64) := by
  induction l with
  | nil => rfl
  | cons a l ih => rw [List.map_cons, List.flatten_cons, ih]; rfl
theorem sort_row {fn : Nat} (c1 : ∀ (blk off cap : Nat) (zs : List Int) (w : World), Holds (Value.int .i64) w blk off zs.toArray → blk < w.heap.size → zs.length < 4611686018427387904 →
      Calls P fn #[.slice (some ⟨blk, off, none⟩) zs.length cap] w fun e w' => e = .returned (.tuple #[]) ∧ ∃ n os, w' = grow (putRow (Value.int .i64) (Sort.ahead w n) blk off (zs.mergeSort fun x y => decide (x ≤ y)).toArray) os)
    (c0 : ∀ (p : Option Addr) (cap : Nat) (w : World), Calls P fn #[.slice p 0 cap] w fun e w' => e = .returned (.tuple #[]) ∧ w' = w)
    {v : Value} {wb : World} {Z : As} {E : TypeId} {xs : List Int} (hs : St wb [Row E (K.int .i64) v xs, Z] w) (hl : xs.length < 4611686018427387904) :
    Calls P fn #[v] w fun e w' => e = .returned (.tuple #[]) ∧ St wb [Row E (K.int .i64) v (xs.mergeSort fun x y => decide (x ≤ y)), Z] w' := by
  have fk := fkI .i64
  obtain ⟨F, ⟨cs, F', rfl, how, hel⟩, _⟩ := hs.head
  obtain ⟨rfl, rfl⟩ := Els.of_flat fk hel
  rcases how.2 with ⟨rfl, h0⟩ | ⟨g, cap, cur, rfl, hbg, hg, hnc, hcm, hcs, htake⟩
  · obtain rfl : xs = [] := List.length_eq_zero_iff.1 h0
    exact (c0 none 0 w).mono fun e w' ⟨he, hw⟩ => ⟨he, by subst hw; simpa using hs⟩
  · have hn1 : (K.int .i64).n = 1 := rfl
    rw [hn1, Nat.mul_one] at hcs htake
    have ht : cur.toList.take xs.length = xs.map (Value.int .i64) := htake.trans (flat_ints xs)
    refine (c1 g 0 cap xs w (sortHolds hg ht) (Array.getElem?_eq_some_iff.1 hg).1 hl).mono fun e w' ⟨he, n, os, hw⟩ => ⟨he, ?_⟩
    subst hw
    generalize hts : (xs.mergeSort fun x y => decide (x ≤ y)) = ts
    have hlen : ts.length = xs.length := by rw [← hts]; simp
    refine hs.turn fun F hF hnd => ?_
    obtain ⟨cs2, F2, rfl, how2, hel2⟩ := hF
    obtain ⟨rfl, rfl⟩ := Els.of_flat fk hel2
    refine ⟨Turn.mono (sortTurn _) (by simp [Value.ownBlock]), _, ⟨(ts.map fun x => [Value.int .i64 x]).flatten, [], rfl, ⟨?_, .inr ⟨g, cap, _, by rw [hlen], hbg, sortHeap _ hg, by rw [hlen]; exact hnc, hcm, ?_, ?_⟩⟩, Els.flat fk _⟩, by simp [Value.ownBlock], fun b hb => .inl (by simpa [Value.ownBlock] using hb)⟩
    · exact (Els.flat (w := w) fk ts).len
    · rw [hn1, Nat.mul_one]; simp [putCells, hcs]
    · rw [flat_ints, hn1, Nat.mul_one]
      exact sortTake cur ts (by omega)
end
end Go.Proofs.YtgpdpedpmhonkaaX
