/- Stores into a field of an element of a slice. -/
import Derived.Test.YtgpdpedpmhonkaaXCopy
namespace Go.Proofs.YtgpdpedpmhonkaaX
open Go Go.RowKit
set_option linter.unusedVariables false
set_option linter.unusedSimpArgs false
set_option linter.unusedSectionVars false
section
variable {P : Program} {f : FuncId} {R : Ending → World → Prop} {k : List Item} {t : List Value} {w0 w : World} {Γ : List As} {ops : Array Oper} {i : Nat} {rest : List Nat} {o : Oper}
theorem addr_add (b off m : Nat) : (⟨b, off, none⟩ : Addr).add m = ⟨b, off + m, none⟩ := by unfold Addr.add; split <;> simp_all
/-- A store into a field of an element of a row of the call's own. -/
theorem s_stFld {α : Type} {κ : K α} {enc : α → List Value} (fk : Flat κ enc) (z : α) {v : Value} {xs : List α} {E : TypeId} {n : Int} (h0 : 0 ≤ n) (hn : n < xs.length) {p : Addr} (hp : ∀ b N c, v = .slice (some ⟨b, 0, none⟩) N c → p = ⟨b, n.toNat * κ.n, none⟩)
    (h : St w0 (Row E κ v xs :: Γ) w) (ho : ops[i]? = some o) (hw : Region.wanted o (yl ops t) = true) {T : TypeId} {a x : Operand} {y : α} {off m : Nat} {fs : List Value}
    (hop : o.op = .store T a x) (ha : ev t a = .pointer (some (p.add off))) (hv : (ev t x).cells = fs.toArray) (hsz : ∀ w, (Go.sizeOf T).run P w = .ok m w) (hm : fs.length = m) (h1 : ∀ v ∈ fs, v.oneCell' = true) (hle : off + m ≤ κ.n)
    (hy : enc y = (enc (rdL xs n z)).take off ++ fs ++ (enc (rdL xs n z)).drop (off + m))
    (hk : ∀ w1, St w0 (Row E κ v (stL xs n y) :: Γ) w1 → G P f R (.inRegion ops rest :: k) (put t o.dst undef) w1) : G P f R (.inRegion ops (i :: rest) :: k) t w := by
  obtain ⟨n, rfl⟩ := Int.eq_ofNat_of_zero_le h0
  have hn : n < xs.length := by omega
  simp only [Int.toNat_natCast] at hp
  obtain ⟨F, ⟨cs, F', rfl, how, hel⟩, _⟩ := h.head
  rcases how.2 with ⟨rfl, h0⟩ | ⟨g, cap, cur, rfl, hbg, hg, hnc, hcm, hcs, htake⟩
  · omega
  · have hlen := fk.len y
    obtain rfl := hp _ _ _ rfl
    rw [addr_add] at ha
    have hb1 : n * κ.n + κ.n ≤ xs.length * κ.n := by rw [← Nat.succ_mul]; exact Nat.mul_le_mul_right _ hn
    have hb2 : xs.length * κ.n ≤ cap * κ.n := Nat.mul_le_mul_right _ hnc
    have hr := run_storeCells_at P g (n * κ.n + off) E fs 0 cur w hg (by rw [hm, hcs]; omega) h1
    obtain ⟨rfl, rfl⟩ := Els.of_flat fk hel
    have hfl : ∀ (l : List α), (l.map enc).flatten.length = l.length * κ.n := fun l => (Els.flat (w := w) fk l).len
    have hold : (xs.map enc).flatten = cur.toList.take (xs.length * κ.n) := htake.symm
    have hsplit : xs = xs.take n ++ xs[n] :: xs.drop (n + 1) := by simp
    have hz : rdL xs (n : Int) z = xs[n] := by rw [← rdL_get (by simpa using hn)]; simp
    have hcur : cur.toList = cur.toList.take (n * κ.n) ++ (enc xs[n] ++ cur.toList.drop (n * κ.n + κ.n)) := by
      have e0 : (cur.toList.take (xs.length * κ.n)).drop (n * κ.n) = enc xs[n] ++ ((xs.drop (n + 1)).map enc).flatten := by
        rw [← hold]
        conv => lhs; rw [hsplit]
        rw [List.map_append, List.flatten_append, List.map_cons, List.flatten_cons, List.drop_left']
        rw [hfl, List.length_take, Nat.min_eq_left (by omega)]
      have e1 : (cur.toList.drop (n * κ.n)).take κ.n = enc xs[n] := by
        have : (cur.toList.drop (n * κ.n)).take κ.n = ((cur.toList.take (xs.length * κ.n)).drop (n * κ.n)).take κ.n := by
          rw [List.drop_take, List.take_take]
          congr 1; omega
        rw [this, e0, List.take_left' (fk.len _)]
      conv => lhs; rw [← List.take_append_drop (n * κ.n) cur.toList]
      congr 1
      conv => lhs; rw [← List.take_append_drop κ.n (cur.toList.drop (n * κ.n))]
      rw [e1, List.drop_drop]
    have hA : (cur.toList.take (n * κ.n)).length = n * κ.n := by
      have hcl : cur.toList.length = cap * κ.n := by simpa using hcs
      rw [List.length_take]; omega
    have hB := fk.len xs[n]
    have hnew : cur.toList.take (n * κ.n + off) ++ fs ++ cur.toList.drop (n * κ.n + off + fs.length) = cur.toList.take (n * κ.n) ++ enc y ++ cur.toList.drop (n * κ.n + (enc y).length) := by
      rw [hlen, hy, hz, hm]
      generalize hC : cur.toList.drop (n * κ.n + κ.n) = C at hcur
      generalize cur.toList.take (n * κ.n) = A at hcur hA
      rw [hcur]
      have t1 : (A ++ (enc xs[n] ++ C)).take (n * κ.n + off) = A ++ (enc xs[n]).take off := by
        rw [List.take_append, hA, List.take_of_length_le (by omega), List.take_append]
        rw [show n * κ.n + off - n * κ.n = off by omega, show off - (enc xs[n]).length = 0 by omega, List.take_zero, List.append_nil]
      have t2 : (A ++ (enc xs[n] ++ C)).drop (n * κ.n + off + m) = (enc xs[n]).drop (off + m) ++ C := by
        rw [List.drop_append, hA, List.drop_eq_nil_of_le (by omega), List.nil_append, List.drop_append]
        rw [show n * κ.n + off + m - n * κ.n = off + m by omega, show off + m - (enc xs[n]).length = 0 by omega, List.drop_zero]
      rw [t1, t2]
      simp only [List.append_assoc]
    refine g_op_skip (w' := w.setRow g (cur.toList.take (n * κ.n) ++ enc y ++ cur.toList.drop (n * κ.n + (enc y).length)).toArray) ho hw ?_ (hk _ ?_)
    · rw [← hnew]
      simp only [execOp, hop]
      exact run_unit (by simp [Instr.storeAt, ha, Instr.sureAddr, storeVar, hv, hsz, hm, hr])
    · refine h.turn fun F hF hnd => ?_
      obtain ⟨cs2, F2, rfl, how2, hel2⟩ := hF
      obtain ⟨rfl, rfl⟩ := Els.of_flat fk hel2
      refine ⟨Turn.mono turn_setRow (by simp [Value.ownBlock]), _, ⟨((xs.set n y).map enc).flatten, [], rfl, ⟨?_, .inr ⟨g, cap, _, by simp [stL], hbg, setRow_heap w g cur _ E (0, 0) hg, by simpa [stL] using hnc, hcm, ?_, ?_⟩⟩, Els.flat fk _⟩, by simp [Value.ownBlock], fun b hb => .inl (by simpa using hb)⟩
      · exact (Els.flat (w := w) fk (xs.set n y)).len
      · simp only [List.size_toArray, List.length_append, List.length_take, List.length_drop, Array.length_toList, hlen, hcs]
        omega
      · have e1 : cur.toList.take (n * κ.n) = ((xs.take n).map enc).flatten := by
          have : cur.toList.take (n * κ.n) = (cur.toList.take (xs.length * κ.n)).take (n * κ.n) := by rw [List.take_take]; congr 1; omega
          rw [this, ← hold]
          conv => lhs; rw [hsplit]
          rw [List.map_append, List.flatten_append, List.take_left']
          rw [hfl, List.length_take, Nat.min_eq_left (by omega)]
        have e2 : (cur.toList.drop (n * κ.n + κ.n)).take (xs.length * κ.n - (n * κ.n + κ.n)) = ((xs.drop (n + 1)).map enc).flatten := by
          have : (cur.toList.drop (n * κ.n + κ.n)).take (xs.length * κ.n - (n * κ.n + κ.n)) = (cur.toList.take (xs.length * κ.n)).drop (n * κ.n + κ.n) := by rw [List.drop_take]
          rw [this, ← hold]
          conv => lhs; rw [hsplit]
          rw [List.map_append, List.flatten_append, List.map_cons, List.flatten_cons, ← List.append_assoc, List.drop_left']
          rw [List.length_append, hfl, fk.len, List.length_take, Nat.min_eq_left (by omega)]
        have hset : xs.set n y = xs.take n ++ y :: xs.drop (n + 1) := by rw [List.set_eq_take_append_cons_drop, if_pos hn]
        have hst : stL xs (n : Int) y = xs.set n y := by simp [stL]
        rw [hst, hlen, List.length_set, hset, List.map_append, List.flatten_append, List.map_cons, List.flatten_cons, ← e1, ← e2]
        simp only [List.append_assoc]
        have hcl : cur.toList.length = cap * κ.n := by simpa using hcs
        rw [List.take_append, List.take_append, List.take_take, hA]
        congr 1
        · congr 1; omega
        · rw [hlen]
          congr 1
          · rw [List.take_of_length_le (by rw [hlen]; omega)]
          · congr 1
            omega
/-- []E{x, y, ..}, one cell each. -/
theorem s_litN {α : Type} {κ : K α} {enc : α → List Value} (fk : Flat κ enc) (c : α → Value) (hc : ∀ x, enc x = [c x]) (h1n : κ.n = 1) {ys : List α} {n : Nat} (hn : ys.length = n) (h : St w0 Γ w) (ho : ops[i]? = some o) (hw : Region.wanted o (yl ops t) = true) {T E : TypeId} {ps : List (Nat × Operand)}
    (hop : o.op = .buildSlice T n ps.toArray) (hT : P.underlying T = some (.slice E)) (hsz : ∀ w, (Go.sizeOf E).run P w = .ok 1 w) {zv zc : Value} (hz : ∀ w, (zeroValue E).run P w = .ok zv w) (hzs : zv.cells = #[zc]) (hpos : 0 < n) (hle : n ≤ 100000)
    (hf : Instr.fill (fun i => some (i * 1, 1)) (List.replicate n zc).toArray (ps.map fun x => (x.1, ev t x.2)) = some (ys.map c).toArray)
    (hk : ∀ v w1, St w0 (Row E κ v ys :: Γ) w1 → G P f R (.inRegion ops rest :: k) (put t o.dst v) w1) : G P f R (.inRegion ops (i :: rest) :: k) t w := by
  have hfl : (ys.map enc).flatten = ys.map c := by
    clear hf hk hn hop
    induction ys with
    | nil => rfl
    | cons y ys ih => rw [List.map_cons, List.flatten_cons, ih, hc]; rfl
  refine g_op (v := .slice (some ⟨w.heap.size, 0, none⟩) n n) (w' := w.alloc (.cells (ys.map c).toArray E)) ho hw ?_ (hk _ _ ?_)
  · simp only [execOp, hop]
    have hn1 : ¬ n = 0 := by omega
    have hn2 : ¬ 16777216 < n := by omega
    have hr : (Array.range n).map (fun i => (#[zc] : Array Value)[i % 1]!) = (List.replicate n zc).toArray := by
      apply Array.ext
      · simp
      · intro i h1 h2
        simp [Nat.mod_one]
    have hm : (ps.toArray.map fun x => (x.1, ev t x.2)).toList = ps.map fun x => (x.1, ev t x.2) := by simp
    refine run_value ?_
    simp only [Instr.buildSlice, Sem.run_bind, run_underlying hT, Result.andThen_ok, hsz]
    rw [if_neg (by omega)]
    simp only [Sem.run_bind, Sem.run_pure, Result.andThen_ok, Nat.mul_one, hn1, if_false, hz, hzs]
    have hsz1 : (#[zc] : Array Value).size = 1 := rfl
    simp only [hsz1, hr]
    have hf' : Instr.fill (fun i => some (i * 1, 1)) (List.replicate n zc).toArray (ps.toArray.map fun x => (x.1, ev t x.2)).toList = some (ys.map c).toArray := by rw [hm]; exact hf
    simp only [Nat.mul_one] at hf'
    rw [hf']
    simp [newRow]
  · refine h.new (Turn.alloc w _) (F' := [w.heap.size]) ⟨(ys.map enc).flatten, [], rfl, ?_, Els.flat fk ys⟩ (by simp) (by simp)
    have := World.ownsRow_lit (e := E) (size := 1) w (ys.map c).toArray n (Nat.zero_le _) (by unfold maxLen; omega) (by simp [hn])
    rw [hfl, h1n, hn]
    simpa using this
/-- The first elements of a row, as a row. -/
theorem St.prefix {α : Type} {κ : K α} {enc : α → List Value} (fk : Flat κ enc) {v : Value} {xs : List α} {E : TypeId} (h : St w0 (Row E κ v xs :: Γ) w) (m : Nat) {hi : Int} (h1 : hi ≤ (xs.length : Int)) :
    St w0 (Row E κ (subV v m ((0 : Int)).toNat hi.toNat) ((xs.drop ((0 : Int)).toNat).take (hi.toNat - ((0 : Int)).toNat)) :: Γ) w := by
  have h0 : ((0 : Int)).toNat = 0 := rfl
  rw [h0, List.drop_zero, Nat.sub_zero]
  generalize hb : hi.toNat = b
  have hb1 : b ≤ xs.length := by omega
  refine h.turn fun F hF hnd => ?_
  obtain ⟨cs, F', rfl, how, hel⟩ := hF
  obtain ⟨rfl, rfl⟩ := Els.of_flat fk hel
  have hfl : ∀ (l : List α), (l.map enc).flatten.length = l.length * κ.n := fun l => (Els.flat (w := w) fk l).len
  have hlt : (xs.take b).length = b := by rw [List.length_take]; omega
  rcases how.2 with ⟨rfl, h0⟩ | ⟨g, cap, cur, rfl, hbg, hg, hnc, hcm, hcs, htake⟩
  · obtain rfl : xs = [] := List.length_eq_zero_iff.1 h0
    obtain rfl : b = 0 := by simpa using hb1
    refine ⟨Turn.refl _ _, _, ⟨[], [], rfl, ?_, by simpa using Els.nil⟩, by simp [Value.ownBlock, subV], fun c hc => .inl (by simpa [subV] using hc)⟩
    simpa [subV] using World.ownsRow_nil _ _ _ _
  · have hv : subV (.slice (some ⟨g, 0, none⟩) xs.length cap) m 0 b = .slice (some ⟨g, 0, none⟩) b cap := by
      simp only [subV, Nat.zero_mul, Nat.sub_zero]
      split <;> simp [Addr.add]
    rw [hv]
    refine ⟨Turn.refl _ _, _, ⟨((xs.take b).map enc).flatten, [], rfl, ⟨?_, .inr ⟨g, cap, cur, by rw [hlt], hbg, hg, by omega, hcm, hcs, ?_⟩⟩, Els.flat fk _⟩, by simp [Value.ownBlock], fun c hc => .inl (by simpa [Value.ownBlock] using hc)⟩
    · exact hfl _
    · have e1 : (xs.map enc).flatten = ((xs.take b).map enc).flatten ++ ((xs.drop b).map enc).flatten := by
        rw [← List.flatten_append, ← List.map_append, List.take_append_drop]
      have e2 : (cur.toList.take (xs.length * κ.n)).take (b * κ.n) = ((xs.take b).map enc).flatten := by
        rw [htake, e1, List.take_left']
        rw [hfl, hlt]
      rw [hlt, ← e2, List.take_take]
      congr 1
      exact (Nat.min_eq_left (Nat.mul_le_mul_right _ hb1)).symm
end
end Go.Proofs.YtgpdpedpmhonkaaX
