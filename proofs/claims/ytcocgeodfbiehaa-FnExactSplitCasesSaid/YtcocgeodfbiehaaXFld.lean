/- Stores into a field of an element of a slice. -/
import Derived.Test.YtcocgeodfbiehaaXCopy
namespace Go.Proofs.YtcocgeodfbiehaaX
open Go Go.RowKit
set_option linter.unusedVariables false
set_option linter.unusedSimpArgs false
set_option linter.unusedSectionVars false
section
variable {P : Program} {f : FuncId} {R : Ending → World → Prop} {k : List Item} {t : List Value} {w0 w : World} {Γ : List As} {ops : Array Oper} {i : Nat} {rest : List Nat} {o : Oper}
theorem addr_add (b off m : Nat) : (⟨b, off, none⟩ : Addr).add m = ⟨b, off + m, none⟩ := by unfold Addr.add; split <;> simp_all
/-- A store into a field of an element of a row of the call's own. -/
theorem s_stFld {α : Type} {κ : K α} {enc : α → List Value} (fk : Flat κ enc) (z : α) {v : Value} {xs : List α} {E : TypeId} {n : Int} (h0 : 0 ≤ n) (hn : n < xs.length) {p : Addr} (hp : ∀ b N c, v = .slice (some ⟨b, 0, none⟩) N c → p = ⟨b, n.toNat * κ.n, none⟩)
    (h : St w0 (Row E κ v xs :: Γ) w) (ho : ops[i]? = some o) (hw : Region.wanted o (yl ops t) = true) {T : TypeId} {a x : Operand} {y : α} {off m : Nat} {fs : List Value}
    (hop : o.op = .store T a x) (ha : ev t a = .pointer (some (p.add off))) (hv : (ev t x).cells = fs.toArray) (hsz : ∀ w, (Go.sizeOf T).run P w = .ok m w) (hm : fs.length = m) (h1 : ∀ v ∈ fs, v.oneCell' = true) (hle : off + m ≤ κ.n)
    (hy : enc y = (enc (rdL xs n z)).take off ++ fs ++ (enc (rdL xs n z)).drop (off + m))
    (hk : ∀ w1, St w0 (Row E κ v (stL xs n y) :: Γ) w1 → G P f R (.inRegion ops rest :: k) (put t o.dst undef) w1) : G P f R (.inRegion ops (i :: rest) :: k) t w := by
  obtain ⟨n, rfl⟩ := Int.eq_ofNat_of_zero_le h0
  have hn : n < xs.length := by omega
  simp only [Int.toNat_natCast] at hp
  obtain ⟨F, ⟨cs, F', rfl, how, hel⟩, _⟩ := h.head
  rcases how.2 with ⟨rfl, h0⟩ | ⟨g, cap, cur, rfl, hbg, hg, hnc, hcm, hcs, htake⟩
  · omega
  · have hlen := fk.len y
    obtain rfl := hp _ _ _ rfl
    rw [addr_add] at ha
    have hb1 : n * κ.n + κ.n ≤ xs.length * κ.n := by rw [← Nat.succ_mul]; exact Nat.mul_le_mul_right _ hn
    have hb2 : xs.length * κ.n ≤ cap * κ.n := Nat.mul_le_mul_right _ hnc
    have hr := run_storeCells_at P g (n * κ.n + off) E fs 0 cur w hg (by rw [hm, hcs]; omega) h1
    obtain ⟨rfl, rfl⟩ := Els.of_flat fk hel
    have hfl : ∀ (l : List α), (l.map enc).flatten.length = l.length * κ.n := fun l => (Els.flat (w := w) fk l).len
    have hold : (xs.map enc).flatten = cur.toList.take (xs.length * κ.n) := htake.symm
    have hsplit : xs = xs.take n ++ xs[n] :: xs.drop (n + 1) := by simp
    have hz : rdL xs (n : Int) z = xs[n] := by rw [← rdL_get (by simpa using hn)]; simp
    have hcur : cur.toList = cur.toList.take (n * κ.n) ++ (enc xs[n] ++ cur.toList.drop (n * κ.n + κ.n)) := by
      have e0 : (cur.toList.take (xs.length * κ.n)).drop (n * κ.n) = enc xs[n] ++ ((xs.drop (n + 1)).map enc).flatten := by
        rw [← hold]
        conv => lhs; rw [hsplit]
        rw [List.map_append, List.flatten_append, List.map_cons, List.flatten_cons, List.drop_left']
        rw [hfl, List.length_take, Nat.min_eq_left (by omega)]
      have e1 : (cur.toList.drop (n * κ.n)).take κ.n = enc xs[n] := by
        have : (cur.toList.drop (n * κ.n)).take κ.n = ((cur.toList.take (xs.length * κ.n)).drop (n * κ.n)).take κ.n := by
          rw [List.drop_take, List.take_take]
          congr 1; omega
        rw [this, e0, List.take_left' (fk.len _)]
      conv => lhs; rw [← List.take_append_drop (n * κ.n) cur.toList]
      congr 1
      conv => lhs; rw [← List.take_append_drop κ.n (cur.toList.drop (n * κ.n))]
      rw [e1, List.drop_drop]
    have hA : (cur.toList.take (n * κ.n)).length = n * κ.n := by
      have hcl : cur.toList.length = cap * κ.n := by simpa using hcs
      rw [List.length_take]; omega
    have hB := fk.len xs[n]
    have hnew : cur.toList.take (n * κ.n + off) ++ fs ++ cur.toList.drop (n * κ.n + off + fs.length) = cur.toList.take (n * κ.n) ++ enc y ++ cur.toList.drop (n * κ.n + (enc y).length) := by
      rw [hlen, hy, hz, hm]
      generalize hC : cur.toList.drop (n * κ.n + κ.n) = C at hcur
      generalize cur.toList.take (n * κ.n) = A at hcur hA
      rw [hcur]
      have t1 : (A ++ (enc xs[n] ++ C)).take (n * κ.n + off) = A ++ (enc xs[n]).take off := by
        rw [List.take_append, hA, List.take_of_length_le (by omega), List.take_append]
        rw [show n * κ.n + off - n * κ.n = off by omega, show off - (enc xs[n]).length = 0 by omega, List.take_zero, List.append_nil]
      have t2 : (A ++ (enc xs[n] ++ C)).drop (n * κ.n + off + m) = (enc xs[n]).drop (off + m) ++ C := by
        rw [List.drop_append, hA, List.drop_eq_nil_of_le (by omega), List.nil_append, List.drop_append]
        rw [show n * κ.n + off + m - n * κ.n = off + m by omega, show off + m - (enc xs[n]).length = 0 by omega, List.drop_zero]
      rw [t1, t2]
      simp only [List.append_assoc]
    refine g_op_skip (w' := w.setRow g (cur.toList.take (n * κ.n) ++ enc y ++ cur.toList.drop (n * κ.n + (enc y).length)).toArray) ho hw ?_ (hk _ ?_)
    · rw [← hnew]
      simp only [execOp, hop]
      exact run_unit (by simp [Instr.storeAt, ha, Instr.sureAddr, storeVar, hv, hsz, hm, hr])
    · refine h.turn fun F hF hnd => ?_
      obtain ⟨cs2, F2, rfl, how2, hel2⟩ := hF
      obtain ⟨rfl, rfl⟩ := Els.of_flat fk hel2
      refine ⟨Turn.mono turn_setRow (by simp [Value.ownBlock]), _, ⟨((xs.set n y).map enc).flatten, [], rfl, ⟨?_, .inr ⟨g, cap, _, by simp [stL], hbg, setRow_heap w g cur _ E (0, 0) hg, by simpa [stL] using hnc, hcm, ?_, ?_⟩⟩, Els.flat fk _⟩, by simp [Value.ownBlock], fun b hb => .inl (by simpa using hb)⟩
      · exact (Els.flat (w := w) fk (xs.set n y)).len
      · simp only [List.size_toArray, List.length_append, List.length_take, List.length_drop, Array.length_toList, hlen, hcs]
        omega
      · have e1 : cur.toList.take (n * κ.n) = ((xs.take n).map enc).flatten := by
          have : cur.toList.take (n * κ.n) = (cur.toList.take (xs.length * κ.n)).take (n * κ.n) := by rw [List.take_take]; congr 1; omega
          rw [this, ← hold]
          conv => lhs; rw [hsplit]
          rw [List.map_append, List.flatten_append, List.take_left']
          rw [hfl, List.length_take, Nat.min_eq_left (by omega)]
        have e2 : (cur.toList.drop (n * κ.n + κ.n)).take (xs.length * κ.n - (n * κ.n + κ.n)) = ((xs.drop (n + 1)).map enc).flatten := by
          have : (cur.toList.drop (n * κ.n + κ.n)).take (xs.length * κ.n - (n * κ.n + κ.n)) = (cur.toList.take (xs.length * κ.n)).drop (n * κ.n + κ.n) := by rw [List.drop_take]
          rw [this, ← hold]
          conv => lhs; rw [hsplit]
          rw [List.map_append, List.flatten_append, List.map_cons, List.flatten_cons, ← List.append_assoc, List.drop_left']
          rw [List.length_append, hfl, fk.len, List.length_take, Nat.min_eq_left (by omega)]
        have hset : xs.set n y = xs.take n ++ y :: xs.drop (n + 1) := by rw [List.set_eq_take_append_cons_drop, if_pos hn]
        have hst : stL xs (n : Int) y = xs.set n y := by simp [stL]
        rw [hst, hlen, List.length_set, hset, List.map_append, List.flatten_append, List.map_cons, List.flatten_cons, ← e1, ← e2]
        simp only [List.append_assoc]
        have hcl : cur.toList.length = cap * κ.n := by simpa using hcs
        rw [List.take_append, List.take_append, List.take_take, hA]
        congr 1
        · congr 1; omega
        · rw [hlen]
          congr 1
          · rw [List.take_of_length_le (by rw [hlen]; omega)]
          · congr 1
            omega
end
end Go.Proofs.YtcocgeodfbiehaaX
