/- copy(dst, src) into a row of the call's own, elements one cell wide. -/
import Derived.Test.YtgpdpedpmhonkaaXRows
import Derived.Laws.CopyRow
import Derived.BigFrame
namespace Go.Proofs.YtgpdpedpmhonkaaX
open Go Go.RowKit
set_option linter.unusedVariables false
set_option linter.unusedSimpArgs false
set_option linter.unusedSectionVars false
theorem take_splice (A Y : List Value) (lo L : Nat) (h1 : lo + Y.length ≤ L) (h2 : L ≤ A.length) :
    (A.take lo ++ Y ++ A.drop (lo + Y.length)).take L = (A.take L).take lo ++ Y ++ (A.take L).drop (lo + Y.length) := by
  have e : A.drop (lo + Y.length) = (A.take L).drop (lo + Y.length) ++ A.drop L := by
    conv => lhs; rw [← List.take_append_drop L A]
    rw [List.drop_append]
    congr 1
    rw [List.length_take, show lo + Y.length - min L A.length = 0 by omega, List.drop_zero]
  have e2 : (A.take L).take lo = A.take lo := by rw [List.take_take, show min lo L = lo by omega]
  rw [e, e2, ← List.append_assoc]
  have hlen : (A.take lo ++ Y ++ (A.take L).drop (lo + Y.length)).length = L := by
    simp only [List.length_append, List.length_take, List.length_drop]
    omega
  exact List.take_left' hlen
section
variable {P : Program} {f : FuncId} {R : Ending → World → Prop} {k : List Item} {t : List Value} {w0 w : World} {Γ : List As} {ops : Array Oper} {i : Nat} {rest : List Nat} {o : Oper}
theorem flat1 {α : Type} {enc : α → List Value} {c : α → Value} (hc : ∀ x, enc x = [c x]) (l : List α) : (l.map enc).flatten = l.map c := by
  induction l with
  | nil => rfl
  | cons x l ih => simp [hc, ih]
theorem s_copy {α : Type} {κ : K α} {enc : α → List Value} (fk : Flat κ enc) (c : α → Value) (hc : ∀ x, enc x = [c x]) (h1n : κ.n = 1) {v src : Value} {xs ys : List α} {E : TypeId} {lo hi : Int}
    (h : St w0 (Row E κ v xs :: Γ) w) (hr : RdRow κ w src ys) (h0 : 0 ≤ lo) (h1 : lo ≤ hi) (h2 : hi ≤ (xs.length : Int)) (ho : ops[i]? = some o) (hw : Region.wanted o (yl ops t) = true) {x y : Operand} {dT sT : TypeId}
    (hop : o.op = .call { callee := .builtin .copy, args := #[x, y], argTypes := #[dT, sT] }) (hT : P.underlying dT = some (.slice E)) (hs : (P.info? E).map (·.size) = some 1)
    (hx : (ev t x = v ∧ lo = 0 ∧ hi = (xs.length : Int)) ∨ ev t x = subV v 1 lo.toNat hi.toNat) (hy : ev t y = src)
    (hk : ∀ w1, St w0 (Row E κ v (cpL xs ys lo hi) :: Γ) w1 → G P f R (.inRegion ops rest :: k) (put t o.dst (.int .i64 (cpN xs ys lo hi : Int))) w1) : G P f R (.inRegion ops (i :: rest) :: k) t w := by
  obtain ⟨a, rfl⟩ := Int.eq_ofNat_of_zero_le h0
  obtain ⟨b, rfl⟩ := Int.eq_ofNat_of_zero_le (Int.le_trans h0 h1)
  simp only [Int.toNat_natCast] at hx
  have hN : cpN xs ys (a : Int) (b : Int) = min (b - a) ys.length := by simp [cpN]
  have hL : cpL xs ys (a : Int) (b : Int) = xs.take a ++ ys.take (min (b - a) ys.length) ++ xs.drop (a + min (b - a) ys.length) := by simp [cpL, hN]
  rw [hL, hN] at hk
  generalize hn : min (b - a) ys.length = n at hk
  obtain ⟨F, ⟨cs, F', rfl, how, hel⟩, _⟩ := h.head
  obtain ⟨rfl, rfl⟩ := Els.of_flat fk hel
  obtain ⟨A, capy, rfl, hcy, hey⟩ := hr
  have hzero : ∀ (dst : Value) (B : Option Addr) (cap : Nat), dst = .slice B (b - a) cap → n = 0 → (Builtin.copy_ #[dT, sT] o.type #[dst, .slice A ys.length capy]).run P w = .ok (.int .i64 0) w := by
    intro dst B cap hd h0
    subst hd
    cases hq : P.info? E with
    | none => simp [hq] at hs
    | some inf =>
      have hmn : Nat.min ys.length (b - a) = 0 := (Nat.min_comm _ _).trans (hn.trans h0)
      cases A <;> cases B <;> simp [Builtin.copy_, run_underlying hT, Builtin.lenOf, Builtin.firstCells, sizeOf, typeInfo, hq, hmn, loadCells, loadCellsFrom, storeCells, goInt]
  have keep : n = 0 → xs.take a ++ ys.take n ++ xs.drop (a + n) = xs := by intro h; subst h; simp
  rcases how.2 with ⟨rfl, hl0⟩ | ⟨g, cap, cur, rfl, hbg, hg, hnc, hcm, hcs, htake⟩
  · have hn0 : n = 0 := by omega
    have hd : ∃ B cap, ev t x = .slice B (b - a) cap := by
      rcases hx with ⟨e, _, _⟩ | e
      · exact ⟨none, 0, by rw [e]; congr 1; omega⟩
      · exact ⟨_, _, by rw [e]; rfl⟩
    obtain ⟨B, cp, hd⟩ := hd
    refine g_op (v := .int .i64 (n : Int)) (w' := w) ho hw ?_ (hk w (by rw [keep hn0]; exact h))
    simp only [execOp, hop]
    have := hzero _ _ _ hd hn0
    subst hn0
    simp [hx, hy, invoke, resolve, builtin, this]
  · have hd : ∃ lo', ev t x = .slice (some ⟨g, lo', none⟩) (b - a) (cap - a) ∧ (0 < n → lo' = a) := by
      rcases hx with ⟨e, e1, e2⟩ | e
      · have : a = 0 := by omega
        have : b = xs.length := by omega
        subst_vars
        exact ⟨0, by rw [e]; rfl, fun _ => rfl⟩
      · by_cases hca : cap = a
        · exact ⟨0, by rw [e]; simp [subV, hca], fun hn0 => by omega⟩
        · refine ⟨a, by rw [e]; simp only [subV, hca, if_false, Option.map_some, Nat.mul_one]; congr 2; cases a <;> simp [Addr.add], fun _ => rfl⟩
    obtain ⟨lo', hd, hlo⟩ := hd
    by_cases hn0 : n = 0
    · refine g_op (v := .int .i64 (n : Int)) (w' := w) ho hw ?_ (hk w (by rw [keep hn0]; exact h))
      simp only [execOp, hop]
      have := hzero _ _ _ hd hn0
      rw [hd] at this
      subst hn0
      simp [hy, invoke, resolve, builtin, hd, this]
    · obtain rfl := hlo (by omega)
      have hyn : n ≤ ys.length := by omega
      obtain ⟨ad, _, rfl, _⟩ := hey 0 (by omega)
      have hcl : ((ys.take n).map c).length = n := by simp; omega
      have hsz : cur.size = cap := by rw [hcs, h1n, Nat.mul_one]
      have hmin : Nat.min ys.length (b - lo') = n := by rw [← hn]; exact Nat.min_comm _ _
      have hrun := run_copy_row (P := P) w dT sT o.type E g lo' (b - lo') (cap - lo') ad ys.length capy cur E ((ys.take n).map c) hT hs hg (by rw [hcl]; exact hmin.symm) (by
        intro j u hj
        rw [List.getElem?_map] at hj
        obtain ⟨z, hz, rfl⟩ := Option.map_eq_some_iff.1 hj
        obtain ⟨hjl, hz2⟩ := List.getElem?_eq_some_iff.1 hz
        rw [List.length_take] at hjl
        obtain ⟨ad', cs, hA, _, hcell, hrd⟩ := hey j (by omega)
        obtain rfl := Option.some.inj hA
        have hcs' := fk.rd.1 hrd
        rw [hc] at hcs'
        have := hcell 0 (c ys[j]) (by rw [hcs']; rfl)
        rw [h1n, Nat.mul_one, Nat.add_zero] at this
        rw [this, ← hz2, List.getElem_take]) (by rw [hcl]; omega) (by
        intro u hu
        obtain ⟨z, _, rfl⟩ := List.mem_map.1 hu
        exact fk.one z _ (by rw [hc]; exact List.mem_singleton.2 rfl))
      rw [hcl] at hrun
      refine g_op (v := .int .i64 (n : Int)) (w' := w.setRow g (cur.toList.take lo' ++ (ys.take n).map c ++ cur.toList.drop (lo' + n)).toArray) ho hw ?_ (hk _ ?_)
      · simp only [execOp, hop]
        simp [hy, invoke, resolve, builtin, hd, hrun, goInt]
      · have hlen' : (xs.take lo' ++ ys.take n ++ xs.drop (lo' + n)).length = xs.length := by simp; omega
        refine h.turn fun F hF hnd => ?_
        obtain ⟨cs2, F2, rfl, how2, hel2⟩ := hF
        obtain ⟨rfl, rfl⟩ := Els.of_flat fk hel2
        refine ⟨Turn.mono turn_setRow (by simp [Value.ownBlock]), _, ⟨((xs.take lo' ++ ys.take n ++ xs.drop (lo' + n)).map enc).flatten, [], rfl, ⟨?_, .inr ⟨g, cap, _, by rw [hlen'], hbg, setRow_heap w g cur _ E (0, 0) hg, by rw [hlen']; exact hnc, hcm, ?_, ?_⟩⟩, Els.flat fk _⟩, by simp [Value.ownBlock], fun b hb => .inl (by simpa using hb)⟩
        · exact (Els.flat (w := w) fk _).len
        · rw [h1n, Nat.mul_one]
          simp only [List.size_toArray, List.length_append, List.length_take, List.length_drop, Array.length_toList, List.length_map, hsz]
          omega
        · have hold : xs.map c = cur.toList.take xs.length := by
            have e2 := how2.2
            rcases e2 with ⟨hv2, _⟩ | ⟨g2, cap2, cur2, hv2, _, hg2, _, _, _, ht2⟩
            · simp at hv2
            · simp only [Value.slice.injEq, Option.some.injEq, Addr.mk.injEq, and_true, true_and] at hv2
              obtain ⟨rfl, rfl⟩ := hv2
              rw [hg] at hg2
              simp only [Option.some.injEq, Obj.cells.injEq, and_true] at hg2
              subst hg2
              rw [flat1 hc, h1n, Nat.mul_one] at ht2
              exact ht2.symm
          rw [flat1 hc, hlen', h1n, Nat.mul_one]
          simp only [List.map_append, List.map_take, List.map_drop]
          have hcu : xs.length ≤ cur.toList.length := by
            have : cur.toList.length = cap := hsz
            omega
          have hts := take_splice cur.toList ((ys.take n).map c) lo' xs.length (by rw [hcl]; omega) hcu
          rw [hcl] at hts
          rw [← hold] at hts
          simp only [List.map_take] at hts
          exact hts
end
end Go.Proofs.YtgpdpedpmhonkaaX
