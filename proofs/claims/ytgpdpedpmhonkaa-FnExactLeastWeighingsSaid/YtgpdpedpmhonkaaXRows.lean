/- Arrays of slices, cell by cell; a part of a slice; a field of an element. -/
import Derived.Test.YtgpdpedpmhonkaaXLay
namespace Go.Proofs.YtgpdpedpmhonkaaX
open Go Go.RowKit
set_option linter.unusedVariables false
set_option linter.unusedSectionVars false
set_option linter.unusedSimpArgs false
section
variable {P : Program} {f : FuncId} {R : Ending → World → Prop} {k : List Item} {t : List Value} {w0 w : World} {Γ : List As} {ops : Array Oper} {i : Nat} {rest : List Nat} {o : Oper}
/-- The address of element j of an array variable. -/
theorem s_idxJ {n : Int} {b off m N : Nat} (j : Nat) (hj : n = (j : Int)) (hl : j < N) {T E : TypeId} (hT : P.underlying T = some (.array N E)) (hsz : ∀ w, (Go.sizeOf E).run P w = .ok m w)
    (ho : ops[i]? = some o) (hw : Region.wanted o (yl ops t) = true) {x ix : Operand} {q : IntKind} (hop : o.op = .indexAddr T x ix) (hx : ev t x = .pointer (some ⟨b, off, none⟩)) (hi : ev t ix = .int q n)
    (hk : G P f R (.inRegion ops rest :: k) (put t o.dst (.pointer (some ⟨b, off + j * m, none⟩))) w) : G P f R (.inRegion ops (i :: rest) :: k) t w := by
  subst hj
  exact s_idxA hT hsz (by omega) (by omega) ho hw hop hx hi hk
/-- Element j of an array value, one cell wide. -/
theorem s_indexJ {n : Int} {N : Nat} (j : Nat) (hj : n = (j : Int)) (hl : j < N) {cs : List Value} {v : Value} (hc : cs[j]? = some v) {T E : TypeId} (hT : P.underlying T = some (.array N E)) (hsz : ∀ w, (Go.sizeOf E).run P w = .ok 1 w)
    (hag : ∀ w, (isAgg E).run P w = .ok false w)
    (ho : ops[i]? = some o) (hw : Region.wanted o (yl ops t) = true) {x ix : Operand} {q : IntKind} (hop : o.op = .index T x ix) (hx : ev t x = .agg cs.toArray) (hi : ev t ix = .int q n)
    (hk : G P f R (.inRegion ops rest :: k) (put t o.dst v) w) : G P f R (.inRegion ops (i :: rest) :: k) t w := by
  subst hj
  refine g_op (v := v) ho hw ?_ hk
  have h0 : (0 : Int) ≤ (j : Int) := by omega
  have h1 : ((j : Nat) : Int) < (N : Int) := by omega
  simp only [execOp, hop]
  exact run_value (by simp [Instr.index, hx, hi, asIntOf, run_underlying hT, h0, hl, hsz, part, hag, hc])
/-- A part of a slice. -/
def subV (v : Value) (m lo hi : Nat) : Value := match v with
  | .slice a _ cap => .slice (if cap = lo then a else a.map (·.add (lo * m))) (hi - lo) (cap - lo)
  | _ => undef
theorem rdSub {α : Type} {κ : K α} {v : Value} {xs : List α} (h : RdRow κ w v xs) (m : Nat) (hm : κ.n = m) {lo hi : Int} (h0 : 0 ≤ lo) (h1 : lo ≤ hi) (h2 : hi ≤ (xs.length : Int)) : RdRow κ w (subV v m lo.toNat hi.toNat) ((xs.drop lo.toNat).take (hi.toNat - lo.toNat)) := by
  obtain ⟨a, rfl⟩ := Int.eq_ofNat_of_zero_le h0
  obtain ⟨b, rfl⟩ := Int.eq_ofNat_of_zero_le (Int.le_trans h0 h1)
  simp only [Int.toNat_natCast]
  subst hm
  obtain ⟨A, cap, rfl, hc, he⟩ := h
  have hlen : ((xs.drop a).take (b - a)).length = b - a := by simp; omega
  refine ⟨_, cap - a, by unfold subV; rw [hlen], by omega, fun i hi => ?_⟩
  rw [hlen] at hi
  obtain ⟨ad, cs, rfl, hlt, hcell, hr⟩ := he (a + i) (by omega)
  have hne : ¬ cap = a := by omega
  refine ⟨ad.add (a * κ.n), cs, by simp [hne], by unfold Addr.add; split <;> exact hlt, fun j u hj => ?_, ?_⟩
  · rw [add_add]
    have := hcell j u hj
    rwa [show (a + i) * κ.n + j = a * κ.n + (i * κ.n + j) by rw [Nat.add_mul]; omega] at this
  · have e : ((xs.drop a).take (b - a))[i]'(by omega) = xs[a + i] := by simp
    rw [e]; exact hr
theorem x_slice {α : Type} {κ : K α} {v : Value} {xs : List α} (h : RdRow κ w v xs) {T E : TypeId} {m : Nat} {x : Operand} {lo hi : Option Operand} {a b : Int} (hop : o.op = .slice T x lo hi none) (hT : P.underlying T = some (.slice E)) (hsz : ∀ w, (Go.sizeOf E).run P w = .ok m w) (hx : ev t x = v)
    (hlo : (lo = none ∧ a = 0) ∨ ∃ y q, lo = some y ∧ ev t y = .int q a) (hhi : (hi = none ∧ b = xs.length) ∨ ∃ y q, hi = some y ∧ ev t y = .int q b) (h0 : 0 ≤ a) (h1 : a ≤ b) (h2 : b ≤ xs.length) :
    (execOp (ev t) o).run P w = .ok (.value (subV v m a.toNat b.toNat)) w := by
  obtain ⟨A, cap, rfl, hc, _⟩ := h
  simp only [execOp, hop]
  refine run_value ?_
  have hb : b.toNat ≤ xs.length := by omega
  have h3 : a ≤ (b.toNat : Int) := by omega
  have h4 : 0 ≤ b := by omega
  have h5 : b ≤ (cap : Int) := by omega
  rcases hlo with ⟨rfl, rfl⟩ | ⟨y, q, rfl, hy⟩ <;> rcases hhi with ⟨rfl, rfl⟩ | ⟨y', q', rfl, hy'⟩ <;>
    simp [Instr.sliceAt, Instr.slice, Instr.sliceBounds, Instr.sliceBound, run_underlying hT, hx, asIntOf, hsz, subV, *]
  all_goals (first | rfl | (intro hh; omega) | (split <;> simp_all))
/-- An array literal whose elements are one cell wide. -/
theorem x_buildA {T E : TypeId} {n : Nat} {ps : List (Nat × Operand)} {zs cs : List Value} (hop : o.op = .build T ps.toArray) (hT : P.underlying T = some (.array n E))
    (hz : ∀ w, (zeroValue T).run P w = .ok (.agg zs.toArray) w) (hsz : ∀ w, (Go.sizeOf E).run P w = .ok 1 w) (hf : Instr.fill (fun i => some (i * 1, 1)) zs.toArray (ps.map fun x => (x.1, ev t x.2)) = some cs.toArray) :
    (execOp (ev t) o).run P w = .ok (.value (.agg cs.toArray)) w := by
  refine x_build hop ?_
  rw [build_eq]
  simp only [Sem.run_bind, hz, Result.andThen_ok, run_underlying hT, hsz, Value.cells, hf, Sem.run_pure]
/-- A part of the cells that stand at an address. -/
theorem CellsAt.sub {p : Addr} {es : List Value} (h : CellsAt w p es) (off n : Nat) {fs : List Value} (he : (es.drop off).take n = fs) : CellsAt w (p.add off) fs := by
  subst he
  intro j u hj
  rw [add_add]
  refine h (off + j) u ?_
  rw [List.getElem?_take] at hj
  split at hj
  · rwa [List.getElem?_drop] at hj
  · cases hj
/-- The address of a field of what stands at an address. -/
theorem x_fieldAt {p : Addr} {T : TypeId} {x : Operand} {fd : Nat} {fs : Array Field} {fl : Field} (hop : o.op = .fieldAddr T x fd) (hT : P.underlying T = some (.struct fs)) (hf : fs[fd]? = some fl) {off : Nat} (hof : fl.offset = off) (hx : ev t x = .pointer (some p)) {m : Nat} (hsz : ∀ w, (Go.sizeOf fl.type).run P w = .ok m w) (hm : ¬ m = 0) :
    (execOp (ev t) o).run P w = .ok (.value (.pointer (some (p.add off)))) w := by
  subst hof
  simp only [execOp, hop]
  refine run_value ?_
  simp [Instr.fieldAt, hx, Instr.sureAddr, run_underlying hT, hf, fieldPlace, hsz, hm]
end
end Go.Proofs.YtgpdpedpmhonkaaX
