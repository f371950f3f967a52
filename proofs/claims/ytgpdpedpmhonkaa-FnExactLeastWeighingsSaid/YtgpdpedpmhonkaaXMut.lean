/- A row that is handed over to be written; slicing. -/
import Derived.Test.YtgpdpedpmhonkaaXAny
namespace Go.Proofs.YtgpdpedpmhonkaaX
open Go Go.RowKit
set_option linter.unusedVariables false
set_option linter.unusedSimpArgs false
set_option linter.unusedSectionVars false
/-- Several chunks as one. -/
def Pack (Γ : List As) : As := ⟨fun F w => Sep w Γ F, fun h hs => Sep.loc h hs, fun h => Sep.lt h⟩
section
variable {w0 w : World} {Γ Γ' : List As} {A : As}
theorem St.pack (n : Nat) (h : St w0 Γ w) : St w0 (Γ.take n ++ [Pack (Γ.drop n)]) w := by
  obtain ⟨hb, F, hs, hn, hl⟩ := h
  rw [← List.take_append_drop n Γ] at hs
  obtain ⟨F1, F2, rfl, h1, h2⟩ := hs.split
  exact ⟨hb, F1 ++ F2, h1.append ⟨F2, [], by simp, h2, rfl⟩, hn, hl⟩
theorem St.unpack (h : St w0 (Γ ++ [Pack Γ']) w) : St w0 (Γ ++ Γ') w := by
  obtain ⟨hb, F, hs, hn, hl⟩ := h
  obtain ⟨F1, F2, rfl, h1, h2⟩ := hs.split
  obtain ⟨F3, F4, rfl, h3, h4⟩ := h2
  simp only [Sep] at h4
  subst h4
  refine ⟨hb, F1 ++ F3, h1.append h3, by simpa using hn, by simpa using hl⟩
end
/-- The slots that nobody asks for are what they are. -/
def Fr (t : List Value) (F : (Nat → Value) → List Value) : Prop := t = F fun i => t.getD i undef
theorem Fr.open {t : List Value} {F : (Nat → Value) → List Value} (h : Fr t F) : ∃ O, t = F O := ⟨_, h⟩
section
variable {P : Program} {f : FuncId} {R : Ending → World → Prop} {k : List Item} {t : List Value} {w0 w : World} {Γ : List As} {ops : Array Oper} {i : Nat} {rest : List Nat} {o : Oper}
theorem g_name (h : ∀ T, T = t → G P f R k T w) : G P f R k t w := h t rfl
theorem x_sliceS {T : TypeId} {x : Operand} {lo hi : Option Operand} {s : ByteArray} {a b : Int} (hop : o.op = .slice T x lo hi none) (hT : P.underlying T = some .string) (hx : ev t x = .string s)
    (hlo : (lo = none ∧ a = 0) ∨ ∃ y q, lo = some y ∧ ev t y = .int q a) (hhi : (hi = none ∧ b = s.size) ∨ ∃ y q, hi = some y ∧ ev t y = .int q b) (h0 : 0 ≤ a) (h1 : a ≤ b) (h2 : b ≤ s.size) :
    (execOp (ev t) o).run P w = .ok (.value (.string (subS s a b))) w := by
  simp only [execOp, hop]
  refine run_value ?_
  have hb : b.toNat ≤ s.size := by omega
  have h3 : a ≤ (b.toNat : Int) := by omega
  have h4 : 0 ≤ b := by omega
  rcases hlo with ⟨rfl, rfl⟩ | ⟨y, q, rfl, hy⟩ <;> rcases hhi with ⟨rfl, rfl⟩ | ⟨y', q', rfl, hy'⟩ <;>
    simp [Instr.sliceAt, Instr.slice, Instr.sliceBounds, Instr.sliceBound, run_underlying hT, hx, asIntOf, *, subS]
  all_goals (intro hh; omega)
theorem x_cat {x y : Operand} {T T' : TypeId} {a b : ByteArray} (hop : o.op = .binOp .add T x y T') (hx : ev t x = .string a) (hy : ev t y = .string b) (h : (a.size : Int) + b.size ≤ 9223372036854775807) :
    (execOp (ev t) o).run P w = .ok (.value (.string (a ++ b))) w := by
  have h1 : ¬ ((a.size + b.size : Nat) : Int) > IntKind.i64.max := by
    have : IntKind.i64.max = 9223372036854775807 := rfl
    rw [this]; omega
  simp only [execOp, hop]
  refine run_value ?_
  simp only [hx, hy, eqGuard, binOp, Op.stringOp, if_neg h1]
  rfl
theorem push_all : ∀ (ns : List Int) (s : ByteArray), ns.foldl (fun r n => r.push (UInt8.ofNat n.toNat)) s = s ++ bsOf ns
  | [], s => by
    show s = s ++ bsOf []
    apply ByteArray.ext
    simp [bsOf, ByteArray.data_append]
  | n :: ns, s => by
    rw [List.foldl_cons, push_all ns]
    apply ByteArray.ext
    simp [bsOf, ByteArray.data_append]
/-- string(b) -/
theorem x_string {x : Operand} {T T' E : TypeId} {v : Value} {xs : List Int} (hop : o.op = .convert T T' x) (hT : P.underlying T = some (.slice E)) (hE : P.underlying E = some (.int .u8)) (hT' : P.underlying T' = some .string)
    (hx : ev t x = v) (hr : RdRow (K.int .u8) w v xs) : (execOp (ev t) o).run P w = .ok (.value (.string (bsOf xs))) w := by
  simp only [execOp, hop]
  refine run_value ?_
  obtain ⟨A, cap, rfl, hc, he⟩ := hr
  rw [hx, run_convert_bytes_string w T T' E A _ _ hT hE hT']
  cases A with
  | none =>
    have : xs = [] := by
      cases xs with
      | nil => rfl
      | cons a l => obtain ⟨ad, es, h, _⟩ := he 0 (by simp); cases h
    subst this
    rfl
  | some a =>
    have hl := run_loadCells_list (P := P) (w := w) a (xs.map (Value.int .u8)) (fun j u hj => by
      rw [List.getElem?_map] at hj
      have hj' : j < xs.length := by
        rcases Nat.lt_or_ge j xs.length with h | h
        · exact h
        · rw [List.getElem?_eq_none h] at hj; cases hj
      obtain ⟨ad, es, h, _, hcell, hrd⟩ := he j hj'
      cases h
      have hes : es = [.int .u8 xs[j]] := hrd
      have := hcell 0 (.int .u8 xs[j]) (by rw [hes]; rfl)
      rw [List.getElem?_eq_getElem hj'] at hj
      simp at hj
      rw [← hj]
      simpa [K.int, K.fl] using this)
    rw [List.length_map] at hl
    rw [run_bytesToString w a _ _ xs hl, push_all]
    congr 2
/-- A whole array variable as a slice. -/
theorem x_sliceA {x : Operand} {T E : TypeId} {n : Nat} {b : Nat} (hop : o.op = .slice T x none none none) (hT : P.underlying T = some (.array n E)) (hsz : ∀ w, ∃ m, (Go.sizeOf E).run P w = .ok m w) (hx : ev t x = .pointer (some ⟨b, 0, none⟩)) :
    (execOp (ev t) o).run P w = .ok (.value (.slice (some ⟨b, 0, none⟩) n n)) w := by
  obtain ⟨m, hm⟩ := hsz w
  simp only [execOp, hop]
  refine run_value ?_
  simp [Instr.sliceAt, run_underlying hT, hx, Instr.sureAddr, Instr.sliceBounds, hm]
  intro; rfl
theorem rdBox {α : Type} {κ : K α} {enc : α → List Value} (fk : Flat κ enc) {n : Nat} {a : Ar α n} {b : Nat} {E : TypeId} {fz : Nat × Nat} (hb : w.heap[b]? = some (.cells (encA enc a).toArray E fz)) : RdRow κ w (.slice (some ⟨b, 0, none⟩) n n) a.l := by
  refine ⟨some ⟨b, 0, none⟩, n, by rw [a.h], by rw [a.h]; exact Nat.le_refl _, fun i hi => ⟨⟨b, 0, none⟩, enc a.l[i], rfl, (Array.getElem?_eq_some_iff.1 hb).1, fun j u hj => ?_, fk.rd.2 rfl⟩⟩
  have hlen : (enc a.l[i]).length = κ.n := fk.len _
  have h1 : ((encA enc a).drop (i * κ.n)).take κ.n = enc a.l[i] := by
    have := encA_at (e := enc) fk.len a (i : Int) a.l[i] (by omega) (by rw [a.h] at hi; omega)
    simp only [Int.toNat_natCast, Ar.get, List.getD, List.getElem?_eq_getElem hi, Option.getD_some] at this
    exact this
  have hj' : j < κ.n := by
    rcases Nat.lt_or_ge j κ.n with h | h
    · exact h
    · rw [List.getElem?_eq_none (by rw [hlen]; exact h)] at hj; cases hj
  have h2 : (encA enc a)[i * κ.n + j]? = some u := by
    rw [← h1, List.getElem?_take, if_pos hj', List.getElem?_drop] at hj
    exact hj
  have h3 : (⟨b, 0, none⟩ : Addr).add (i * κ.n + j) = ⟨b, i * κ.n + j, none⟩ := by unfold Addr.add; split <;> simp_all
  rw [h3, cell_of_row w b _ _ E fz hb]
  simpa using h2
end
end Go.Proofs.YtgpdpedpmhonkaaX
