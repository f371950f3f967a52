/- Keys that hold an array of four numbers; lookups that tell whether there is an entry. -/
import Derived.Test.YtgpdpedpmhonkaaXEnt
import Derived.Test.YtgpdpedpmhonkaaXEq
import Derived.ChangeKeysEq
namespace Go.Proofs.YtgpdpedpmhonkaaX
open Go Go.RowKit
set_option linter.unusedVariables false
set_option linter.unusedSimpArgs false
set_option linter.unusedSectionVars false
theorem ar4 {α : Type} (a : Ar α 4) : ∃ x y z t, a = ⟨[x, y, z, t], rfl⟩ := by
  obtain ⟨l, h⟩ := a
  match l, h with
  | [x, y, z, t], _ => exact ⟨x, y, z, t, rfl⟩
/-- An array of numbers, as a key. -/
def ekA (q : IntKind) {n : Nat} (x : Ar Int n) : Value := .agg (encA (encI q) x).toArray
section
variable {P : Program} {w : World} {t : List Value} {o : Oper}
theorem eqItems_step {d : Nat} {e : TypeId} {c j : Nat} {js : List Nat} {xs ys : Array Value} {k : IntKind} {x y : Int} {r : Bool} (he : P.underlying e = some (.int k)) (p : (part e xs (j * c)).run P w = .ok (.int k x) w) (q : (part e ys (j * c)).run P w = .ok (.int k y) w)
    (h : (Op.eqItems (d + 1) e c xs ys js).run P w = .ok r w) : (Op.eqItems (d + 1) e c xs ys (j :: js)).run P w = .ok ((x == y) && r) w := by
  have hq := equalIn_int (w := w) (d := d) (a := x) (b := y) he
  simp only [Op.eqItems, Sem.run_bind, p, q, hq, Result.andThen_ok]
  cases hxy : (x == y) with
  | false => simp
  | true => simpa using h
theorem equalIn_arr4 {d : Nat} {T e : TypeId} {i : TypeInfo} {k : IntKind} {xs ys : Array Value} {x0 x1 x2 x3 y0 y1 y2 y3 : Int} (hu : P.underlying T = some (.array 4 e)) (hi : P.info? e = some i) (he : P.underlying e = some (.int k)) (hc : P.cellsOf e = 1)
    (p0 : (part e xs (0 * 1)).run P w = .ok (.int k x0) w) (p1 : (part e xs (1 * 1)).run P w = .ok (.int k x1) w) (p2 : (part e xs (2 * 1)).run P w = .ok (.int k x2) w) (p3 : (part e xs (3 * 1)).run P w = .ok (.int k x3) w)
    (q0 : (part e ys (0 * 1)).run P w = .ok (.int k y0) w) (q1 : (part e ys (1 * 1)).run P w = .ok (.int k y1) w) (q2 : (part e ys (2 * 1)).run P w = .ok (.int k y2) w) (q3 : (part e ys (3 * 1)).run P w = .ok (.int k y3) w) :
    (Op.equalIn (d + 2) T (.agg xs) (.agg ys)).run P w = .ok ((x0 == y0) && ((x1 == y1) && ((x2 == y2) && ((x3 == y3) && true)))) w := by
  rw [run_equalIn_array w (d + 1) xs ys hu hi, hc]
  exact eqItems_step he p0 q0 (eqItems_step he p1 q1 (eqItems_step he p2 q2 (eqItems_step he p3 q3 (by simp [Op.eqItems]))))
theorem check_arr4 {T e : TypeId} {k : IntKind} {cs : Array Value} {b : Bool} {n : Nat} {x0 x1 x2 x3 : Int} (hu : P.underlying T = some (.array 4 e)) (he : P.underlying e = some (.int k)) (hsz : (Go.sizeOf e).run P w = .ok 1 w)
    (p0 : (part e cs (0 * 1)).run P w = .ok (.int k x0) w) (p1 : (part e cs (1 * 1)).run P w = .ok (.int k x1) w) (p2 : (part e cs (2 * 1)).run P w = .ok (.int k x2) w) (p3 : (part e cs (3 * 1)).run P w = .ok (.int k x3) w) :
    (Instr.checkKey b (n + 2) T (.agg cs)).run P w = .ok () w := by
  have c0 := check_int (w := w) (P := P) (T := e) (q := k) (a := x0) (b := b) (n := n) he
  have c1 := check_int (w := w) (P := P) (T := e) (q := k) (a := x1) (b := b) (n := n) he
  have c2 := check_int (w := w) (P := P) (T := e) (q := k) (a := x2) (b := b) (n := n) he
  have c3 := check_int (w := w) (P := P) (T := e) (q := k) (a := x3) (b := b) (n := n) he
  rw [Instr.checkKey]
  simp only [Sem.run_bind, run_underlying hu, Result.andThen_ok]
  rw [Std.Legacy.Range.forIn_eq_forIn_range']
  simp only [Std.Legacy.Range.size, Nat.sub_zero, Nat.add_one_sub_one, Nat.div_one]
  rw [show List.range' 0 4 = [0, 1, 2, 3] from rfl]
  simp only [List.forIn_cons, List.forIn_nil, Sem.run_bind, hsz, p0, p1, p2, p3, c0, c1, c2, c3, Result.andThen_ok, Sem.run_pure]
theorem x_lookupOk {κ ν : Type} [DecidableEq κ] {ek : κ → Value} {en : ν → Value} {kt : TypeId} (K : KeyOk P kt ek) {b : Nat} {kv : List (κ × ν)} {a : κ} {z : ν} (h : ∃ es, w.heap[b]? = some (.map es es.size) ∧ Ents ek en es kv) {T vt : TypeId} {m x : Operand}
    (hop : o.op = .lookup T m x true) (hT : P.underlying T = some (.map kt vt)) (hm : ev t m = .map (some b)) (hx : ev t x = ek a) (hz : ∀ w, (zeroValue vt).run P w = .ok (en z) w) :
    (execOp (ev t) o).run P w = .ok (.value (.tuple #[en (mGet kv a z), .bool (mIdx kv a).isSome])) w := by
  obtain ⟨es, hb, he, hborn⟩ := h
  have hf := finding (w := w) (en := en) K a he
  simp only [execOp, hop]
  refine run_value ?_
  rw [hm, hx]
  cases hq : mIdx kv a with
  | some j =>
    obtain ⟨hj, _⟩ := mIdx_some hq
    simp [Instr.lookup, run_underlying hT, getMap hb, K.check, hf, hq, mGet, List.getElem?_eq_getElem hj]
  | none =>
    simp [Instr.lookup, run_underlying hT, getMap hb, K.check, hf, hq, mGet, hz]
end
end Go.Proofs.YtgpdpedpmhonkaaX
