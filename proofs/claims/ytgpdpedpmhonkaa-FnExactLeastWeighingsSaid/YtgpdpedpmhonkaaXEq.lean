/- Structs compared. -/
import Derived.Test.YtgpdpedpmhonkaaXRows
import Derived.Laws.StructEq
namespace Go.Proofs.YtgpdpedpmhonkaaX
open Go Go.RowKit
set_option linter.unusedVariables false
set_option linter.unusedSimpArgs false
section
variable {P : Program} {t : List Value} {w : World} {o : Oper} {d : Nat} {xs ys : Array Value}
theorem eqFields_nil : (Op.eqFields d xs ys []).run P w = .ok true w := by simp [Op.eqFields]
theorem eqFields_step {f : Field} {fs : List Field} {a b : Value} {r rest : Bool} (hn : f.name ≠ "_") (hp : (part f.type xs f.offset).run P w = .ok a w) (hq : (part f.type ys f.offset).run P w = .ok b w)
    (he : (Op.equalIn d f.type a b).run P w = .ok r w) (hr : (Op.eqFields d xs ys fs).run P w = .ok rest w) : (Op.eqFields d xs ys (f :: fs)).run P w = .ok (r && rest) w := by
  simp only [Op.eqFields, hn, ne_eq, not_false_eq_true, if_true, Sem.run_bind, hp, hq, he, Result.andThen_ok]
  cases r
  · simp
  · simpa using hr
theorem equalIn_int {T : TypeId} {k : IntKind} {a b : Int} (ht : P.underlying T = some (.int k)) : (Op.equalIn (d + 1) T (.int k a) (.int k b)).run P w = .ok (a == b) w := by
  simp [Op.equalIn, run_underlying ht]
theorem equalIn_bool {T : TypeId} {a b : Bool} (ht : P.underlying T = some .bool) : (Op.equalIn (d + 1) T (.bool a) (.bool b)).run P w = .ok (a == b) w := by
  simp [Op.equalIn, run_underlying ht]
theorem equalIn_str {T : TypeId} {a b : ByteArray} (ht : P.underlying T = some .string) : (Op.equalIn (d + 1) T (.string a) (.string b)).run P w = .ok (a == b) w := by
  simp [Op.equalIn, run_underlying ht]
theorem equal_struct {T : TypeId} {fs : List Field} {r : Bool} (ht : P.underlying T = some (.struct fs.toArray)) (hp : P.stoodInHeld T = false) (h : (Op.eqFields 9999 xs ys fs).run P w = .ok r w) :
    (Op.equal T (.agg xs) (.agg ys)).run P w = .ok r w := by
  have e : P.fieldsOf T = fs.toArray := by simp [Program.fieldsOf, ht]
  have q := run_equalIn_struct w 9999 T xs ys (by rw [e]; exact ht) hp
  rw [e] at q
  exact q.trans (by simpa using h)
theorem x_eql {x y : Operand} {T T' : TypeId} {r : Bool} (hop : o.op = .binOp .eql T x y T') (hx : ev t x = .agg xs) (hy : ev t y = .agg ys) (hg : P.eqGuardType P.depth T = false) (h : (Op.equal T (.agg xs) (.agg ys)).run P w = .ok r w) :
    (execOp (ev t) o).run P w = .ok (.value (.bool r)) w := by
  simp [execOp, hop, hx, hy, eqGuard, hg, binOp, h]
theorem x_neq {x y : Operand} {T T' : TypeId} {r : Bool} (hop : o.op = .binOp .neq T x y T') (hx : ev t x = .agg xs) (hy : ev t y = .agg ys) (hg : P.eqGuardType P.depth T = false) (h : (Op.equal T (.agg xs) (.agg ys)).run P w = .ok r w) :
    (execOp (ev t) o).run P w = .ok (.value (.bool (!r))) w := by
  simp [execOp, hop, hx, hy, eqGuard, hg, binOp, h]
end
end Go.Proofs.YtgpdpedpmhonkaaX
