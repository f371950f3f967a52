/- More steps: division, shifts, strings, calls. -/
import Derived.Test.YtgpdpedpmhonkaaXKind
namespace Go.Proofs.YtgpdpedpmhonkaaX
open Go Go.RowKit
set_option linter.unusedVariables false
set_option linter.unusedSimpArgs false
set_option linter.unusedSectionVars false
section
variable {P : Program} {f : FuncId} {R : Ending → World → Prop} {k : List Item} {t : List Value} {w0 w : World} {Γ : List As} {ops : Array Oper} {i : Nat} {rest : List Nat} {o : Oper}
theorem s_call {g : FuncId} {args : List Value} {w1 : World} {R' : Value → World → Prop} (ho : ops[i]? = some o) (hw : Region.wanted o (yl ops t) = true)
    (hr : (execOp (ev t) o).run P w = .ok (.enter g args.toArray) w1) (hc : Calls P g args.toArray w1 fun e w' => ∃ v, e = .returned v ∧ R' v w')
    (h : ∀ v w', R' v w' → G P f R (.inRegion ops rest :: k) (put t o.dst v) w') : G P f R (.inRegion ops (i :: rest) :: k) t w := g_call ho hw hr hc h
/-- A call through a variable that holds a function with nothing captured. -/
theorem x_callV {g : FuncId} {x : Operand} {as : List Operand} {tys : Array TypeId} {args : List Value} (hop : o.op = .call { callee := .value x, args := as.toArray, argTypes := tys })
    (hg : ∀ args w, (callFunc g args).run P w = .ok (.enter g args) w) (hx : ev t x = .func (.func g) #[] #[]) (ha : as.map (ev t) = args) : (execOp (ev t) o).run P w = .ok (.enter g args.toArray) w := by
  subst ha
  simp [execOp, hop, resolve, hx, Deferred.ofValue, invoke, hg]
theorem x_callC {g : FuncId} {x : Operand} {as : List Operand} {tys : Array TypeId} {caps args : List Value} (hop : o.op = .call { callee := .value x, args := as.toArray, argTypes := tys })
    (hg : ∀ args w, (callFunc g args).run P w = .ok (.enter g args) w) (hx : ev t x = .func (.func g) #[] caps.toArray) (ha : as.map (ev t) ++ caps = args) : (execOp (ev t) o).run P w = .ok (.enter g args.toArray) w := by
  subst ha
  simp [execOp, hop, resolve, hx, Deferred.ofValue, invoke, hg]
theorem x_mkfunc {f : FuncId} {cs : List Operand} {caps : List Value} (hop : o.op = .makeFunc (.func f) #[] cs.toArray) (hc : cs.map (ev t) = caps) :
    (execOp (ev t) o).run P w = .ok (.value (.func (.func f) #[] caps.toArray)) w := by
  subst hc
  simp [execOp, hop, Instr.makeFunc]
theorem x_divquo {x y : Operand} {T T' : TypeId} {q : IntKind} {a b : Int} (hop : o.op = .binOp .quo T x y T') (hx : ev t x = .int q a) (hy : ev t y = .int q b) (h : ¬ b = 0) :
    (execOp (ev t) o).run P w = .ok (.value (.int q (q.wrap (a.tdiv b)))) w := by
  simp [execOp, hop, hx, hy, eqGuard, binOp, Op.intDiv, h]
theorem x_divrem {x y : Operand} {T T' : TypeId} {q : IntKind} {a b : Int} (hop : o.op = .binOp .rem T x y T') (hx : ev t x = .int q a) (hy : ev t y = .int q b) (h : ¬ b = 0) :
    (execOp (ev t) o).run P w = .ok (.value (.int q (a.tmod b))) w := by
  simp [execOp, hop, hx, hy, eqGuard, binOp, Op.intDiv, h]
theorem x_shl {x y : Operand} {T T' : TypeId} {q q' : IntKind} {a b : Int} (hop : o.op = .binOp .shl T x y T') (hx : ev t x = .int q a) (hy : ev t y = .int q' b) (h : 0 ≤ b) :
    (execOp (ev t) o).run P w = .ok (.value (.int q (shlI q a b))) w := by
  have : ¬ b < 0 := by omega
  simp [execOp, hop, hx, hy, eqGuard, binOp, Op.shift, this, shlI]
theorem x_shr {x y : Operand} {T T' : TypeId} {q q' : IntKind} {a b : Int} (hop : o.op = .binOp .shr T x y T') (hx : ev t x = .int q a) (hy : ev t y = .int q' b) (h : 0 ≤ b) :
    (execOp (ev t) o).run P w = .ok (.value (.int q (shrI q a b))) w := by
  have : ¬ b < 0 := by omega
  simp [execOp, hop, hx, hy, eqGuard, binOp, Op.shift, this, shrI]
theorem x_max {x y : Operand} {tys : Array TypeId} {q : IntKind} {a b : Int} (hop : o.op = .call { callee := .builtin .max, args := #[x, y], argTypes := tys }) (hx : ev t x = .int q a) (hy : ev t y = .int q b) :
    (execOp (ev t) o).run P w = .ok (.value (.int q (mxI a b))) w := by
  simp [execOp, hop, resolve, invoke, builtin, hx, hy, Builtin.max_, Builtin.max2, mxI]
theorem x_max3 {x y z : Operand} {tys : Array TypeId} {q : IntKind} {a b c : Int} (hop : o.op = .call { callee := .builtin .max, args := #[x, y, z], argTypes := tys }) (hx : ev t x = .int q a) (hy : ev t y = .int q b) (hz : ev t z = .int q c) :
    (execOp (ev t) o).run P w = .ok (.value (.int q (mxI (mxI a b) c))) w := by
  simp [execOp, hop, resolve, invoke, builtin, hx, hy, hz, Builtin.max_, Builtin.max2, mxI]
theorem x_min {x y : Operand} {tys : Array TypeId} {q : IntKind} {a b : Int} (hop : o.op = .call { callee := .builtin .min, args := #[x, y], argTypes := tys }) (hx : ev t x = .int q a) (hy : ev t y = .int q b) :
    (execOp (ev t) o).run P w = .ok (.value (.int q (mnI a b))) w := by
  simp [execOp, hop, resolve, invoke, builtin, hx, hy, Builtin.min_, Builtin.min2, mnI]
theorem x_min3 {x y z : Operand} {tys : Array TypeId} {q : IntKind} {a b c : Int} (hop : o.op = .call { callee := .builtin .min, args := #[x, y, z], argTypes := tys }) (hx : ev t x = .int q a) (hy : ev t y = .int q b) (hz : ev t z = .int q c) :
    (execOp (ev t) o).run P w = .ok (.value (.int q (mnI (mnI a b) c))) w := by
  simp [execOp, hop, resolve, invoke, builtin, hx, hy, hz, Builtin.min_, Builtin.min2, mnI]
  try rfl
theorem x_lenS {x : Operand} {T : TypeId} {s : ByteArray} (hop : o.op = .call { callee := .builtin .len, args := #[x], argTypes := #[T] }) (hT : P.underlying T = some .string) (hx : ev t x = .string s) :
    (execOp (ev t) o).run P w = .ok (.value (.int .i64 s.size)) w := by
  simp [execOp, hop, resolve, hx, invoke, builtin, Builtin.len_, goInt, run_underlying hT]
theorem x_lenA {x : Operand} {T : TypeId} {n : Nat} {E : TypeId} (hop : o.op = .call { callee := .builtin .len, args := #[x], argTypes := #[T] }) (hT : P.underlying T = some (.array n E)) :
    (execOp (ev t) o).run P w = .ok (.value (.int .i64 n)) w := by
  simp [execOp, hop, resolve, invoke, builtin, Builtin.len_, goInt, run_underlying hT]
theorem x_indexS {x y : Operand} {T : TypeId} {s : ByteArray} {q : IntKind} {n : Int} (hop : o.op = .index T x y) (hT : P.underlying T = some .string) (hx : ev t x = .string s) (hy : ev t y = .int q n)
    (h0 : 0 ≤ n) (h1 : n < s.size) : (execOp (ev t) o).run P w = .ok (.value (.int .u8 (btS s n))) w := by
  have h2 : n.toNat < s.size := by omega
  simp only [execOp, hop]
  refine run_value ?_
  have h3 : s[n.toNat]? = some s[n.toNat] := getElem?_pos s n.toNat h2
  have h4 : s.data.toList.getD n.toNat 0 = s[n.toNat] := by
    have : n.toNat < s.data.toList.length := by simpa using h2
    simp [List.getD, List.getElem?_eq_getElem this]
    rfl
  simp only [btS, h4]
  simp [Instr.index, hx, hy, asIntOf, run_underlying hT, h0, h3]
theorem x_build {T : TypeId} {v : Value} {ps : List (Nat × Operand)} (hop : o.op = .build T ps.toArray) (h : (Instr.build T (ps.map fun x => (x.1, ev t x.2)).toArray).run P w = .ok v w) : (execOp (ev t) o).run P w = .ok (.value v) w := by
  simp only [execOp, hop]
  refine run_value ?_
  simpa using h
end
end Go.Proofs.YtgpdpedpmhonkaaX
