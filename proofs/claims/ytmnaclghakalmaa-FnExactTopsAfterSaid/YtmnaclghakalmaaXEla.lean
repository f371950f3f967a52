/- An element of an array that is an element of a slice. -/
import Derived.Test.YtmnaclghakalmaaXFld
namespace Go.Proofs.YtmnaclghakalmaaX
open Go Go.RowKit
section
variable {P : Program} {f : FuncId} {R : Ending → World → Prop} {k : List Item} {t : List Value} {w0 w : World} {Γ : List As} {ops : Array Oper} {i : Nat} {rest : List Nat} {o : Oper}
theorem s_idxEA {n : Int} {p : Addr} {m N : Nat} {T E : TypeId} (hT : P.underlying T = some (.array N E)) (hsz : ∀ w, (Go.sizeOf E).run P w = .ok m w) (h0 : 0 ≤ n) (h1 : n < N)
    (ho : ops[i]? = some o) (hw : Region.wanted o (yl ops t) = true) {x ix : Operand} {q : IntKind} (hop : o.op = .indexAddr T x ix) (hx : ev t x = .pointer (some p)) (hi : ev t ix = .int q n)
    (hk : G P f R (.inRegion ops rest :: k) (put t o.dst (.pointer (some (p.add (n.toNat * m))))) w) : G P f R (.inRegion ops (i :: rest) :: k) t w := by
  refine g_op (v := .pointer (some (p.add (n.toNat * m)))) ho hw ?_ hk
  simp only [execOp, hop]
  exact run_value (by simp [Instr.indexAt, hx, hi, asIntOf, Instr.sureAddr, run_underlying hT, h0, h1, hsz])
end
end Go.Proofs.YtmnaclghakalmaaX
