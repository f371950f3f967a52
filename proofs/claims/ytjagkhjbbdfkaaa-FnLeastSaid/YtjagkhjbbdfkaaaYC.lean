/- Small things of sides. -/
import Derived.Test.YtjagkhjbbdfkaaaYB
namespace Go.Proofs.YtjagkhjbbdfkaaaX
open Go
set_option linter.unusedVariables false
set_option linter.unusedSimpArgs false
section
variable {w : List Int} {lo : Int} {L N : Nat}
theorem lo_le {j : Nat} (hs : Sd lo L) : (lo + (j : Int) ≤ 1 ↔ j < L) ∧ -1 ≤ lo ∧ lo ≤ 0 := by
  rcases hs with ⟨rfl, rfl⟩ | ⟨rfl, rfl⟩ <;> omega
theorem mul_range {s x : Int} (h1 : -1 ≤ s) (h2 : s ≤ 1) (hx : 1 ≤ x ∧ x ≤ 2000) : -2000 ≤ s * x ∧ s * x ≤ 2000 := by
  have : s = -1 ∨ s = 0 ∨ s = 1 := by omega
  rcases this with g | g | g <;> rw [g] <;> omega
end
/-- The lower end, as the specification tells it. -/
def loOf (both : Bool) : Int := if both = true then -1 else 0
def LOf (both : Bool) : Nat := if both = true then 3 else 2
theorem sdOf (both : Bool) : Sd (loOf both) (LOf both) := by cases both <;> simp [Sd, loOf, LOf]
end Go.Proofs.YtjagkhjbbdfkaaaX
