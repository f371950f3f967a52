/- Tops in their order, plainly. -/
import Derived.Test.YtmnaclghakalmaaXPure
namespace Go.Proofs
/-- The order of two lists of one length. -/
def TC.lex : List Int → List Int → Int
  | x :: xs, y :: ys => if x < y then -1 else if y < x then 1 else TC.lex xs ys
  | _, _ => 0
namespace YtmnaclghakalmaaX
def tCf (a b : Ar Int 4) : Int := TC.lex a.l b.l
def tSorted (xs : List (Ar Int 4)) : List (Ar Int 4) := xs.mergeSort fun x y => !decide (tCf y x < 0)
end YtmnaclghakalmaaX
end Go.Proofs
