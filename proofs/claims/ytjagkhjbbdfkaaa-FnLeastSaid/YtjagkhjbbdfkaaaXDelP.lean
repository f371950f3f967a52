/- A list with a part left out. -/
import Derived.Test.YtjagkhjbbdfkaaaXPure
namespace Go.Proofs.YtjagkhjbbdfkaaaX
/-- The list with the elements from a up to b left out. -/
def delL (xs : List Int) (a b : Int) : List Int := xs.take a.toNat ++ xs.drop b.toNat
end Go.Proofs.YtjagkhjbbdfkaaaX
