/- What FromBalanced gives, plainly. -/
import Derived.Test.YtjagkhjbbdfkaaaXPure
namespace Go.Proofs
def FB.upto {α : Type} (f : Nat → α) (k : Nat) : List α := (List.range k).map f
/-- The k-th from behind. -/
def FB.at (zs : List Int) (k : Nat) : Nat × Int := (zs.length - 1 - k, zs[zs.length - 1 - k]?.getD 0)
def FB.w64 (n : Int) : Int := (n + 9223372036854775808) % 18446744073709551616 - 9223372036854775808
def FB.fold (pre : List (Nat × Int)) : Int := pre.foldl (fun s p => FB.w64 (FB.w64 (3 * s) + FB.w64 p.2)) 0
def FB.res (c : Bool) (zs : List Int) : Int × Int := if c = true then (0, 2) else if 30 < zs.length then (0, 3) else (FB.fold (FB.upto (FB.at zs) zs.length), 0)
end Go.Proofs
