/- Pieces of code by their places. -/
import Derived.Test.YtgpdpedpmhonkaaXKind
namespace Go.Proofs.YtgpdpedpmhonkaaX
open Go
/-- The parts of a piece of code. -/
def Code.kid : Code → Nat → Code
  | .seq a b, i => match i with | 0 => a | _ => b
  | .cond _ a b, i => match i with | 0 => a | _ => b
  | .block _ b, _ => b
  | .loop b, _ => b
  | c, _ => c
def Code.at_ (c : Code) : List Nat → Code
  | [] => c
  | i :: l => Code.at_ (Code.kid c i) l
theorem encAI_len {n : Nat} (q : IntKind) (a : Ar Int n) : (encA (encI q) a).length = n := (encA_len (m := 1) (fun _ => rfl) a).trans (Nat.mul_one n)
theorem encAB_len {n : Nat} (a : Ar Bool n) : (encA encB a).length = n := (encA_len (m := 1) (fun _ => rfl) a).trans (Nat.mul_one n)
theorem set0 {α : Type} (a : α) (l : List α) (b : α) : (a :: l).set 0 b = b :: l := rfl
theorem setS {α : Type} (a : α) (l : List α) (n : Nat) (b : α) : (a :: l).set (n + 1) b = a :: l.set n b := rfl
section
variable {P : Program} {f : FuncId} {R : Ending → World → Prop} {k : List Item} {t : List Value} {w : World}
theorem g_d {o : Option Tmp} {d : Nat} {v : Value} (h : o = some d) (hk : G P f R k (t.set d v) w) : G P f R k (put t o v) w := by subst h; exact hk
theorem g_n {o : Option Tmp} {v : Value} (h : o = none) (hk : G P f R k t w) : G P f R k (put t o v) w := by subst h; exact hk
end
end Go.Proofs.YtgpdpedpmhonkaaX
