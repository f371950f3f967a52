/- Short names for what printed proofs say over and over. -/
import Derived.Test.YtgpdpedpmhonkaaXLay
namespace Go.Proofs.YtgpdpedpmhonkaaX
open Go
theorem cq : (∀ {α : Type} (x y : α), cnd true x y = x) ∧ (∀ {α : Type} (x y : α), cnd false x y = y) ∧ (∀ A : As, Asc true A = A) ∧ (∀ A : As, Asc false A = As.emp) ∧ (∀ b : Bool, (true || b) = true) ∧ (∀ b : Bool, (false || b) = b) ∧ (∀ (D : Nat → Bool) (i j : Nat), upd D i j = (j == i || D j)) :=
  ⟨fun _ _ => rfl, fun _ _ => rfl, fun _ => rfl, fun _ => rfl, fun _ => rfl, fun _ => rfl, fun _ _ _ => rfl⟩
theorem lq : (∀ {α : Type} (a : α) (l : List α) (n : Nat), (a :: l).take (n + 1) = a :: l.take n) ∧ (∀ {α : Type} (l : List α), l.take 0 = []) ∧ (∀ {α : Type} (a : α) (l : List α) (n : Nat), (a :: l).drop (n + 1) = l.drop n) ∧ (∀ {α : Type} (l : List α), l.drop 0 = l) ∧
    (∀ {α : Type} (a : α) (l m : List α), (a :: l) ++ m = a :: (l ++ m)) ∧ (∀ {α : Type} (l : List α), [] ++ l = l) ∧ (∀ {α : Type} (a b : α) (l : List α), (a :: l).set 0 b = b :: l) ∧ (∀ {α : Type} (a b : α) (l : List α) (n : Nat), (a :: l).set (n + 1) b = a :: l.set n b) ∧
    (∀ {α : Type} (a : α) (l : List α), (a :: l).eraseIdx 0 = l) ∧ (∀ {α : Type} (a : α) (l : List α) (n : Nat), (a :: l).eraseIdx (n + 1) = a :: l.eraseIdx n) :=
  ⟨fun _ _ _ => rfl, fun _ => rfl, fun _ _ _ => rfl, fun _ => rfl, fun _ _ _ => rfl, fun _ => rfl, fun _ _ _ => rfl, fun _ _ _ _ => rfl, fun _ _ => rfl, fun _ _ _ => rfl⟩
section
variable {ops : Array Oper} {D : Nat → Bool} {n : Nat}
theorem ny (hcl : ∀ j, j < n → D j = true → AllDone D (prd ops j)) (j pos : Nat) {a : Nat} (hf : D a = false) (hj : j < n := by decide) (hl : (prd ops j)[pos]? = some a := by rfl) : D j = false := not_yet (hcl j hj) pos a hl hf
theorem nz (hcl : AllLt n fun j => D j = true → AllDone D ((ops[j]?).map predsOf |>.getD [])) (j pos : Nat) {a : Nat} (hf : D a = false) (hj : j < n := by decide) (hl : ((ops[j]?).map predsOf |>.getD [])[pos]? = some a := by rfl) : D j = false := not_yet (hcl.get j hj) pos a hl hf
end
theorem g_rg {P : Program} {f : FuncId} {R : Ending → World → Prop} {k : List Item} {t : List Value} {w : World} {id : Nat} {ops : Array Oper} (l : List Nat) (hl : List.range ops.size = l) (h : G P f R (.inRegion ops l :: k) t w) : G P f R (.code (.region id ops false) :: k) t w := by
  subst hl
  exact g_region h
end Go.Proofs.YtgpdpedpmhonkaaX
