/- Plain laws of the loops that mark a result and look whether the marks stand. -/
import Derived.Test.YtmnaclghakalmaaXWalk
namespace Go.Proofs.YtmnaclghakalmaaX
open Go
set_option linter.unusedVariables false

def marked {α : Type} (f : Int → α) (k0 : Int) (n : Nat) : List α := (List.range n).map fun (i : Nat) => f (k0 + (i : Int))
theorem marked_len {α : Type} (f : Int → α) (k0 : Int) (n : Nat) : (marked f k0 n).length = n := by simp [marked]
theorem marked_get {α : Type} (f : Int → α) (k0 : Int) {n i : Nat} (h : i < (marked f k0 n).length) : (marked f k0 n)[i] = f (k0 + (i : Int)) := by simp [marked]

theorem mark_set {α : Type} (f : Int → α) (k0 : Int) (l : List α) (i : Nat) (hi : i < l.length) : (marked f k0 i ++ l.drop i).set i (f (k0 + (i : Int))) = marked f k0 (i + 1) ++ l.drop (i + 1) := by
  apply List.ext_getElem?
  intro j
  by_cases h1 : j = i
  · subst h1
    rw [List.getElem?_set_self (by simp [marked_len]; omega), List.getElem?_append_left (by simp [marked_len])]
    rw [List.getElem?_eq_getElem (by simp [marked_len]), marked_get]
  · rw [List.getElem?_set_ne (by omega)]
    by_cases h2 : j < i
    · rw [List.getElem?_append_left (by simp [marked_len]; omega), List.getElem?_append_left (by simp [marked_len]; omega)]
      rw [List.getElem?_eq_getElem (by simp [marked_len]; omega), List.getElem?_eq_getElem (by simp [marked_len]; omega), marked_get, marked_get]
    · rw [List.getElem?_append_right (by simp [marked_len]; omega), List.getElem?_append_right (by simp [marked_len]; omega)]
      simp only [marked_len, List.getElem?_drop]
      congr 1
      omega
theorem mark_length {α : Type} (f : Int → α) (k0 : Int) (l : List α) (i : Nat) (hi : i ≤ l.length) : (marked f k0 i ++ l.drop i).length = l.length := by simp [marked_len]; omega

/-- A loop that writes a running number into each element. -/
theorem rounds_mark {ρ α : Type} {b : List α × Int × Int → Option (Bd ρ (Int × List α) (List α × Int × Int))} (f : Int → α) (l : List α) (k0 : Int) {N : Nat} (hN : l.length < N)
    (hs : ∀ (x : List α) (i : Nat), i < l.length → x.length = l.length → b (x, k0 + (i : Int), (i : Int)) = some (.next (x.set i (f (k0 + (i : Int))), k0 + ((i + 1 : Nat) : Int), ((i + 1 : Nat) : Int))))
    (he : ∀ x : List α, x.length = l.length → b (x, k0 + (l.length : Int), (l.length : Int)) = some (.out (.go (k0 + (l.length : Int), x)))) :
    rounds b N (l, k0, 0) = some (.go (k0 + (l.length : Int), marked f k0 l.length)) := by
  have q := rounds_for (b := b) (e := .go (k0 + (l.length : Int), marked f k0 l.length)) (fun i => (marked f k0 i ++ l.drop i, k0 + (i : Int), (i : Int))) l.length 0 N (Nat.zero_le _) (by simpa using hN)
    (fun i _ hi => by rw [hs _ i hi (mark_length f k0 l i (by omega)), mark_set f k0 l i hi])
    (by rw [he _ (mark_length f k0 l _ (Nat.le_refl _))]; simp)
  simpa [marked] using q

/-- A loop that looks whether the running numbers stand. -/
theorem rounds_held {ρ : Type} {b : Int × Int → Option (Bd ρ Int (Int × Int))} (n : Nat) (k0 : Int) {N : Nat} (hN : n < N)
    (hs : ∀ i : Nat, i < n → b (k0 + (i : Int), (i : Int)) = some (.next (k0 + ((i + 1 : Nat) : Int), ((i + 1 : Nat) : Int))))
    (he : b (k0 + (n : Int), (n : Int)) = some (.out (.go (k0 + (n : Int))))) :
    rounds b N (k0, 0) = some (.go (k0 + (n : Int))) := by
  have q := rounds_for (b := b) (e := .go (k0 + (n : Int))) (fun i => (k0 + (i : Int), (i : Int))) n 0 N (Nat.zero_le _) (by simpa using hN) (fun i _ hi => hs i hi) he
  simpa using q
end Go.Proofs.YtmnaclghakalmaaX
