import Derived.Test.YtljkpeeabpdalaaDoorP12
namespace Go.Proofs.YtljkpeeabpdalaaDoorX
open Go
set_option linter.unusedVariables false
def marked {α:Type} (f:Int→α) (k0:Int) (n:Nat):List α:=(List.range n).map fun (i:Nat)=>f (k0+(i:Int))
theorem marked_len {α:Type} (f:Int→α) (k0:Int) (n:Nat):(marked f k0 n).length=n:=by simp [marked]
theorem marked_get {α:Type} (f:Int→α) (k0:Int) {n i:Nat} (h:i< (marked f k0 n).length):(marked f k0 n)[i]=f (k0+(i:Int)):=by simp [marked]
theorem mark_set {α:Type} (f:Int→α) (k0:Int) (l:List α) (i:Nat) (hi:i< l.length):(marked f k0 i++l.drop i).set i (f (k0+(i:Int)))=marked f k0 (i+1)++l.drop (i+1):=by
 apply List.ext_getElem?
 intro j
 by_cases h1:j=i
 ·subst h1
  rw [List.getElem?_set_self (by simp [marked_len];omega),List.getElem?_append_left (by simp [marked_len])]
  rw [List.getElem?_eq_getElem (by simp [marked_len]),marked_get]
 ·rw [List.getElem?_set_ne (by omega)]
  by_cases h2:j< i
  ·rw [List.getElem?_append_left (by simp [marked_len];omega),List.getElem?_append_left (by simp [marked_len];omega)]
   rw [List.getElem?_eq_getElem (by simp [marked_len];omega),List.getElem?_eq_getElem (by simp [marked_len];omega),marked_get,marked_get]
  ·rw [List.getElem?_append_right (by simp [marked_len];omega),List.getElem?_append_right (by simp [marked_len];omega)]
   simp only [marked_len,List.getElem?_drop]
   congr 1
   omega
theorem mark_length {α:Type} (f:Int→α) (k0:Int) (l:List α) (i:Nat) (hi:i≤l.length):(marked f k0 i++l.drop i).length=l.length:=by simp [marked_len];omega
end Go.Proofs.YtljkpeeabpdalaaDoorX
