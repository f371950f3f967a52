import Derived.Test.YtgoninfjneepfaaGreatDoorP0
namespace Go.Proofs.YtgoninfjneepfaaGreatDoorX
open Go
set_option linter.unusedVariables false
set_option linter.unusedSimpArgs false
def nextD {α:Type} (left:List α) (A:Prop) (B:α→List α→Prop):Prop:=(left=[]→A)∧∀ p rest,left.Perm (p::rest)→B p rest
def Bd.onD {ρ ε σ:Type} (f:σ→Prop) (g:Ex ρ ε→Prop):Bd ρ ε σ→Prop
 | .next s=>f s
 | .out o=>g o
def Ex.finD {ρ ε:Type} (k:ε→Prop) (q:ρ→Prop):Ex ρ ε→Prop
 | .go e=>k e
 | .ret r=>q r
def Ex.finBD {ρ ε β σ:Type} (k:ε→Prop) (q:Bd ρ β σ→Prop):Ex ρ ε→Prop
 | .go e=>k e
 | .ret r=>q (.out (.ret r))
def roundsD {ρ ε σ:Type} (b:σ→(Bd ρ ε σ→Prop)→Prop):Nat→σ→(Ex ρ ε→Prop)→Prop
 |0,_,_=>False
 |n+1,s,K=>b s (Bd.onD (fun s'=>roundsD b n s' K) K)
theorem roundsD_succ {ρ ε σ:Type} {b:σ→(Bd ρ ε σ→Prop)→Prop} {n:Nat} {s:σ} {K:Ex ρ ε→Prop} (h:roundsD b (n+1) s K):∃ Q,Q=Bd.onD (fun s'=>roundsD b n s' K) K∧b s Q:=⟨_,rfl,h⟩
theorem ite_getD {c:Prop} [Decidable c] {A:Prop} (h:if c then A else False):c∧A:=by
 by_cases hc:c
 ·rw [if_pos hc] at h;exact ⟨hc,h⟩
 ·rw [if_neg hc] at h;exact h.elim
end Go.Proofs.YtgoninfjneepfaaGreatDoorX
