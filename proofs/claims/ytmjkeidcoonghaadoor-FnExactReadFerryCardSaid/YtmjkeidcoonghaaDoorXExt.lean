/- Rows of strings that the call owns, as the library's own contracts ask for them. -/
import Derived.Test.YtmjkeidcoonghaaDoorXLay
namespace Go.Proofs.YtmjkeidcoonghaaDoorX
open Go Go.RowKit
set_option linter.unusedVariables false
def Rd0 (w : World) (v : Value) (xs : List ByteArray) : Prop :=
  (xs = [] ∧ v = .slice none 0 0) ∨ ∃ b cap, v = .slice (some ⟨b, 0, none⟩) xs.length cap ∧ b < w.heap.size ∧ xs.length ≤ cap ∧ ∀ (j : Nat) x, xs[j]? = some x → w.cell? ⟨b, 0 + j, none⟩ = some (.string x)
theorem rd0Nil {w : World} : Rd0 w (.slice none 0 0) [] := .inl ⟨rfl, rfl⟩
theorem St.row0 {w0 w : World} {Γ : List As} (h : St w0 Γ w) (j : Nat) {E : TypeId} {v : Value} {xs : List ByteArray} (hj : Γ[j]? = some (Row E K.str v xs)) : Rd0 w v xs := by
  obtain ⟨F, ⟨cs, F', _, h1, h2⟩, _⟩ := (h.pull j hj).head
  rcases h1.2 with ⟨rfl, h0⟩ | ⟨g, cap, cur, rfl, _, hg, hnc, hcm, hcs, htake⟩
  · exact .inl ⟨List.eq_nil_of_length_eq_zero h0, rfl⟩
  · refine .inr ⟨g, cap, rfl, (Array.getElem?_eq_some_iff.1 hg).1, hnc, fun j x hj => ?_⟩
    obtain ⟨hlt, rfl⟩ := List.getElem?_eq_some_iff.1 hj
    obtain ⟨c, hr, hc⟩ := h2.get j hlt
    have hr' : c = [.string xs[j]] := hr
    subst hr'
    have h3 := hc 0 (.string xs[j]) rfl
    have h4 := h1.cells (g := g) (by rfl) _ _ h3
    have e : j * K.str.n + 0 = j := by simp [K.str, K.fl]
    rw [e] at h4
    have hz : (⟨g, 0, none⟩ : Addr).add j = ⟨g, 0 + j, none⟩ := by cases j <;> simp [Addr.add]
    rw [hz] at h4
    exact h4
theorem St.of_below {w0 w : World} (h : Below w0.heap.size w0 w) : St w0 [] w := ⟨h, [], rfl, List.nodup_nil, by simp⟩
end Go.Proofs.YtmjkeidcoonghaaDoorX
