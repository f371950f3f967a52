/- A table of the package that the start world holds: it stays as it is. -/
import Derived.Test.YtmjkeidcoonghaaDoorXExt
import Derived.Lib.LaidTab
import Derived.Lib.AppendIntMem
import Derived.LaidMore
namespace Go.Proofs.YtmjkeidcoonghaaDoorX
open Go Go.RowKit
set_option linter.unusedVariables false
theorem St.tab {P : Program} {w0 w : World} {Γ : List As} {name : String} {k : IntKind} {zs : List Int} (h : St w0 Γ w) (ht : Lib.TabIs P w0 name k zs) : Lib.TabIs P w name k zs := by
  unfold Lib.TabIs World.var? at *
  cases hg : P.globalNamed name with
  | none => simp [hg] at ht
  | some g =>
    simp only [hg, Option.bind_some] at ht ⊢
    have hlt : g < w0.heap.size := by
      rcases Nat.lt_or_ge g w0.heap.size with h' | h'
      · exact h'
      · rw [Array.getElem?_eq_none h'] at ht; simp at ht
    rw [h.below.block g hlt]
    exact ht
theorem St.of_grow {w0 w : World} {k : Nat} {os : Array Obj} (e : w = Go.Sort.grow (w0.drewN k) os) : St w0 [] w := by
  subst e
  exact St.of_below (Lib.below_grow _ w0 (Nat.le_refl _) k os)
theorem tab_of_laid {P : Program} {W : World} {name : String} {k : IntKind} {zs : List Int} {g : Nat} {t e : TypeId} {n : Nat}
    (hg : P.globalNamed name = some g) (hty : (P.globals[g]?).map (·.type) = some t) (ht : P.underlying t = some (.array n e)) (he : P.underlying e = some (.int k)) (hce : P.cellsOf e = 1) (hct : P.cellsOf t = n) :
    ∀ (laid : List (String × DataW Unit)) (ps : List MemPlace), DataW.LaidVars P W laid ps → (name, Lib.tabData k zs) ∈ laid → Lib.TabIs P W name k zs := by
  intro laid
  induction laid with
  | nil => intro ps _ hm; cases hm
  | cons x rest ih =>
    intro ps h hm
    obtain ⟨nm, d⟩ := x
    obtain ⟨g', t', cs, fuel, p, q, hg', ht', hvar, hd, hr, _⟩ := h
    rcases List.mem_cons.1 hm with hx | hx
    · obtain ⟨rfl, rfl⟩ := Prod.mk.inj hx
      obtain rfl := Option.some.inj (hg.symm.trans hg')
      obtain rfl := Option.some.inj (hty.symm.trans ht')
      unfold Lib.TabIs
      rw [hvar, ← Lib.cells_of_tab ht he hce hct hd]
    · exact ih q hr hx
end Go.Proofs.YtmjkeidcoonghaaDoorX
