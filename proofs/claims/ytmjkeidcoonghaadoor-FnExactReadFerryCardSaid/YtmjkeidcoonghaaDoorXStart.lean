/- What the start world holds in the library's own variables; errors; the library's split, cut and parse, as rows and values of ours. -/
import Derived.Test.YtmjkeidcoonghaaDoorXTab
import Derived.WideLaws
import Derived.Shelf.Vars
import Derived.Lib.SmallJoins
import Derived.Shelf.Strings.Split
import Derived.Shelf.Strings.Cut
namespace Go.Proofs.YtmjkeidcoonghaaDoorX
open Go Go.RowKit Go.Proofs
set_option linter.unusedVariables false
set_option linter.unusedSectionVars false
def CellI (w : World) (g : Nat) : Prop := ∃ m, w.cell? ⟨g, 0, none⟩ = some (.int .i64 m)
def CellE (w : World) (g : Nat) : Prop := ∃ ev, w.cell? ⟨g, 0, none⟩ = some ev ∧ (ev = .nilIface ∨ ∃ te pe, ev = .iface te pe)
theorem St.cellAt {w0 w : World} {Γ : List As} (h : St w0 Γ w) {g : Nat} {v : Value} (hc : w0.cell? ⟨g, 0, none⟩ = some v) : w.cell? ⟨g, 0, none⟩ = some v := by
  have hlt : g < w0.heap.size := by
    rcases Nat.lt_or_ge g w0.heap.size with h' | h'
    · exact h'
    · simp [World.cell?, Array.getElem?_eq_none h'] at hc
  rw [cell_keep (h.below.block g hlt)]
  exact hc
theorem St.cellI {w0 w : World} {Γ : List As} (h : St w0 Γ w) {g : Nat} (hc : CellI w0 g) : CellI w g := by
  obtain ⟨m, hm⟩ := hc
  exact ⟨m, h.cellAt hm⟩
theorem St.cellE {w0 w : World} {Γ : List As} (h : St w0 Γ w) {g : Nat} (hc : CellE w0 g) : CellE w g := by
  obtain ⟨m, hm, hk⟩ := hc
  exact ⟨m, h.cellAt hm, hk⟩
theorem cellE_of_shaped {P : Program} {w : World} {g : Nat} {t : TypeId} {zero : Array Value} {ms : Array (String × TypeId)}
    (h : w.ShapedOpen P) (hg : g < P.globals.size)
    (h0 : ((begin P (fun _ _ => 0) default).world.heap[g]?).bind Obj.row? = some (zero, t)) (hz : zero.size = 1)
    (hb : P.buildable t = true) (hc : P.cellTypes P.depth t = some [t]) (hu : P.underlying t = some (.interface ms)) : CellE w g := by
  obtain ⟨cs, hh, hs, hr⟩ := h.1 g zero t hg h0
  obtain ⟨ts, hts, _, hall⟩ := hr hb
  rw [hc] at hts
  cases hts
  have h1 : 0 < cs.size := by omega
  obtain ⟨u, hu', hok⟩ := hall 0 cs[0] (by simp [h1])
  have : u = t := by simpa using hu'.symm
  subst this
  have hcell : w.cell? ⟨g, 0, none⟩ = some cs[0] := by simp [World.cell?, hh, h1]
  refine ⟨cs[0], hcell, ?_⟩
  unfold Cell.ok at hok
  rw [hu] at hok
  cases hv : cs[0] <;> rw [hv] at hok <;> simp at hok
  all_goals first | exact .inl rfl | exact .inr ⟨_, _, rfl⟩
/-- An error, or none. -/
def ErrIs (u : Value) (b : Bool) : Prop := (b = false ∧ u = .nilIface) ∨ (b = true ∧ ∃ t p, u = .iface t p)
section
variable {P : Program} {w : World} {t : List Value} {o : Oper}
theorem x_neErr {x : Operand} {T T' : TypeId} {u : Value} {b : Bool} (hop : o.op = .binOp .neq T x (.const .nilIface) T') (hT : P.underlying T = some (.interface (P.methodsAt T))) (hx : ev t x = u) (h : ErrIs u b) :
    (execOp (ev t) o).run P w = .ok (.value (.bool b)) w := by
  have hy : ev t (.const .nilIface) = .nilIface := rfl
  rcases h with ⟨rfl, rfl⟩ | ⟨rfl, tt, p, rfl⟩
  · have q := run_neq_nil_nil (w := w) T hT
    simp [execOp, hop, hx, hy, eqGuard_nil_constR, q]
  · have q := run_neq_held_nil (w := w) T tt p hT
    simp [execOp, hop, hx, hy, eqGuard_at_iface, q]
end
theorem split_row {w0 w : World} {E : TypeId} {ys : List ByteArray} {n : Nat} (hn : ys.length = n) (hle : n ≤ 4294967285) (hw : w = w0.alloc (.cells (ys.map Value.string).toArray E)) : St w0 [Row E K.str (.slice (some ⟨w0.heap.size, 0, none⟩) n n) ys] w := by
  subst hw
  have hfl : (ys.map encS).flatten = ys.map Value.string := by
    clear hn
    induction ys with
    | nil => rfl
    | cons y ys ih => rw [List.map_cons, List.flatten_cons, ih]; rfl
  refine (St.refl w0).new (Turn.alloc w0 _) (F' := [w0.heap.size]) ⟨(ys.map encS).flatten, [], rfl, ?_, Els.flat fkS ys⟩ (by simp) (by simp)
  have := World.ownsRow_lit (e := E) (size := 1) w0 (ys.map Value.string).toArray n (Nat.zero_le _) (by unfold maxLen; omega) (by simp [hn])
  rw [hfl, hn, show K.str.n = 1 from rfl]
  simpa using this
theorem St.of_drew {w0 w : World} {n : Nat} (e : w = w0.drewN n) : St w0 [] w := by
  subst e
  exact St.of_below ⟨rfl, rfl, rfl, Nat.le_refl _, fun _ _ => rfl⟩
theorem St.of_bytes {w0 w : World} {ty : TypeId} (e : w = w0 ∨ ∃ t, w = Lib.bytesWorld w0 ty t) : St w0 [] w := by
  rcases e with rfl | ⟨t, rfl⟩
  · exact St.refl _
  · exact St.of_below (Go.Joins.below_bytesWorld _ _ _ _ (Nat.le_refl _))
end Go.Proofs.YtmjkeidcoonghaaDoorX
