/- Arguments as the rows' own statements hand them over: what a reading ('trod') of a flat value or of a slice of flat values says of the cells. -/
import Derived.Test.YtgpdpedpmhonkaaXMut
import Derived.ChangeShapes
import Derived.WideShapes
import Derived.OpenShut
import Derived.ChangeOld
import Derived.Below
import Derived.SizedLaws
import Derived.Carry
namespace Go.Proofs.YtgpdpedpmhonkaaX
open Go Go.RowKit Go.ChangeShapes Go.WideShapes
set_option linter.unusedVariables false
variable {P : Program}

/-- A value of type t, read by 'trod', is laid as 'e' lays some 'a' of which 'ok' holds. -/
def OpF (P : Program) {α : Type} (t : TypeId) (e : α → List Value) (ok : α → Prop) : Prop :=
  ∀ {H : Type} (enc : TypeId × Value → H) (w : World) (base : Nat) (spare : Nat → Bool) (held : Bool) (fuel : Nat) (cs : List Value) (x : DataW H × List MemPlace),
    DataW.trod enc P w base spare held fuel t cs = some x → ∃ a, cs = e a ∧ ok a

theorem opf_int {t : TypeId} {k : IntKind} (ht : P.underlying t = some (.int k)) : OpF P t (encI k) (fun n => k.min ≤ n ∧ n ≤ k.max) := by
  intro H enc w base spare held fuel cs x h
  obtain ⟨n, e, _, hw⟩ := DataW.trod_int ht h
  refine ⟨n, e, ?_⟩
  simpa [Lit.wf] using hw

theorem opf_bool {t : TypeId} (ht : P.underlying t = some .bool) : OpF P t encB (fun _ => True) := by
  intro H enc w base spare held fuel cs x h
  obtain ⟨n, e, _⟩ := DataW.trod_bool ht h
  exact ⟨n, e, trivial⟩

theorem opf_str {t : TypeId} (ht : P.underlying t = some .string) : OpF P t encS (fun _ => True) := by
  intro H enc w base spare held fuel cs x h
  obtain ⟨n, e, _⟩ := DataW.trod_string ht h
  exact ⟨n, e, trivial⟩

theorem parts_of {α : Type} {e : α → List Value} {ok : α → Prop} {m : Nat} : ∀ (n : Nat) (cs : List Value), cs.length = n * m →
    (∀ i, i < n → ∃ a, (cs.drop (i * m)).take m = e a ∧ ok a) → ∃ l : List α, l.length = n ∧ cs = (l.map e).flatten ∧ ∀ x ∈ l, ok x
  | 0, cs, hl, _ => ⟨[], rfl, by simpa using hl, by simp⟩
  | n + 1, cs, hl, h => by
    obtain ⟨a, ha, hok⟩ := h 0 (Nat.zero_lt_succ _)
    obtain ⟨l, hll, hc, ho⟩ := parts_of (e := e) (ok := ok) (m := m) n (cs.drop m) (by rw [List.length_drop, hl, Nat.succ_mul]; omega) (fun i hi => by
      obtain ⟨b, hb, ob⟩ := h (i + 1) (Nat.succ_lt_succ hi)
      refine ⟨b, ?_, ob⟩
      rw [List.drop_drop]
      rw [Nat.succ_mul, Nat.add_comm] at hb
      exact hb)
    refine ⟨a :: l, by simp [hll], ?_, by simpa using ⟨hok, ho⟩⟩
    simp only [List.map_cons, List.flatten_cons, ← hc]
    simp only [Nat.zero_mul, List.drop_zero] at ha
    rw [← ha, List.take_append_drop]

theorem opf_arr {α : Type} {t u : TypeId} {n m : Nat} {e : α → List Value} {ok : α → Prop} (ht : P.underlying t = some (.array n u)) (hu : P.cellsOf u = m) (hc : P.cellsOf t = n * m) (h1 : OpF P u e ok) :
    OpF P t (encA e) (fun a : Ar α n => ∀ x ∈ a.l, ok x) := by
  intro H enc w base spare held fuel cs x h
  obtain ⟨xs, k, _, _, hl, hx, hel⟩ := DataW.trod_array ht h
  obtain ⟨l, hll, e1, ho⟩ := parts_of (e := e) (ok := ok) (m := m) n cs (hl.trans hc) (fun i hi => by
    have := hel i hi
    rw [hu] at this
    rw [List.getElem?_eq_getElem (by omega : i < xs.length)] at this
    exact h1 enc w base spare held _ _ _ this)
  exact ⟨⟨l, hll⟩, e1, ho⟩

/-- A slice of flat elements. -/
theorem op_row {α : Type} {t u : TypeId} {n : Nat} {e : α → List Value} {hl h1} {ok : α → Prop} {H : Type} {enc : TypeId × Value → H} {w : World} {base : Nat} {spare : Nat → Bool} {held : Bool} {v : Value} {d : DataW H} {ps : List MemPlace}
    (ht : P.underlying t = some (.slice u)) (hu : P.cellsOf u = n) (hn : 0 < n) (ho : OpF P u e ok) (hv : ∃ a l c, v = .slice a l c)
    (h : DataW.Trod enc P w base spare held t v d ps) : ∃ xs : List α, RdRow (K.fl n e hl h1) w v xs ∧ xs.length ≤ maxLen ∧ ∀ x ∈ xs, ok x := by
  obtain ⟨a0, l0, c0, rfl⟩ := hv
  obtain ⟨fuel, hf⟩ := h
  rcases DataW.trod_slice ht hf with ⟨hcs, _⟩ | ⟨a, len, cap, elems, rest, m, _, hcs, _, hb, hlc, hcm, hlen, hel, _, _⟩
  · simp [Value.cells] at hcs
    obtain ⟨rfl, rfl, rfl⟩ := hcs
    exact ⟨[], ⟨none, 0, rfl, Nat.le_refl _, fun i hi => absurd hi (Nat.not_lt_zero _)⟩, Nat.zero_le _, by simp⟩
  · simp [Value.cells] at hcs
    obtain ⟨rfl, rfl, rfl⟩ := hcs
    have each : ∀ i, i < l0 → ∃ cs y, w.cells? base (a.add (i * n)) n = some cs ∧ cs = e y ∧ ok y := by
      intro i hi
      have q := hel i hi
      rw [hu, List.getElem?_eq_getElem (by omega : i < elems.length)] at q
      obtain ⟨cs, hcs, htr⟩ := Option.bind_eq_some_iff.1 q
      obtain ⟨y, e1, o1⟩ := ho enc w base spare held _ _ _ htr
      exact ⟨cs, y, hcs, e1, o1⟩
    obtain ⟨xs, hxl, hxs⟩ : ∃ xs : List α, xs.length = l0 ∧ ∀ i (h : i < xs.length), w.cells? base (a.add (i * n)) n = some (e xs[i]) ∧ ok xs[i] := by
      have mk : ∀ k, k ≤ l0 → ∃ xs : List α, xs.length = k ∧ ∀ i (h : i < xs.length), w.cells? base (a.add (i * n)) n = some (e xs[i]) ∧ ok xs[i] := by
        intro k
        induction k with
        | zero => exact fun _ => ⟨[], rfl, fun i h => absurd h (Nat.not_lt_zero _)⟩
        | succ k ih =>
          intro hk
          obtain ⟨xs, hx, hh⟩ := ih (by omega)
          obtain ⟨cs, y, h1, h2, h3⟩ := each k (by omega)
          refine ⟨xs ++ [y], by simp [hx], fun i h => ?_⟩
          rw [List.length_append, List.length_singleton] at h
          by_cases hi : i < xs.length
          · rw [List.getElem_append_left hi]; exact hh i hi
          · have : i = k := by omega
            subst this
            have : (xs ++ [y])[i]'(by simp; omega) = y := by rw [List.getElem_append_right (by omega)]; simp [hx]
            rw [this, ← h2]
            exact ⟨h1, h3⟩
      exact mk l0 (Nat.le_refl _)
    refine ⟨xs, ⟨some a, c0, by rw [hxl], by omega, fun i hi => ⟨a, e xs[i], rfl, ?_, ?_, rfl⟩⟩, by omega, fun x hx => ?_⟩
    · have q := World.cells?_block (hxs i hi).1 hn
      rwa [show (a.add (i * n)).block = a.block by unfold Addr.add; split <;> rfl] at q
    · intro j u hj
      obtain ⟨_, hl', he'⟩ := World.cells?_some (hxs i hi).1
      have hjl : j < n := by
        have := (List.getElem?_eq_some_iff.1 hj).1
        omega
      have q := he' j hjl
      rw [hj] at q
      rw [← q]

      rw [Addr.add_add]
      rfl
    · obtain ⟨i, hi, rfl⟩ := List.mem_iff_getElem.1 hx
      exact (hxs i hi).2
end Go.Proofs.YtgpdpedpmhonkaaX
