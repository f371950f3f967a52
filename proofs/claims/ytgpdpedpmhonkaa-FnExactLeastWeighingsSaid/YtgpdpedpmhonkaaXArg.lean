/- Arguments that are structs of single cells: what a reading ('trod') of one says of its fields. -/
import Derived.Test.YtgpdpedpmhonkaaXOpen
namespace Go.Proofs.YtgpdpedpmhonkaaX
open Go Go.RowKit Go.ChangeShapes Go.WideShapes
set_option linter.unusedVariables false
variable {P : Program}
/-- A value of type t that fills one cell, read by 'trod' in world w, is a value v with 'rd v a' for some a. -/
def Cell1 (P : Program) (w : World) {α : Type} (t : TypeId) (rd : Value → α → Prop) : Prop :=
  ∀ {H : Type} (enc : TypeId × Value → H) (base : Nat) (spare : Nat → Bool) (held : Bool) (fuel : Nat) (cs : List Value) (x : DataW H × List MemPlace),
    DataW.trod enc P w base spare held fuel t cs = some x → ∃ v a, cs = [v] ∧ rd v a
theorem cell_int {w : World} {t : TypeId} {k : IntKind} (ht : P.underlying t = some (.int k)) : Cell1 P w t (fun v (n : Int) => v = .int k n ∧ k.min ≤ n ∧ n ≤ k.max) := by
  intro H enc base spare held fuel cs x h
  obtain ⟨n, e, o⟩ := opf_int ht enc w base spare held fuel cs x h
  exact ⟨_, n, e, rfl, o⟩
theorem cell_bool {w : World} {t : TypeId} (ht : P.underlying t = some .bool) : Cell1 P w t (fun v (b : Bool) => v = .bool b) := by
  intro H enc base spare held fuel cs x h
  obtain ⟨n, e, o⟩ := opf_bool ht enc w base spare held fuel cs x h
  exact ⟨_, n, e, rfl⟩
theorem cell_str {w : World} {t : TypeId} (ht : P.underlying t = some .string) : Cell1 P w t (fun v (b : ByteArray) => v = .string b) := by
  intro H enc base spare held fuel cs x h
  obtain ⟨n, e, o⟩ := opf_str ht enc w base spare held fuel cs x h
  exact ⟨_, n, e, rfl⟩
theorem cell_row {w : World} {α : Type} {t u : TypeId} {n : Nat} {e : α → List Value} {hl h1} {ok : α → Prop} (ht : P.underlying t = some (.slice u)) (hu : P.cellsOf u = n) (hn : 0 < n) (ho : OpF P u e ok) :
    Cell1 P w t (fun v (xs : List α) => RdRow (K.fl n e hl h1) w v xs ∧ xs.length ≤ maxLen ∧ ∀ x ∈ xs, ok x) := by
  intro H enc base spare held fuel cs x h
  obtain ⟨v, rfl, hv⟩ : ∃ v, cs = [v] ∧ ∃ a l c, v = .slice a l c := by
    rcases DataW.trod_slice ht h with ⟨hcs, _⟩ | ⟨a, len, cap, elems, rest, m, _, hcs, _⟩
    · exact ⟨_, hcs, _, _, _, rfl⟩
    · exact ⟨_, hcs, _, _, _, rfl⟩
  obtain ⟨a, l, c, rfl⟩ := hv
  obtain ⟨xs, q⟩ := op_row (v := .slice a l c) (hl := hl) (h1 := h1) (enc := enc) (base := base) (spare := spare) (held := held) (d := x.1) (ps := x.2) ht hu hn ho ⟨_, _, _, rfl⟩ ⟨fuel, h⟩
  exact ⟨_, xs, rfl, q⟩
theorem opf_st2 {α A B : Type} {mk : A → B → α} {e : α → List Value} {c0 : A → Value} {c1 : B → Value} {ok0 : A → Prop} {ok1 : B → Prop} {ok : α → Prop} {t t0 t1 : TypeId} {f0 f1 : Field}
    (he : ∀ a b, e (mk a b) = [c0 a, c1 b]) (hok : ∀ a b, ok0 a → ok1 b → ok (mk a b)) (ht : P.underlying t = some (.struct #[f0, f1])) (hl : P.cellsOf t = 2)
    (e0 : f0.type = t0 ∧ f0.offset = 0 ∧ P.cellsOf t0 = 1) (e1 : f1.type = t1 ∧ f1.offset = 1 ∧ P.cellsOf t1 = 1) (h0 : OpF P t0 (fun a => [c0 a]) ok0) (h1 : OpF P t1 (fun b => [c1 b]) ok1) : OpF P t e ok := by
  intro H enc w base spare held fuel cs x h
  obtain ⟨xs, n, rfl, _, hlen, hxs, hel⟩ := DataW.trod_struct ht h
  obtain ⟨rfl, o0, m0⟩ := e0
  obtain ⟨rfl, o1, m1⟩ := e1
  rw [hl] at hlen
  have q0 := hel 0 f0 rfl
  have q1 := hel 1 f1 rfl
  rw [o0, m0] at q0
  rw [o1, m1] at q1
  have hs : xs.length = 2 := hxs
  match cs, hlen with
  | [x0, x1], _ =>
    rw [List.getElem?_eq_getElem (by omega : 0 < xs.length)] at q0
    rw [List.getElem?_eq_getElem (by omega : 1 < xs.length)] at q1
    obtain ⟨a, ha, oa⟩ := h0 _ _ _ _ _ _ _ _ q0
    obtain ⟨b, hb, ob⟩ := h1 _ _ _ _ _ _ _ _ q1
    obtain rfl : x0 = c0 a := by simpa using ha
    obtain rfl : x1 = c1 b := by simpa using hb
    exact ⟨mk a b, (he a b).symm, hok a b oa ob⟩
theorem op_st2 {w : World} {A B : Type} {t t0 t1 : TypeId} {f0 f1 : Field} {rd0 : Value → A → Prop} {rd1 : Value → B → Prop} {H : Type} {enc : TypeId × Value → H} {base : Nat} {spare : Nat → Bool} {held : Bool} {v : Value} {d : DataW H} {ps : List MemPlace}
    (ht : P.underlying t = some (.struct #[f0, f1])) (hl : P.cellsOf t = 2) (e0 : f0.type = t0 ∧ f0.offset = 0 ∧ P.cellsOf t0 = 1) (e1 : f1.type = t1 ∧ f1.offset = 1 ∧ P.cellsOf t1 = 1)
    (c0 : Cell1 P w t0 rd0) (c1 : Cell1 P w t1 rd1) (hv : ∃ cs, v = .agg cs) (h : DataW.Trod enc P w base spare held t v d ps) :
    ∃ v0 v1 a0 a1, v = .agg #[v0, v1] ∧ rd0 v0 a0 ∧ rd1 v1 a1 := by
  obtain ⟨c, rfl⟩ := hv
  obtain ⟨fuel, hf⟩ := h
  obtain ⟨xs, n, rfl, _, hlen, hxs, hel⟩ := DataW.trod_struct ht hf
  obtain ⟨rfl, o0, m0⟩ := e0
  obtain ⟨rfl, o1, m1⟩ := e1
  rw [hl] at hlen
  simp only [Value.cells] at hlen hel
  have q0 := hel 0 f0 rfl
  have q1 := hel 1 f1 rfl
  rw [o0, m0] at q0
  rw [o1, m1] at q1
  have hs : xs.length = 2 := hxs
  match hc : c.toList, hlen with
  | [x0, x1], _ =>
    rw [hc] at q0 q1
    rw [List.getElem?_eq_getElem (by omega : 0 < xs.length)] at q0
    rw [List.getElem?_eq_getElem (by omega : 1 < xs.length)] at q1
    obtain ⟨v0, a0, h0, r0⟩ := c0 _ _ _ _ _ _ _ q0
    obtain ⟨v1, a1, h1, r1⟩ := c1 _ _ _ _ _ _ _ q1
    obtain rfl : x0 = v0 := by simpa using h0
    obtain rfl : x1 = v1 := by simpa using h1
    exact ⟨x0, x1, a0, a1, by rw [show c = c.toList.toArray by simp, hc], r0, r1⟩
theorem op_st3 {w : World} {A B C : Type} {t t0 t1 t2 : TypeId} {f0 f1 f2 : Field} {rd0 : Value → A → Prop} {rd1 : Value → B → Prop} {rd2 : Value → C → Prop} {H : Type} {enc : TypeId × Value → H} {base : Nat} {spare : Nat → Bool} {held : Bool} {v : Value} {d : DataW H} {ps : List MemPlace}
    (ht : P.underlying t = some (.struct #[f0, f1, f2])) (hl : P.cellsOf t = 3) (e0 : f0.type = t0 ∧ f0.offset = 0 ∧ P.cellsOf t0 = 1) (e1 : f1.type = t1 ∧ f1.offset = 1 ∧ P.cellsOf t1 = 1) (e2 : f2.type = t2 ∧ f2.offset = 2 ∧ P.cellsOf t2 = 1)
    (c0 : Cell1 P w t0 rd0) (c1 : Cell1 P w t1 rd1) (c2 : Cell1 P w t2 rd2) (hv : ∃ cs, v = .agg cs) (h : DataW.Trod enc P w base spare held t v d ps) :
    ∃ v0 v1 v2 a0 a1 a2, v = .agg #[v0, v1, v2] ∧ rd0 v0 a0 ∧ rd1 v1 a1 ∧ rd2 v2 a2 := by
  obtain ⟨c, rfl⟩ := hv
  obtain ⟨fuel, hf⟩ := h
  obtain ⟨xs, n, rfl, _, hlen, hxs, hel⟩ := DataW.trod_struct ht hf
  obtain ⟨rfl, o0, m0⟩ := e0
  obtain ⟨rfl, o1, m1⟩ := e1
  obtain ⟨rfl, o2, m2⟩ := e2
  rw [hl] at hlen
  simp only [Value.cells] at hlen hel
  have q0 := hel 0 f0 rfl
  have q1 := hel 1 f1 rfl
  have q2 := hel 2 f2 rfl
  rw [o0, m0] at q0
  rw [o1, m1] at q1
  rw [o2, m2] at q2
  have hs : xs.length = 3 := hxs
  match hc : c.toList, hlen with
  | [x0, x1, x2], _ =>
    rw [hc] at q0 q1 q2
    rw [List.getElem?_eq_getElem (by omega : 0 < xs.length)] at q0
    rw [List.getElem?_eq_getElem (by omega : 1 < xs.length)] at q1
    rw [List.getElem?_eq_getElem (by omega : 2 < xs.length)] at q2
    obtain ⟨v0, a0, h0, r0⟩ := c0 _ _ _ _ _ _ _ q0
    obtain ⟨v1, a1, h1, r1⟩ := c1 _ _ _ _ _ _ _ q1
    obtain ⟨v2, a2, h2, r2⟩ := c2 _ _ _ _ _ _ _ q2
    obtain rfl : x0 = v0 := by simpa using h0
    obtain rfl : x1 = v1 := by simpa using h1
    obtain rfl : x2 = v2 := by simpa using h2
    exact ⟨x0, x1, x2, a0, a1, a2, by rw [show c = c.toList.toArray by simp, hc], r0, r1, r2⟩
theorem op_st4 {w : World} {A B C D : Type} {t t0 t1 t2 t3 : TypeId} {f0 f1 f2 f3 : Field} {rd0 : Value → A → Prop} {rd1 : Value → B → Prop} {rd2 : Value → C → Prop} {rd3 : Value → D → Prop} {H : Type} {enc : TypeId × Value → H} {base : Nat} {spare : Nat → Bool} {held : Bool} {v : Value} {d : DataW H} {ps : List MemPlace}
    (ht : P.underlying t = some (.struct #[f0, f1, f2, f3])) (hl : P.cellsOf t = 4) (e0 : f0.type = t0 ∧ f0.offset = 0 ∧ P.cellsOf t0 = 1) (e1 : f1.type = t1 ∧ f1.offset = 1 ∧ P.cellsOf t1 = 1) (e2 : f2.type = t2 ∧ f2.offset = 2 ∧ P.cellsOf t2 = 1) (e3 : f3.type = t3 ∧ f3.offset = 3 ∧ P.cellsOf t3 = 1)
    (c0 : Cell1 P w t0 rd0) (c1 : Cell1 P w t1 rd1) (c2 : Cell1 P w t2 rd2) (c3 : Cell1 P w t3 rd3) (hv : ∃ cs, v = .agg cs) (h : DataW.Trod enc P w base spare held t v d ps) :
    ∃ v0 v1 v2 v3 a0 a1 a2 a3, v = .agg #[v0, v1, v2, v3] ∧ rd0 v0 a0 ∧ rd1 v1 a1 ∧ rd2 v2 a2 ∧ rd3 v3 a3 := by
  obtain ⟨c, rfl⟩ := hv
  obtain ⟨fuel, hf⟩ := h
  obtain ⟨xs, n, rfl, _, hlen, hxs, hel⟩ := DataW.trod_struct ht hf
  obtain ⟨rfl, o0, m0⟩ := e0
  obtain ⟨rfl, o1, m1⟩ := e1
  obtain ⟨rfl, o2, m2⟩ := e2
  obtain ⟨rfl, o3, m3⟩ := e3
  rw [hl] at hlen
  simp only [Value.cells] at hlen hel
  have q0 := hel 0 f0 rfl
  have q1 := hel 1 f1 rfl
  have q2 := hel 2 f2 rfl
  have q3 := hel 3 f3 rfl
  rw [o0, m0] at q0
  rw [o1, m1] at q1
  rw [o2, m2] at q2
  rw [o3, m3] at q3
  have hs : xs.length = 4 := hxs
  match hc : c.toList, hlen with
  | [x0, x1, x2, x3], _ =>
    rw [hc] at q0 q1 q2 q3
    rw [List.getElem?_eq_getElem (by omega : 0 < xs.length)] at q0
    rw [List.getElem?_eq_getElem (by omega : 1 < xs.length)] at q1
    rw [List.getElem?_eq_getElem (by omega : 2 < xs.length)] at q2
    rw [List.getElem?_eq_getElem (by omega : 3 < xs.length)] at q3
    obtain ⟨v0, a0, h0, r0⟩ := c0 _ _ _ _ _ _ _ q0
    obtain ⟨v1, a1, h1, r1⟩ := c1 _ _ _ _ _ _ _ q1
    obtain ⟨v2, a2, h2, r2⟩ := c2 _ _ _ _ _ _ _ q2
    obtain ⟨v3, a3, h3, r3⟩ := c3 _ _ _ _ _ _ _ q3
    obtain rfl : x0 = v0 := by simpa using h0
    obtain rfl : x1 = v1 := by simpa using h1
    obtain rfl : x2 = v2 := by simpa using h2
    obtain rfl : x3 = v3 := by simpa using h3
    exact ⟨x0, x1, x2, x3, a0, a1, a2, a3, by rw [show c = c.toList.toArray by simp, hc], r0, r1, r2, r3⟩
end Go.Proofs.YtgpdpedpmhonkaaX
