/- Maps whose keys are structs. -/
import Derived.Test.YtgpdpedpmhonkaaXEq
import Derived.MapKept
namespace Go.Proofs.YtgpdpedpmhonkaaX
open Go Go.RowKit
set_option linter.unusedVariables false
set_option linter.unusedSimpArgs false
set_option linter.unusedSectionVars false
/-- What a type of keys must bear. -/
structure KeyOk (P : Program) (kt : TypeId) {κ : Type} [DecidableEq κ] (ek : κ → Value) : Prop where
  desc : ∃ d, P.underlying kt = some d ∧ ((∀ x y, Instr.sameNow d x y = none) ∨ ∀ a b : κ, Instr.sameNow d (ek a) (ek b) = some (decide (a = b)))
  eq : ∀ (a b : κ) (w : World), (Op.equal kt (ek a) (ek b)).run P w = .ok (decide (a = b)) w
  check : ∀ (a : κ) (b : Bool) (w : World), (Instr.checkKey b 10000 kt (ek a)).run P w = .ok () w
  same : ∀ a : κ, Instr.sameBits 10000 (ek a) (ek a) = true
section
variable {κ ν : Type} [DecidableEq κ] {ek : κ → Value} {en : ν → Value}
def Ents (ek : κ → Value) (en : ν → Value) (es : Array MapEntry) (kv : List (κ × ν)) : Prop :=
  es.toList.map (fun e => (e.key, e.val)) = kv.map (fun p => (ek p.1, en p.2)) ∧ ∀ (i : Nat) e, es[i]? = some e → e.born = i
/-- Block b is a map with the entries kv, none ever taken out. -/
def MapAs (b : Nat) (ek : κ → Value) (en : ν → Value) (kv : List (κ × ν)) : As :=
  ⟨fun F w => F = [b] ∧ ∃ es, w.heap[b]? = some (.map es es.size) ∧ Ents ek en es kv, fun h ⟨e, es, hb, he⟩ => by subst e; exact ⟨rfl, es, by rw [h b (by simp)]; exact hb, he⟩,
   fun ⟨e, es, hb, _⟩ => by subst e; simp; exact (Array.getElem?_eq_some_iff.1 hb).1⟩
end
section
variable {P : Program} {f : FuncId} {R : Ending → World → Prop} {k : List Item} {t : List Value} {w0 w : World} {Γ : List As} {ops : Array Oper} {i : Nat} {rest : List Nat} {o : Oper}
variable {κ ν : Type} [DecidableEq κ] {ek : κ → Value} {en : ν → Value} {kt : TypeId}
theorem getMap {b c : Nat} {es : Array MapEntry} (hb : w.heap[b]? = some (.map es c)) : (getObj b).run P w = .ok (.map es c) w := by simp [getObj, Sem.run, hb]
theorem setMap {b c : Nat} {es : Array MapEntry} {o : Obj} (hb : w.heap[b]? = some (.map es c)) : (setObj b o).run P w = .ok () { w with heap := w.heap.setIfInBounds b o } := by simp [setObj, Sem.run, hb]
theorem asking (K : KeyOk P kt ek) (a : κ) : ∀ (es : List MapEntry) (kv : List (κ × ν)) (n : Nat), es.map (fun e => (e.key, e.val)) = kv.map (fun p => (ek p.1, en p.2)) →
    (Instr.findAsking kt (ek a) es n).run P w = .ok ((kv.findIdx? fun p => decide (a = p.1)).bind fun j => (kv[j]?).map fun p => (n + j, en p.2)) w
  | [], [], n, _ => by simp [Instr.findAsking]
  | [], _ :: _, n, h => by simp at h
  | _ :: _, [], n, h => by simp at h
  | e :: es, p :: kv, n, h => by
    simp only [List.map_cons, List.cons.injEq, Prod.mk.injEq] at h
    obtain ⟨⟨h1, h2⟩, h3⟩ := h
    have ih := asking K a es kv (n + 1) h3
    simp only [Instr.findAsking, Sem.run_bind, h1, K.eq, Result.andThen_ok]
    by_cases c : a = p.1
    · simp [c, List.findIdx?_cons, h2]
    · simp only [c, decide_false, Bool.false_eq_true, if_false, ih, List.findIdx?_cons]
      congr 1
      cases hq : List.findIdx? (fun p => decide (a = p.1)) kv with
      | none => rfl
      | some j => simp [Nat.add_assoc, Nat.add_comm 1 j]
theorem finding_now {d : TypeDesc} (hd : ∀ a b : κ, Instr.sameNow d (ek a) (ek b) = some (decide (a = b))) (a : κ) : ∀ (es : List MapEntry) (kv : List (κ × ν)) (n : Nat), es.map (fun e => (e.key, e.val)) = kv.map (fun p => (ek p.1, en p.2)) →
    Instr.findNow d (ek a) es n = some ((kv.findIdx? fun p => decide (a = p.1)).bind fun j => (kv[j]?).map fun p => (n + j, en p.2))
  | [], [], n, _ => by simp [Instr.findNow]
  | [], _ :: _, n, h => by simp at h
  | _ :: _, [], n, h => by simp at h
  | e :: es, p :: kv, n, h => by
    simp only [List.map_cons, List.cons.injEq, Prod.mk.injEq] at h
    obtain ⟨⟨h1, h2⟩, h3⟩ := h
    have ih := finding_now hd a es kv (n + 1) h3
    simp only [Instr.findNow, h1, hd]
    by_cases c : a = p.1
    · simp [c, List.findIdx?_cons, h2]
    · simp only [c, decide_false, ih, List.findIdx?_cons]
      congr 1
      cases hq : List.findIdx? (fun p => decide (a = p.1)) kv with
      | none => rfl
      | some j => simp [Nat.add_assoc, Nat.add_comm 1 j]
theorem finding (K : KeyOk P kt ek) (a : κ) {es : List MapEntry} {kv : List (κ × ν)} (h : es.map (fun e => (e.key, e.val)) = kv.map (fun p => (ek p.1, en p.2))) :
    (Instr.findKey kt (ek a) es).run P w = .ok ((mIdx kv a).bind fun j => (kv[j]?).map fun p => (j, en p.2)) w := by
  obtain ⟨d, hd, hs⟩ := K.desc
  simp only [Instr.findKey, Sem.run_bind, run_underlying hd, Result.andThen_ok]
  rcases hs with hs | hs
  · have q := asking (w := w) (en := en) K a es kv 0 h
    simp only [Nat.zero_add] at q
    cases es with
    | nil =>
      cases kv with
      | nil => simp [Instr.findNow, mIdx]
      | cons p kv => simp at h
    | cons e es =>
      simp only [Instr.findNow, hs]
      exact q
  · have q := finding_now (en := en) hs a es kv 0 h
    simp only [Nat.zero_add] at q
    rw [q]
    rfl
theorem mIdx_some {kv : List (κ × ν)} {a : κ} {j : Nat} (h : mIdx kv a = some j) : ∃ hj : j < kv.length, kv[j].1 = a := by
  unfold mIdx at h
  rw [List.findIdx?_eq_some_iff_getElem] at h
  obtain ⟨hj, h1, _⟩ := h
  exact ⟨hj, (of_decide_eq_true h1).symm⟩
theorem s_makeMap (h : St w0 Γ w) (ho : ops[i]? = some o) (hw : Region.wanted o (yl ops t) = true) {T : TypeId} (hop : o.op = .makeMap T none)
    (hk : ∀ b w1, St w0 (MapAs b ek en [] :: Γ) w1 → G P f R (.inRegion ops rest :: k) (put t o.dst (.map (some b))) w1) : G P f R (.inRegion ops (i :: rest) :: k) t w := by
  refine g_op (v := .map (some w.heap.size)) (w' := w.alloc (.map #[] 0)) ho hw ?_ (hk _ _ ?_)
  · simp only [execOp, hop]
    exact run_value (by simp [Instr.makeMap])
  · refine h.new (Turn.alloc w _) (F' := [w.heap.size]) ⟨rfl, #[], heap_alloc_new w _, rfl, fun i e h => by simp at h⟩ (by simp) (by simp)
theorem s_mapSet (K : KeyOk P kt ek) {b : Nat} {kv : List (κ × ν)} {a : κ} {v : ν} (h : St w0 (MapAs b ek en kv :: Γ) w) (ho : ops[i]? = some o) (hw : Region.wanted o (yl ops t) = true) {T vt : TypeId} {m x y : Operand}
    (hop : o.op = .mapUpdate T m x y ∨ o.op = .insert T m x y) (hT : P.underlying T = some (.map kt vt)) (hm : ev t m = .map (some b)) (hx : ev t x = ek a) (hy : ev t y = en v)
    (hk : ∀ w1, St w0 (MapAs b ek en (mSet kv a v) :: Γ) w1 → G P f R (.inRegion ops rest :: k) (put t o.dst undef) w1) : G P f R (.inRegion ops (i :: rest) :: k) t w := by
  obtain ⟨F, ⟨rfl, es, hb, he, hborn⟩, _⟩ := h.head
  have hlt : b < w.heap.size := (Array.getElem?_eq_some_iff.1 hb).1
  have hlen : es.size = kv.length := by have := congrArg List.length he; simpa using this
  have hf := finding (w := w) (en := en) K a he
  have main : ∀ es' : Array MapEntry, (Instr.mapUpdate T (.map (some b)) (ek a) (en v)).run P w = .ok () { w with heap := w.heap.setIfInBounds b (.map es' es'.size) } → Ents ek en es' (mSet kv a v) →
      G P f R (.inRegion ops (i :: rest) :: k) t w := by
    intro es' hr hE
    refine g_op_skip (w' := { w with heap := w.heap.setIfInBounds b (.map es' es'.size) }) ho hw ?_ (hk _ ?_)
    · rcases hop with hop | hop <;>
      · simp only [execOp, hop, hm, hx, hy]
        exact run_unit hr
    · refine h.turn fun F hF hnd => ?_
      obtain ⟨rfl, _⟩ := hF
      refine ⟨⟨rfl, rfl, rfl, by simp, fun c hc hcb => ?_⟩, [b], ⟨rfl, es', by simp [hlt], hE⟩, by simp, fun c hc => .inl hc⟩
      have : ¬ b = c := fun e => hcb (by simp [e])
      simp [Array.getElem?_setIfInBounds, this]
  cases hq : mIdx kv a with
  | some j =>
    obtain ⟨hj, hka⟩ := mIdx_some hq
    have hje : j < es.size := by omega
    have hj2 := congrArg (fun l => l[j]?) he
    simp only [List.getElem?_map, Array.getElem?_toList, Array.getElem?_eq_getElem hje, List.getElem?_eq_getElem hj, Option.map_some, Option.some.injEq, Prod.mk.injEq] at hj2
    refine main (es.modify j fun e => { e with key := ek a, val := en v }) ?_ ⟨?_, ?_⟩
    · simp [Instr.mapUpdate, run_underlying hT, getMap hb, setMap hb, K.check, hf, hq, List.getElem?_eq_getElem hj, Instr.keyThatStays, Array.getElem?_eq_getElem hje, hj2.1, hka, K.same]
    · unfold mSet
      rw [hq]
      apply List.ext_getElem?
      intro n
      have hn := congrArg (fun l => l[n]?) he
      simp only [List.getElem?_map, Array.getElem?_toList] at hn
      simp only [List.getElem?_map, Array.getElem?_toList, Array.getElem?_modify, List.getElem?_set]
      by_cases e : j = n
      · subst e
        simp [hj, Array.getElem?_eq_getElem hje]
      · simp [e, hn]
    · intro n e hn
      rw [Array.getElem?_modify] at hn
      by_cases c : j = n
      · subst c
        simp only [if_true, Array.getElem?_eq_getElem hje, Option.map_some, Option.some.injEq] at hn
        subst hn
        have := hborn j es[j] (Array.getElem?_eq_getElem hje)
        exact this
      · rw [if_neg c] at hn
        exact hborn n e hn
  | none =>
    refine main (es.push { key := ek a, val := en v, born := es.size }) ?_ ⟨?_, ?_⟩
    · simp [Instr.mapUpdate, run_underlying hT, getMap hb, setMap hb, K.check, hf, hq]
    · unfold mSet
      rw [hq]
      simp [he]
    · intro n e hn
      rw [Array.getElem?_push] at hn
      by_cases c : n = es.size
      · rw [if_pos c] at hn
        simp only [Option.some.injEq] at hn
        subst hn
        exact c.symm
      · rw [if_neg c] at hn
        exact hborn n e hn
theorem St.mp (h : St w0 Γ w) (j : Nat) {b : Nat} {kv : List (κ × ν)} (hj : Γ[j]? = some (MapAs b ek en kv)) : ∃ es, w.heap[b]? = some (.map es es.size) ∧ Ents ek en es kv := by
  obtain ⟨F, ⟨_, h1⟩, _⟩ := (h.pull j hj).head
  exact h1
/-- What a map has at a key. -/
theorem x_lookup (K : KeyOk P kt ek) {b : Nat} {kv : List (κ × ν)} {a : κ} {z : ν} (h : ∃ es, w.heap[b]? = some (.map es es.size) ∧ Ents ek en es kv) {T vt : TypeId} {m x : Operand}
    (hop : o.op = .lookup T m x false) (hT : P.underlying T = some (.map kt vt)) (hm : ev t m = .map (some b)) (hx : ev t x = ek a) (hz : ∀ w, (zeroValue vt).run P w = .ok (en z) w) :
    (execOp (ev t) o).run P w = .ok (.value (en (mGet kv a z))) w := by
  obtain ⟨es, hb, he, hborn⟩ := h
  have hf := finding (w := w) (en := en) K a he
  simp only [execOp, hop]
  refine run_value ?_
  rw [hm, hx]
  cases hq : mIdx kv a with
  | some j =>
    obtain ⟨hj, _⟩ := mIdx_some hq
    simp [Instr.lookup, run_underlying hT, getMap hb, K.check, hf, hq, mGet, List.getElem?_eq_getElem hj]
  | none =>
    simp [Instr.lookup, run_underlying hT, getMap hb, K.check, hf, hq, mGet, hz]
theorem check_int {T : TypeId} {q : IntKind} {a : Int} {b : Bool} {n : Nat} (ht : P.underlying T = some (.int q)) : (Instr.checkKey b (n + 1) T (.int q a)).run P w = .ok () w := by
  simp [Instr.checkKey, run_underlying ht]
theorem check_bool {T : TypeId} {a : Bool} {b : Bool} {n : Nat} (ht : P.underlying T = some .bool) : (Instr.checkKey b (n + 1) T (.bool a)).run P w = .ok () w := by
  simp [Instr.checkKey, run_underlying ht]
theorem check_struct2 {T : TypeId} {f0 f1 : Field} {cs : Array Value} {b : Bool} {n : Nat} {v0 v1 : Value} (ht : P.underlying T = some (.struct #[f0, f1])) (n0 : f0.name ≠ "_") (n1 : f1.name ≠ "_")
    (p0 : (part f0.type cs f0.offset).run P w = .ok v0 w) (p1 : (part f1.type cs f1.offset).run P w = .ok v1 w) (c0 : (Instr.checkKey b n f0.type v0).run P w = .ok () w) (c1 : (Instr.checkKey b n f1.type v1).run P w = .ok () w) :
    (Instr.checkKey b (n + 1) T (.agg cs)).run P w = .ok () w := by
  simp only [Instr.checkKey, Sem.run_bind, run_underlying ht, Result.andThen_ok]
  rw [← Array.forIn_toList]
  simp [n0, n1, p0, p1, c0, c1]
/-- Whole numbers as keys. -/
theorem keyInt {q : IntKind} {T : TypeId} (ht : P.underlying T = some (.int q)) : KeyOk P T (Value.int q) where
  desc := ⟨_, ht, .inr fun a b => by by_cases c : a = b <;> simp [Instr.sameNow, c]⟩
  eq := fun a b w => by
    refine (equalIn_int (d := 9999) ht).trans ?_
    by_cases c : a = b <;> simp [c]
  check := fun a b w => check_int (n := 9999) ht
  same := fun a => by simp [Instr.sameBits]
end
end Go.Proofs.YtgpdpedpmhonkaaX
