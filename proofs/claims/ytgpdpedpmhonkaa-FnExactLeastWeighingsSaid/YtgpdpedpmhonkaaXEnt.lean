/- m[k] op= v: the entry of a key, and a store into it. -/
import Derived.Test.YtgpdpedpmhonkaaXFld
import Derived.Test.YtgpdpedpmhonkaaXMap
namespace Go.Proofs.YtgpdpedpmhonkaaX
open Go Go.RowKit
set_option linter.unusedVariables false
set_option linter.unusedSimpArgs false
set_option linter.unusedSectionVars false
section
variable {κ ν : Type} [DecidableEq κ]
theorem mIdx_ge {kv : List (κ × ν)} {a : κ} (h : mIdx kv a = none) : ∀ p ∈ kv, ¬ a = p.1 := by
  unfold mIdx at h
  rw [List.findIdx?_eq_none_iff] at h
  intro p hp
  simpa using h p hp
theorem mIdx_new {kv : List (κ × ν)} {a : κ} (h : mIdx kv a = none) (b : κ) (v : ν) : mIdx (kv ++ [(a, v)]) b = match mIdx kv b with | some i => some i | none => if b = a then some kv.length else none := by
  unfold mIdx
  rw [List.findIdx?_append]
  cases List.findIdx? (fun p => decide (b = p.1)) kv with
  | some i => rfl
  | none => by_cases c : b = a <;> simp [c, List.findIdx?_cons]
/-- An entry that is made changes nothing that is read. -/
theorem mGet_ent (kv : List (κ × ν)) (a b : κ) (z : ν) : mGet (mEnt kv a z) b z = mGet kv b z := by
  unfold mEnt
  cases hq : mIdx kv a with
  | some i => rfl
  | none =>
    unfold mGet
    rw [show mIdx (match (none : Option Nat) with | some _ => kv | none => kv ++ [(a, z)]) b = mIdx (kv ++ [(a, z)]) b from rfl, mIdx_new hq]
    cases hb : mIdx kv b with
    | some i =>
      have hi : i < kv.length := by
        unfold mIdx at hb
        rw [List.findIdx?_eq_some_iff_getElem] at hb
        exact hb.1
      simp [List.getElem?_append_left hi]
    | none =>
      by_cases c : b = a
      · simp [c]
      · simp [c]
theorem mGet_cnd (d : Bool) (kv : List (κ × ν)) (a b : κ) (z : ν) : mGet (cnd d (mEnt kv a z) kv) b z = mGet kv b z := by
  cases d with
  | true => exact mGet_ent kv a b z
  | false => rfl
theorem mPut_ent (kv : List (κ × ν)) (a : κ) (z v : ν) : mPut (mEnt kv a z) (mPos kv a) v = mSet kv a v := by
  unfold mPut mEnt mPos mSet
  cases hq : mIdx kv a with
  | some i =>
    obtain ⟨hi, he⟩ := mIdx_some hq
    simp only [Int.toNat_natCast]
    apply List.ext_getElem?
    intro n
    simp only [List.getElem?_modify, List.getElem?_set]
    by_cases c : i = n
    · subst c
      simp [hi, he]
    · simp [c]
  | none =>
    simp only [Int.toNat_natCast]
    apply List.ext_getElem?
    intro n
    simp only [List.getElem?_modify]
    by_cases c : kv.length = n
    · subst c; simp
    · by_cases d : n < kv.length
      · simp [c, List.getElem?_append_left d]
      · have : ¬ n - kv.length = 0 := by omega
        simp only [c, if_false, List.getElem?_append_right (Nat.not_lt.1 d)]
        cases hk : n - kv.length with
        | zero => omega
        | succ m => simp
end
section
variable {P : Program} {f : FuncId} {R : Ending → World → Prop} {k : List Item} {t : List Value} {w0 w : World} {Γ : List As} {ops : Array Oper} {i : Nat} {rest : List Nat} {o : Oper}
variable {κ ν : Type} [DecidableEq κ] {ek : κ → Value} {en : ν → Value} {kt : TypeId}
/-- What a map has at a key, while an entry of it may have been made or not. -/
theorem x_lookupE (K : KeyOk P kt ek) {b : Nat} {kv : List (κ × ν)} {a a' : κ} {z : ν} {d : Bool} (h : ∃ es, w.heap[b]? = some (.map es es.size) ∧ Ents ek en es (cnd d (mEnt kv a' z) kv)) {T vt : TypeId} {m x : Operand}
    (hop : o.op = .lookup T m x false) (hT : P.underlying T = some (.map kt vt)) (hm : ev t m = .map (some b)) (hx : ev t x = ek a) (hz : ∀ w, (zeroValue vt).run P w = .ok (en z) w) :
    (execOp (ev t) o).run P w = .ok (.value (en (mGet kv a z))) w := by
  have := x_lookup K h hop hT hm hx hz
  rwa [mGet_cnd] at this
theorem s_mapEntry (K : KeyOk P kt ek) {b : Nat} {kv : List (κ × ν)} {a : κ} {z : ν} (h : St w0 (MapAs b ek en kv :: Γ) w) (ho : ops[i]? = some o) (hw : Region.wanted o (yl ops t) = true) {T vt : TypeId} {m x : Operand}
    (hop : o.op = .mapEntry T m x) (hT : P.underlying T = some (.map kt vt)) (hm : ev t m = .map (some b)) (hx : ev t x = ek a) (hz : ∀ w, (zeroValue vt).run P w = .ok (en z) w)
    (hk : ∀ w1, St w0 (MapAs b ek en (mEnt kv a z) :: Γ) w1 → G P f R (.inRegion ops rest :: k) (put t o.dst (.tuple #[en (mGet kv a z), .int .i64 (mPos kv a)])) w1) : G P f R (.inRegion ops (i :: rest) :: k) t w := by
  obtain ⟨F, ⟨rfl, es, hb, he, hborn⟩, _⟩ := h.head
  have hlt : b < w.heap.size := (Array.getElem?_eq_some_iff.1 hb).1
  have hlen : es.size = kv.length := by have := congrArg List.length he; simpa using this
  have hf := finding (w := w) (en := en) K a he
  have main : ∀ es' : Array MapEntry, (Instr.mapEntry T (.map (some b)) (ek a)).run P w = .ok (.tuple #[en (mGet kv a z), .int .i64 (mPos kv a)]) { w with heap := w.heap.setIfInBounds b (.map es' es'.size) } → Ents ek en es' (mEnt kv a z) →
      G P f R (.inRegion ops (i :: rest) :: k) t w := by
    intro es' hr hE
    refine g_op (v := .tuple #[en (mGet kv a z), .int .i64 (mPos kv a)]) (w' := { w with heap := w.heap.setIfInBounds b (.map es' es'.size) }) ho hw ?_ (hk _ ?_)
    · simp only [execOp, hop, hm, hx]
      exact run_value hr
    · refine h.turn fun F hF hnd => ?_
      obtain ⟨rfl, _⟩ := hF
      refine ⟨⟨rfl, rfl, rfl, by simp, fun c hc hcb => ?_⟩, [b], ⟨rfl, es', by simp [hlt], hE⟩, by simp, fun c hc => .inl hc⟩
      have : ¬ b = c := fun e => hcb (by simp [e])
      simp [Array.getElem?_setIfInBounds, this]
  cases hq : mIdx kv a with
  | some j =>
    obtain ⟨hj, hka⟩ := mIdx_some hq
    have hje : j < es.size := by omega
    have hj2 := congrArg (fun l => l[j]?) he
    simp only [List.getElem?_map, Array.getElem?_toList, Array.getElem?_eq_getElem hje, List.getElem?_eq_getElem hj, Option.map_some, Option.some.injEq, Prod.mk.injEq] at hj2
    have hbj := hborn j es[j] (Array.getElem?_eq_getElem hje)
    refine main (es.modify j fun e => { e with key := ek a }) ?_ ⟨?_, ?_⟩
    · simp [Instr.mapEntry, run_underlying hT, getMap hb, setMap hb, K.check, hf, hq, List.getElem?_eq_getElem hj, Instr.keyThatStays, Array.getElem?_eq_getElem hje, hj2.1, hka, K.same, mGet, mPos, goInt, hbj]
    · unfold mEnt
      rw [hq]
      simp only
      rw [← he]
      apply List.ext_getElem?
      intro n
      simp only [List.getElem?_map, Array.getElem?_toList, Array.getElem?_modify]
      by_cases e : j = n
      · subst e
        simp [Array.getElem?_eq_getElem hje, hj2.1, hka]
      · simp [e]
    · intro n e hn
      rw [Array.getElem?_modify] at hn
      by_cases c : j = n
      · subst c
        simp only [if_true, Array.getElem?_eq_getElem hje, Option.map_some, Option.some.injEq] at hn
        subst hn
        exact hbj
      · rw [if_neg c] at hn
        exact hborn n e hn
  | none =>
    refine main (es.push { key := ek a, val := en z, born := es.size }) ?_ ⟨?_, ?_⟩
    · simp [Instr.mapEntry, run_underlying hT, getMap hb, setMap hb, K.check, hf, hq, hz, mGet, mPos, goInt, hlen]
    · unfold mEnt
      rw [hq]
      simp [he]
    · intro n e hn
      rw [Array.getElem?_push] at hn
      by_cases c : n = es.size
      · rw [if_pos c] at hn
        simp only [Option.some.injEq] at hn
        subst hn
        exact c.symm
      · rw [if_neg c] at hn
        exact hborn n e hn
theorem s_entryStore {b : Nat} {kv : List (κ × ν)} {a : κ} {z v : ν} (h : St w0 (MapAs b ek en (mEnt kv a z) :: Γ) w) (ho : ops[i]? = some o) (hw : Region.wanted o (yl ops t) = true) {T : TypeId} {m x y : Operand}
    (hop : o.op = .entryStore T m x y) (hm : ev t m = .map (some b)) (hx : ev t x = .int .i64 (mPos kv a)) (hy : ev t y = en v)
    (hk : ∀ w1, St w0 (MapAs b ek en (mSet kv a v) :: Γ) w1 → G P f R (.inRegion ops rest :: k) (put t o.dst undef) w1) : G P f R (.inRegion ops (i :: rest) :: k) t w := by
  obtain ⟨F, ⟨rfl, es, hb, he, hborn⟩, _⟩ := h.head
  have hlt : b < w.heap.size := (Array.getElem?_eq_some_iff.1 hb).1
  have hlen : es.size = (mEnt kv a z).length := by have := congrArg List.length he; simpa using this
  obtain ⟨j, hj⟩ : ∃ j : Nat, mPos kv a = (j : Int) := by unfold mPos; cases mIdx kv a <;> exact ⟨_, rfl⟩
  have hjl : j < es.size := by
    rw [hlen]
    unfold mPos at hj
    unfold mEnt
    cases hq : mIdx kv a with
    | some i =>
      rw [hq] at hj
      obtain ⟨hi, _⟩ := mIdx_some hq
      simp only at hj ⊢
      omega
    | none =>
      rw [hq] at hj
      simp only at hj ⊢
      simp; omega
  have hfind : es.findIdx? (fun e => (e.born : Int) == (j : Int)) = some j := by
    rw [Array.findIdx?_eq_some_iff_getElem]
    refine ⟨hjl, by have := hborn j es[j] (Array.getElem?_eq_getElem hjl); simp [this], fun i hi => ?_⟩
    have := hborn i es[i] (Array.getElem?_eq_getElem (by omega))
    simp [this]; omega
  refine g_op_skip (w' := { w with heap := w.heap.setIfInBounds b (.map (es.modify j fun e => { e with val := en v }) (es.modify j fun e => { e with val := en v }).size) }) ho hw ?_ (hk _ ?_)
  · simp only [execOp, hop, hm, hx, hy]
    exact run_unit (by simp [Instr.entryStore, getMap hb, setMap hb, asInt, asIntOf, hj, hfind])
  · rw [← mPut_ent kv a z v, hj]
    refine h.turn fun F hF hnd => ?_
    obtain ⟨rfl, _⟩ := hF
    refine ⟨⟨rfl, rfl, rfl, by simp, fun c hc hcb => ?_⟩, [b], ⟨rfl, es.modify j fun e => { e with val := en v }, by simp [hlt], ?_, ?_⟩, by simp, fun c hc => .inl hc⟩
    · have : ¬ b = c := fun e => hcb (by simp [e])
      simp [Array.getElem?_setIfInBounds, this]
    · unfold mPut
      apply List.ext_getElem?
      intro n
      have hn := congrArg (fun l => l[n]?) he
      simp only [List.getElem?_map, Array.getElem?_toList] at hn
      simp only [List.getElem?_map, Array.getElem?_toList, Array.getElem?_modify, List.getElem?_modify, Int.toNat_natCast]
      by_cases e : j = n
      · subst e
        cases h1 : es[j]? <;> cases h2 : (mEnt kv a z)[j]? <;> rw [h1, h2] at hn <;> simp_all
      · simp [e, hn]
    · intro n e hn
      rw [Array.getElem?_modify] at hn
      by_cases c : j = n
      · subst c
        simp only [if_true, Array.getElem?_eq_getElem hjl, Option.map_some, Option.some.injEq] at hn
        subst hn
        exact hborn j es[j] (Array.getElem?_eq_getElem hjl)
      · rw [if_neg c] at hn
        exact hborn n e hn
end
end Go.Proofs.YtgpdpedpmhonkaaX
