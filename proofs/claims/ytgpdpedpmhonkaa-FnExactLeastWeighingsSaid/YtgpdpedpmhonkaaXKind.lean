/- Kinds of arrays, and the steps with flat elements in the words of XPure. -/
import Derived.Test.YtgpdpedpmhonkaaXOps
import Derived.Test.YtgpdpedpmhonkaaXPure
namespace Go.Proofs.YtgpdpedpmhonkaaX
open Go Go.RowKit
set_option linter.unusedVariables false
set_option linter.unusedSimpArgs false
set_option linter.unusedSectionVars false

def encI (q : IntKind) (x : Int) : List Value := [.int q x]
def encB (x : Bool) : List Value := [.bool x]
def encS (x : ByteArray) : List Value := [.string x]
theorem fkI (q : IntKind) : Flat (K.int q) (encI q) := Flat.fl
theorem fkB : Flat K.bool encB := Flat.fl
theorem fkS : Flat K.str encS := Flat.fl
/-- The cells of an array. -/
def encA {α : Type} {n : Nat} (e : α → List Value) (a : Ar α n) : List Value := (a.l.map e).flatten
theorem encA_len {α : Type} {n m : Nat} {e : α → List Value} (he : ∀ x, (e x).length = m) (a : Ar α n) : (encA e a).length = n * m := by
  have : ∀ l : List α, (l.map e).flatten.length = l.length * m := by
    intro l
    induction l with
    | nil => simp
    | cons x l ih => simp [he, Nat.succ_mul] at ih ⊢; omega
  unfold encA
  rw [this, a.h]
theorem encA_one {α : Type} {n : Nat} {e : α → List Value} (h1 : ∀ x, ∀ v ∈ e x, v.oneCell' = true) (a : Ar α n) : ∀ v ∈ encA e a, v.oneCell' = true := by
  intro v hv
  simp only [encA, List.mem_flatten, List.mem_map] at hv
  obtain ⟨l, ⟨x, _, rfl⟩, hv⟩ := hv
  exact h1 x v hv
def K.ar {α : Type} (n m : Nat) (e : α → List Value) (he : ∀ x, (e x).length = m) (h1 : ∀ x, ∀ v ∈ e x, v.oneCell' = true) : K (Ar α n) := K.fl (n * m) (encA e) (encA_len he) (encA_one h1)
theorem fkA {α : Type} {n m : Nat} {e : α → List Value} {he : ∀ x, (e x).length = m} {h1} : Flat (K.ar n m e he h1) (encA e) := Flat.fl
/-- The cells of element i of an array. -/
theorem encA_at {α : Type} {n m : Nat} {e : α → List Value} (he : ∀ x, (e x).length = m) (a : Ar α n) (i : Int) (z : α) (h0 : 0 ≤ i) (h1 : i < n) :
    ((encA e a).drop (i.toNat * m)).take m = e (a.get i z) := by
  have key : ∀ (l : List α) (j : Nat) (hj : j < l.length), ((l.map e).flatten.drop (j * m)).take m = e l[j] := by
    intro l
    induction l with
    | nil => intro j hj; simp at hj
    | cons x l ih =>
      intro j hj
      cases j with
      | zero => simp; rw [List.take_append_of_le_length (by rw [he]; omega), List.take_of_length_le (by rw [he]; omega)]
      | succ j =>
        rw [List.map_cons, List.flatten_cons, Nat.succ_mul, List.drop_append, List.drop_eq_nil_of_le (by rw [he]; omega), List.nil_append, he]
        rw [show j * m + m - m = j * m from by omega]
        simpa using ih j (by simpa using hj)
  have := key a.l i.toNat (by rw [a.h]; omega)
  unfold encA
  rw [this]
  congr 1
  simp [Ar.get, a.h]
  rw [List.getElem?_eq_getElem (by rw [a.h]; omega)]
  rfl
/-- A store into element i of an array. -/
theorem encA_set {α : Type} {n m : Nat} {e : α → List Value} (he : ∀ x, (e x).length = m) (a : Ar α n) (i : Int) (y : α) (h0 : 0 ≤ i) (h1 : i < n) :
    (encA e a).take (i.toNat * m) ++ e y ++ (encA e a).drop (i.toNat * m + (e y).length) = encA e (a.set i y) := by
  have key : ∀ (l : List α) (j : Nat) (hj : j < l.length), (l.map e).flatten.take (j * m) ++ e y ++ (l.map e).flatten.drop (j * m + m) = ((l.set j y).map e).flatten := by
    intro l
    induction l with
    | nil => intro j hj; simp at hj
    | cons x l ih =>
      intro j hj
      cases j with
      | zero =>
        simp only [Nat.zero_mul, Nat.zero_add, List.take_zero, List.nil_append, List.set_cons_zero, List.map_cons, List.flatten_cons]
        rw [List.drop_append, List.drop_eq_nil_of_le (by rw [he]; omega), List.nil_append, he, Nat.sub_self, List.drop_zero]
      | succ j =>
        have ih' := ih j (by simpa using hj)
        rw [List.set_cons_succ, List.map_cons, List.map_cons, List.flatten_cons, List.flatten_cons, ← ih']
        rw [List.take_append, List.take_of_length_le (by rw [he, Nat.succ_mul]; omega), List.drop_append, List.drop_eq_nil_of_le (by rw [he, Nat.succ_mul]; omega), List.nil_append, he]
        rw [show (j + 1) * m - m = j * m from by rw [Nat.succ_mul]; omega, show (j + 1) * m + m - m = j * m + m from by rw [Nat.succ_mul]; omega]
        simp only [List.append_assoc]
  rw [he]
  exact key a.l i.toNat (by rw [a.h]; omega)

section
variable {P : Program} {f : FuncId} {R : Ending → World → Prop} {k : List Item} {t : List Value} {w0 w : World} {Γ : List As} {ops : Array Oper} {i : Nat} {rest : List Nat} {o : Oper}

/-- The address of an element of a slice with flat elements. -/
theorem s_idx {α : Type} {κ : K α} {enc : α → List Value} (fk : Flat κ enc) (z : α) {v : Value} {xs : List α} {T E : TypeId} (hr : RdRow κ w v xs) (hT : P.underlying T = some (.slice E)) (hsz : ∀ w, (Go.sizeOf E).run P w = .ok κ.n w) {n : Int} (h0 : 0 ≤ n) (h1 : n < xs.length)
    (ho : ops[i]? = some o) (hw : Region.wanted o (yl ops t) = true) {x ix : Operand} {q : IntKind}
    (hop : o.op = .indexAddr T x ix) (hx : ev t x = v) (hi : ev t ix = .int q n)
    (hk : ∀ p, CellsAt w p (enc (rdL xs n z)) → p.block < w.heap.size → (∀ b N c, v = .slice (some ⟨b, 0, none⟩) N c → p = ⟨b, n.toNat * κ.n, none⟩) →
      G P f R (.inRegion ops rest :: k) (put t o.dst (.pointer (some p))) w) : G P f R (.inRegion ops (i :: rest) :: k) t w := by
  refine s_indexAddr hr ho hw hop hx hi h0 h1 hT hsz fun p es hc hrd hlt hb => hk p ?_ hlt hb
  have := fk.rd.1 hrd
  rw [rdL_get (z := z)] at this
  rw [← this]
  exact hc
/-- The address of an element of an array variable of the call's own. -/
theorem s_idxA {n : Int} {b off m N : Nat} {T E : TypeId} (hT : P.underlying T = some (.array N E)) (hsz : ∀ w, (Go.sizeOf E).run P w = .ok m w) (h0 : 0 ≤ n) (h1 : n < N)
    (ho : ops[i]? = some o) (hw : Region.wanted o (yl ops t) = true) {x ix : Operand} {q : IntKind} (hop : o.op = .indexAddr T x ix) (hx : ev t x = .pointer (some ⟨b, off, none⟩)) (hi : ev t ix = .int q n)
    (hk : G P f R (.inRegion ops rest :: k) (put t o.dst (.pointer (some ⟨b, off + n.toNat * m, none⟩))) w) : G P f R (.inRegion ops (i :: rest) :: k) t w := by
  refine g_op (v := .pointer (some ⟨b, off + n.toNat * m, none⟩)) ho hw ?_ hk
  simp only [execOp, hop]
  have : (⟨b, off, none⟩ : Addr).add (n.toNat * m) = ⟨b, off + n.toNat * m, none⟩ := by unfold Addr.add; split <;> simp_all
  exact run_value (by simp [Instr.indexAt, hx, hi, asIntOf, Instr.sureAddr, run_underlying hT, h0, h1, hsz, this])
/-- An element of an array by value. -/
theorem s_indexV {α : Type} {n : Int} {N : Nat} {a : Ar α N} {enc : α → List Value} {c : α → Value} (hc : ∀ x, enc x = [c x]) (z : α) {T E : TypeId} (hT : P.underlying T = some (.array N E)) (hsz : ∀ w, (Go.sizeOf E).run P w = .ok 1 w)
    (hag : ∀ w, (isAgg E).run P w = .ok false w) (h0 : 0 ≤ n) (h1 : n < N)
    (ho : ops[i]? = some o) (hw : Region.wanted o (yl ops t) = true) {x ix : Operand} {q : IntKind} (hop : o.op = .index T x ix) (hx : ev t x = .agg (encA enc a).toArray) (hi : ev t ix = .int q n)
    (hk : G P f R (.inRegion ops rest :: k) (put t o.dst (c (a.get n z))) w) : G P f R (.inRegion ops (i :: rest) :: k) t w := by
  refine g_op (v := c (a.get n z)) ho hw ?_ hk
  have h2 := encA_at (m := 1) (e := enc) (fun x => by rw [hc]; rfl) a n z h0 h1
  have h3 : (encA enc a)[n.toNat]? = some (c (a.get n z)) := by
    have h4 : (((encA enc a).drop (n.toNat * 1)).take 1)[0]? = some (c (a.get n z)) := by rw [h2, hc]; rfl
    rw [List.getElem?_take] at h4
    simpa using h4
  simp only [execOp, hop]
  exact run_value (by simp [Instr.index, hx, hi, asIntOf, run_underlying hT, h0, h1, hsz, part, hag, h3])
/-- A load out of a variable of the call's own. -/
theorem cells_load {b : Nat} {cs : List Value} {E : TypeId} {fz : Nat × Nat} (hb : w.heap[b]? = some (.cells cs.toArray E fz)) (off n : Nat) {es : List Value} (he : (cs.drop off).take n = es) : CellsAt w ⟨b, off, none⟩ es := by
  subst he; exact cellsAt_block (n := n) hb n
theorem CellsAt.lift {p : Addr} {es : List Value} (h : CellsAt w0 p es) (hs : St w0 Γ w) : CellsAt w p es := by
  intro j u hj
  have h1 := h j u hj
  have hlt := block_lt_of_cell h1
  rw [cell_keep (hs.below.block _ hlt)]
  exact h1
/-- The results of a function, off its slots. -/
theorem res1 {fn : Func} {i : Nat} {v : Value} (h : fn.results = #[.tmp i]) (hv : t.getD i undef = v) : (results fn t.toArray).run P w = .ok v w := by
  subst hv; rw [results_tmp h]; simp [Array.getD_eq_getD_getElem?, List.getD]
def ResIs (P : Program) (w : World) (t : List Value) : List ResultVar → List Value → Prop
  | [], [] => True
  | .tmp i :: l, v :: vs => t.getD i undef = v ∧ ResIs P w t l vs
  | .cell a T :: l, v :: vs => (∃ p, t.getD a undef = .pointer (some p) ∧ (loadVar T p).run P w = .ok v w) ∧ ResIs P w t l vs
  | _, _ => False
def resOne (t : Array Value) : ResultVar → Sem Value
  | .tmp i => pure (t.getD i undef)
  | .cell a T => do loadVar T (← asAddr (t.getD a undef))
theorem results_eq (fn : Func) (t : Array Value) : results fn t = (do let vs ← fn.results.mapM (resOne t); pure (if h : vs.size = 1 then vs[0] else .tuple vs)) := rfl
theorem getD_toArray (t : List Value) (i : Nat) : t.toArray.getD i undef = t.getD i undef := by simp [Array.getD_eq_getD_getElem?, List.getD]
theorem ResIs.run {P : Program} {w : World} {t : List Value} : ∀ {l : List ResultVar} {vs : List Value}, ResIs P w t l vs → (l.mapM (resOne t.toArray)).run P w = .ok vs w
  | [], [], _ => by simp
  | .tmp i :: l, v :: vs, ⟨h, hl⟩ => by
    have ih := ResIs.run hl
    have h1 : (resOne t.toArray (.tmp i)).run P w = .ok v w := by simp only [resOne, getD_toArray, h]; rfl
    simp only [List.mapM_cons, Sem.run_bind, h1, Result.andThen_ok, ih]
    rfl
  | .cell a T :: l, v :: vs, ⟨⟨p, h, hv⟩, hl⟩ => by
    have ih := ResIs.run hl
    have h1 : (resOne t.toArray (.cell a T)).run P w = .ok v w := by simp only [resOne, getD_toArray, h, asAddr, Sem.run_bind, Sem.run_pure, Result.andThen_ok, hv]
    simp only [List.mapM_cons, Sem.run_bind, h1, Result.andThen_ok, ih]
    rfl
  | [], _ :: _, h => h.elim
  | .tmp _ :: _, [], h => h.elim
  | .cell _ _ :: _, [], h => h.elim
theorem resN {fn : Func} {l : List ResultVar} {vs : List Value} (h : fn.results = l.toArray) (hr : ResIs P w t l vs) (hn : vs.length ≠ 1) : (results fn t.toArray).run P w = .ok (.tuple vs.toArray) w := by
  have h1 := hr.run
  rw [results_eq, h]
  simp only [List.mapM_toArray, Sem.run_bind, Sem.run_map, h1, Result.andThen_ok]
  rw [dif_neg (by simpa using hn)]
  rfl
theorem resC {fn : Func} {r : ResultVar} {v : Value} (h : fn.results = #[r]) (hr : ResIs P w t [r] [v]) : (results fn t.toArray).run P w = .ok v w := by
  have h1 := hr.run
  have h : fn.results = [r].toArray := h
  rw [results_eq, h]
  simp only [List.mapM_toArray, Sem.run_bind, Sem.run_map, h1, Result.andThen_ok]
  rfl

theorem cells_all {b : Nat} {cs : List Value} {E : TypeId} {fz : Nat × Nat} (hb : w.heap[b]? = some (.cells cs.toArray E fz)) : CellsAt w ⟨b, 0, none⟩ cs :=
  cells_load hb 0 cs.length (by simp)
/-- A store of a whole variable. -/
theorem s_storeAll {b : Nat} {cs : List Value} {E : TypeId} (h : St w0 (Cells b cs E :: Γ) w) {n : Nat} (hc : cs.length = n) (ho : ops[i]? = some o) (hw : Region.wanted o (yl ops t) = true) {T : TypeId} {a x : Operand} {vs : List Value}
    (hop : o.op = .store T a x) (ha : ev t a = .pointer (some ⟨b, 0, none⟩)) (hv : (ev t x).cells = vs.toArray) (hsz : ∀ w, (Go.sizeOf T).run P w = .ok n w) (hn : vs.length = n)
    (h1 : ∀ v ∈ vs, v.oneCell' = true) (hk : ∀ w1, St w0 (Cells b vs E :: Γ) w1 → G P f R (.inRegion ops rest :: k) (put t o.dst undef) w1) : G P f R (.inRegion ops (i :: rest) :: k) t w := by
  refine s_store h ho hw hop ha hv hsz hn (by omega) h1 ?_ hk
  rw [Nat.zero_add, List.drop_eq_nil_of_le (by omega)]
  simp
/-- A store into an element of an array variable. -/
theorem s_storeA {α : Type} {N m : Nat} {e : α → List Value} (he : ∀ x, (e x).length = m) (h1 : ∀ x, ∀ v ∈ e x, v.oneCell' = true) {a : Ar α N} {n : Int} (h0 : 0 ≤ n) (hn : n < N) {b : Nat} {E : TypeId} (h : St w0 (Cells b (encA e a) E :: Γ) w)
    (ho : ops[i]? = some o) (hw : Region.wanted o (yl ops t) = true) {T : TypeId} {ad x : Operand} {y : α}
    (hop : o.op = .store T ad x) (ha : ev t ad = .pointer (some ⟨b, 0 + n.toNat * m, none⟩)) (hv : (ev t x).cells = (e y).toArray) (hsz : ∀ w, (Go.sizeOf T).run P w = .ok m w)
    (hk : ∀ w1, St w0 (Cells b (encA e (a.set n y)) E :: Γ) w1 → G P f R (.inRegion ops rest :: k) (put t o.dst undef) w1) : G P f R (.inRegion ops (i :: rest) :: k) t w := by
  rw [Nat.zero_add] at ha
  refine s_store h ho hw hop ha hv hsz (he y) ?_ (h1 y) (encA_set he a n y h0 hn) hk
  rw [he, encA_len he, ← Nat.succ_mul]
  exact Nat.mul_le_mul_right _ (by omega)
/-- A store into an element of a row of the call's own. -/
theorem s_stRow {α : Type} {κ : K α} {enc : α → List Value} (fk : Flat κ enc) {v : Value} {xs : List α} {E : TypeId} {n : Int} (h0 : 0 ≤ n) (hn : n < xs.length) {p : Addr} (hp : ∀ b N c, v = .slice (some ⟨b, 0, none⟩) N c → p = ⟨b, n.toNat * κ.n, none⟩)
    (h : St w0 (Row E κ v xs :: Γ) w) (ho : ops[i]? = some o) (hw : Region.wanted o (yl ops t) = true) {T : TypeId} {a x : Operand} {y : α}
    (hop : o.op = .store T a x) (ha : ev t a = .pointer (some p)) (hv : (ev t x).cells = (enc y).toArray) (hsz : ∀ w, (Go.sizeOf T).run P w = .ok κ.n w)
    (hk : ∀ w1, St w0 (Row E κ v (stL xs n y) :: Γ) w1 → G P f R (.inRegion ops rest :: k) (put t o.dst undef) w1) : G P f R (.inRegion ops (i :: rest) :: k) t w :=
  s_store_row fk h ho hw hop ha hp (by omega) hv hsz hk
/-- No slice, as a row. -/
theorem St.nil {α : Type} (E : TypeId) (κ : K α) (h : St w0 Γ w) : St w0 (Row E κ (.slice none 0 0) [] :: Γ) w :=
  h.new (Turn.refl _ _) (F' := []) ⟨[], [], rfl, World.ownsRow_nil _ _ _ _, .nil⟩ (by simp) (by simp)
theorem rdNil {α : Type} (κ : K α) : RdRow κ w (.slice none 0 0) [] := ⟨none, 0, rfl, Nat.le_refl _, fun i h => by simp at h⟩
theorem g_seq_join2 {x c y : Code} (J : List Value → World → Prop) (ha : ∀ t w, J t w → G P f R (.code y :: k) t w)
    (hb : (∀ t w, J t w → G P f R (.code y :: k) t w) → G P f R (.code x :: .code (.seq c y) :: k) t w) : G P f R (.code (.seq x (.seq c y)) :: k) t w := g_seq (hb ha)
/-- []E{} -/
theorem s_lit0 {α : Type} {κ : K α} (h : St w0 Γ w) (ho : ops[i]? = some o) (hw : Region.wanted o (yl ops t) = true) {T E : TypeId} {n : Nat} (hop : o.op = .buildSlice T 0 #[]) (hT : P.underlying T = some (.slice E)) (hsz : ∀ w, (Go.sizeOf E).run P w = .ok n w)
    (hk : ∀ v w1, St w0 (Row E κ v [] :: Γ) w1 → G P f R (.inRegion ops rest :: k) (put t o.dst v) w1) : G P f R (.inRegion ops (i :: rest) :: k) t w := by
  refine g_op (v := .slice (some ⟨w.heap.size, 0, none⟩) 0 0) (w' := w.alloc (.cells #[] E)) ho hw ?_ (hk _ _ ?_)
  · simp only [execOp, hop]
    exact run_value (by simp [Instr.buildSlice, run_underlying hT, hsz, Instr.fill, newRow, Array.range_zero'])
  · refine h.new (Turn.alloc w _) (F' := [w.heap.size]) ⟨[], [], rfl, ?_, .nil⟩ (by simp) (by simp)
    exact World.ownsRow_lit w #[] 0 (Nat.zero_le _) (Nat.zero_le _) (by simp)
/-- []E{x}, x flat. -/
theorem s_lit1 {α : Type} {κ : K α} {enc : α → List Value} (fk : Flat κ enc) {y : α} (h : St w0 Γ w) (ho : ops[i]? = some o) (hw : Region.wanted o (yl ops t) = true) {T E : TypeId} {x : Operand} (hop : o.op = .buildSlice T 1 #[(0, x)]) (hT : P.underlying T = some (.slice E))
    (hsz : ∀ w, (Go.sizeOf E).run P w = .ok κ.n w) {zv : Value} (hz : ∀ w, (zeroValue E).run P w = .ok zv w) (hzs : zv.cells.size = κ.n) (hpos : 0 < κ.n) (hle : κ.n ≤ 100000) (hv : (ev t x).cells = (enc y).toArray)
    (hk : ∀ v w1, St w0 (Row E κ v [y] :: Γ) w1 → G P f R (.inRegion ops rest :: k) (put t o.dst v) w1) : G P f R (.inRegion ops (i :: rest) :: k) t w := by
  have hl := fk.len y
  have hfill : ∀ (vs : List Value) (cs : Array Value), vs.length = cs.size → vs.toArray.zipIdx.foldl (fun cs (c, j) => cs.setIfInBounds (0 + j) c) cs = vs.toArray := by
    intro vs cs hcs
    have gen : ∀ (vs : List Value) (n : Nat) (cs : Array Value), (vs.zipIdx n).foldl (fun (cs : Array Value) (p : Value × Nat) => cs.setIfInBounds (0 + p.2) p.1) cs = (cs.toList.take n ++ (vs ++ (cs.toList.drop (n + vs.length)))).toArray ∨ cs.size < n + vs.length := by
      intro vs
      induction vs with
      | nil => intro n cs; left; simp
      | cons v vs ih =>
        intro n cs
        by_cases hlt : cs.size < n + (v :: vs).length
        · exact .inr hlt
        · left
          simp only [List.length_cons] at hlt
          rw [List.zipIdx_cons, List.foldl_cons]
          rcases ih (n + 1) (cs.setIfInBounds (0 + n) v) with h | h
          · rw [h]
            congr 1
            have h1 : (cs.setIfInBounds (0 + n) v).toList = cs.toList.set n v := by simp
            have := list_seg_step cs.toList n v vs (by simp; omega)
            rw [h1]
            simpa [Nat.add_assoc, Nat.add_comm, Nat.add_left_comm] using this
          · simp at h; omega
    rcases gen vs 0 cs with h | h
    · rw [← Array.foldl_toList, Array.toList_zipIdx]
      exact h.trans (by simp [hcs])
    · omega
  refine g_op (v := .slice (some ⟨w.heap.size, 0, none⟩) 1 1) (w' := w.alloc (.cells (enc y).toArray E)) ho hw ?_ (hk _ _ ?_)
  · simp only [execOp, hop]
    have hn1 : ¬ κ.n = 0 := by omega
    have hn2 : ¬ 16777216 < κ.n := by omega
    have hf : Instr.fill (fun i => some (i * κ.n, κ.n)) ((Array.range κ.n).map (zv.cells[· % zv.cells.size]!)) [(0, ev t x)] = some (enc y).toArray := by
      simp only [Instr.fill, hv, Nat.zero_mul]
      simp [hl]
      have := hfill (enc y) (madeCells zv.cells κ.n) (by rw [hl, size_madeCells])
      simpa [madeCells] using this
    exact run_value (by simp [Instr.buildSlice, run_underlying hT, hsz, hz, hn1, hn2, hf, newRow])
  · refine h.new (Turn.alloc w _) (F' := [w.heap.size]) ⟨enc y, [], rfl, ?_, by simpa using Els.flat fk [y]⟩ (by simp) (by simp)
    exact World.ownsRow_lit w (enc y).toArray 1 (Nat.zero_le _) (by unfold maxLen; omega) (by simp [hl])
/-- Where ways meet behind a statement. -/
theorem g_join {c : Code} (J : List Value → World → Prop) (ha : ∀ t w, J t w → G P f R k t w) (hb : (∀ t w, J t w → G P f R k t w) → G P f R (.code c :: k) t w) : G P f R (.code c :: k) t w := hb ha
theorem g_join2 {c c2 : Code} (J : List Value → World → Prop) (ha : ∀ t w, J t w → G P f R k t w) (hb : (∀ t w, J t w → G P f R k t w) → G P f R (.code c :: .code c2 :: k) t w) : G P f R (.code c :: .code c2 :: k) t w := hb ha
theorem g_join2s {c c2 y : Code} (J : List Value → World → Prop) (ha : ∀ t w, J t w → G P f R (.code y :: k) t w) (hb : (∀ t w, J t w → G P f R (.code y :: k) t w) → G P f R (.code c :: .code (.seq c2 y) :: k) t w) :
    G P f R (.code c :: .code (.seq c2 y) :: k) t w := hb ha
end
end Go.Proofs.YtgpdpedpmhonkaaX
