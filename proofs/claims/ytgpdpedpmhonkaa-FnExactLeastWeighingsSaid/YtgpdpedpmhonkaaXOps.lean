/- One lemma an operation, over the judgement G and the state St. -/
import Derived.Test.YtgpdpedpmhonkaaXMem
import Derived.Maps.AppendAt
namespace Go.Proofs.YtgpdpedpmhonkaaX
open Go Go.RowKit
set_option linter.unusedVariables false
set_option linter.unusedSimpArgs false
set_option linter.unusedSectionVars false

theorem run_value {P : Program} {s : Sem Value} {v : Value} {w w' : World} (h : s.run P w = .ok v w') : (do pure (Next.value (← s)) : Sem Next).run P w = .ok (.value v) w' := by
  rw [Sem.run_bind, h]; rfl
theorem run_unit {P : Program} {s : Sem Unit} {w w' : World} (h : s.run P w = .ok () w') : (do s; pure Next.skip : Sem Next).run P w = .ok .skip w' := by
  rw [Sem.run_bind, h]; rfl

section
variable {P : Program} {f : FuncId} {R : Ending → World → Prop} {k : List Item} {t : List Value} {w0 w : World} {Γ : List As} {ops : Array Oper} {i : Nat} {rest : List Nat} {o : Oper}

/-- A test: both ways. -/
theorem g_op_b {B : Bool} (ho : ops[i]? = some o) (hw : Region.wanted o (yl ops t) = true) (hr : (execOp (ev t) o).run P w = .ok (.value (.bool B)) w)
    (h1 : B = true → G P f R (.inRegion ops rest :: k) (put t o.dst (.bool true)) w) (h2 : B = false → G P f R (.inRegion ops rest :: k) (put t o.dst (.bool false)) w) :
    G P f R (.inRegion ops (i :: rest) :: k) t w := by
  cases B
  · exact g_op ho hw hr (h2 rfl)
  · exact g_op ho hw hr (h1 rfl)
theorem g_cond_b {c : Operand} {x y : Code} {b : Bool} (hc : ev t c = .bool b) (h1 : b = true → G P f R (.code x :: k) t w) (h2 : b = false → G P f R (.code y :: k) t w) :
    G P f R (.code (.cond c x y) :: k) t w := by
  cases b
  · exact g_cond_false hc (h2 rfl)
  · exact g_cond_true hc (h1 rfl)
/-- A loop, by the rounds that are left. -/
theorem g_loop_fuel {c : Code} (I : Nat → List Value → World → Prop) (n : Nat) (h0 : I n t w) (hz : ∀ t w, ¬ I 0 t w)
    (hs : ∀ m, (∀ t w, I m t w → G P f R (.inLoop c :: k) t w) → ∀ t w, I (m + 1) t w → G P f R (.code c :: .inLoop c :: k) t w) : G P f R (.code (.loop c) :: k) t w := by
  have key : ∀ m t w, I m t w → G P f R (.code c :: .inLoop c :: k) t w := by
    intro m
    induction m with
    | zero => exact fun t w h => (hz t w h).elim
    | succ m ih => exact hs m fun t w h => g_inLoop (ih t w h)
  exact g_loop (key n t w h0)
/-- Where ways meet behind a block. -/
theorem g_block_join {id : Nat} {c : Code} (J : List Value → World → Prop) (ha : ∀ t w, J t w → G P f R k t w)
    (hb : (∀ t w, J t w → G P f R k t w) → G P f R (.code c :: .inBlock id :: k) t w) : G P f R (.code (.block id c) :: k) t w := g_block (hb ha)
/-- Where ways meet behind a statement. -/
theorem g_seq_join {x y : Code} (J : List Value → World → Prop) (ha : ∀ t w, J t w → G P f R (.code y :: k) t w)
    (hb : (∀ t w, J t w → G P f R (.code y :: k) t w) → G P f R (.code x :: .code y :: k) t w) : G P f R (.code (.seq x y) :: k) t w := g_seq (hb ha)

theorem St.at (h : St w0 Γ w) (j : Nat) {A : As} (hj : Γ[j]? = some A) : ∃ F, A.on F w := by
  obtain ⟨F, hA, _⟩ := (h.pull j hj).head
  exact ⟨F, hA⟩
theorem St.cells (h : St w0 Γ w) (j : Nat) {b E cs} (hj : Γ[j]? = some (Cells b cs E)) : w.heap[b]? = some (.cells cs.toArray E (0, 0)) := by
  obtain ⟨F, _, hb⟩ := h.at j hj
  exact hb
theorem St.row (h : St w0 Γ w) (j : Nat) {α : Type} {E} {κ : K α} {v xs} (hj : Γ[j]? = some (Row E κ v xs)) : RdRow κ w v xs := (h.pull j hj).row_rd

/-- The cells from p on are es. -/
def CellsAt (w : World) (p : Addr) (es : List Value) : Prop := ∀ j u, es[j]? = some u → w.cell? (p.add j) = some u
theorem cellsAt_block {b off n : Nat} {cs : List Value} {E : TypeId} {fz : Nat × Nat} (hb : w.heap[b]? = some (.cells cs.toArray E fz)) (n : Nat) : CellsAt w ⟨b, off, none⟩ ((cs.drop off).take n) := by
  intro j u hj
  rw [List.getElem?_take] at hj
  split at hj
  · rw [List.getElem?_drop] at hj
    have : (⟨b, off, none⟩ : Addr).add j = ⟨b, off + j, none⟩ := by unfold Addr.add; split <;> simp_all
    rw [this, cell_of_row w b (off + j) cs.toArray E fz hb]
    simpa using hj
  · cases hj

/-- A new variable with a value. -/
theorem s_box (h : St w0 Γ w) (ho : ops[i]? = some o) (hw : Region.wanted o (yl ops t) = true) {E : TypeId} {x : Operand} {cs : List Value} (hop : o.op = .box E x)
    (hv : (ev t x).cells = cs.toArray) (hk : ∀ b w1, St w0 (Cells b cs E :: Γ) w1 → G P f R (.inRegion ops rest :: k) (put t o.dst (.pointer (some ⟨b, 0, none⟩))) w1) :
    G P f R (.inRegion ops (i :: rest) :: k) t w := by
  refine g_op (v := .pointer (some ⟨w.heap.size, 0, none⟩)) (w' := w.alloc (.cells cs.toArray E)) ho hw ?_ (hk _ _ ?_)
  · simp only [execOp, hop]
    exact run_value (by simp [Instr.box, newVar, newRow, hv])
  · exact h.new (Turn.alloc w _) (F' := [w.heap.size]) ⟨rfl, heap_alloc_new w _⟩ (by simp) (by simp)
/-- A new variable with its zero value. -/
theorem s_alloc (h : St w0 Γ w) (ho : ops[i]? = some o) (hw : Region.wanted o (yl ops t) = true) {E : TypeId} {z : Value} {cs : List Value} (hop : o.op = .alloc E)
    (hz : ∀ w, (zeroValue E).run P w = .ok z w) (hv : z.cells = cs.toArray) (hk : ∀ b w1, St w0 (Cells b cs E :: Γ) w1 → G P f R (.inRegion ops rest :: k) (put t o.dst (.pointer (some ⟨b, 0, none⟩))) w1) :
    G P f R (.inRegion ops (i :: rest) :: k) t w := by
  refine g_op (v := .pointer (some ⟨w.heap.size, 0, none⟩)) (w' := w.alloc (.cells cs.toArray E)) ho hw ?_ (hk _ _ ?_)
  · simp only [execOp, hop]
    exact run_value (by simp [Instr.alloc, hz, newVar, newRow, hv])
  · exact h.new (Turn.alloc w _) (F' := [w.heap.size]) ⟨rfl, heap_alloc_new w _⟩ (by simp) (by simp)

theorem run_loadVar_one {T : TypeId} {p : Addr} {v : Value} (ha : (isAgg T).run P w = .ok false w) (hp : CellsAt w p [v]) : (loadVar T p).run P w = .ok v w := by
  have h0 := hp 0 v rfl
  have : p.add 0 = p := rfl
  rw [this] at h0
  simp [loadVar, ha, h0]
theorem run_loadVar_agg {T : TypeId} {p : Addr} {es : List Value} (ha : (isAgg T).run P w = .ok true w) (hsz : (sizeOf T).run P w = .ok es.length w) (hp : CellsAt w p es) :
    (loadVar T p).run P w = .ok (.agg es.toArray) w := by
  have h1 := run_loadCells_list (P := P) (w := w) p es hp
  simp [loadVar, ha, hsz, h1]
/-- A load of one cell. -/
theorem s_load1 (ho : ops[i]? = some o) (hw : Region.wanted o (yl ops t) = true) {T : TypeId} {x : Operand} {p : Addr} {v : Value} (hop : o.op = .load T x) (hx : ev t x = .pointer (some p))
    (ha : ∀ w, (isAgg T).run P w = .ok false w) (hp : CellsAt w p [v]) (hk : G P f R (.inRegion ops rest :: k) (put t o.dst v) w) : G P f R (.inRegion ops (i :: rest) :: k) t w := by
  refine g_op (v := v) ho hw ?_ hk
  simp only [execOp, hop]
  exact run_value (by simp [Instr.loadAt, hx, Instr.sureAddr, run_loadVar_one (ha w) hp])
/-- A load of a struct or an array. -/
theorem s_loadA (ho : ops[i]? = some o) (hw : Region.wanted o (yl ops t) = true) {T : TypeId} {x : Operand} {p : Addr} {es : List Value} (hop : o.op = .load T x) (hx : ev t x = .pointer (some p))
    (ha : ∀ w, (isAgg T).run P w = .ok true w) {n : Nat} (hsz : ∀ w, (sizeOf T).run P w = .ok n w) (hn : es.length = n) (hp : CellsAt w p es)
    (hk : G P f R (.inRegion ops rest :: k) (put t o.dst (.agg es.toArray)) w) : G P f R (.inRegion ops (i :: rest) :: k) t w := by
  subst hn
  refine g_op (v := .agg es.toArray) ho hw ?_ hk
  simp only [execOp, hop]
  exact run_value (by simp [Instr.loadAt, hx, Instr.sureAddr, run_loadVar_agg (ha w) (hsz w) hp])

theorem turn_setRow {g : Nat} {cs : Array Value} : Turn [g] w (w.setRow g cs) :=
  ⟨rfl, rfl, rfl, by simp, fun b hb hF => setRow_other w g b cs (by simpa using hF)⟩
/-- A store into a variable of the call's own. -/
theorem s_store {b off : Nat} {cs : List Value} {E : TypeId} (h : St w0 (Cells b cs E :: Γ) w) (ho : ops[i]? = some o) (hw : Region.wanted o (yl ops t) = true) {T : TypeId} {a x : Operand} {vs cs' : List Value}
    (hop : o.op = .store T a x) (ha : ev t a = .pointer (some ⟨b, off, none⟩)) (hv : (ev t x).cells = vs.toArray) {n : Nat} (hsz : ∀ w, (sizeOf T).run P w = .ok n w) (hn : vs.length = n)
    (hfit : off + vs.length ≤ cs.length) (h1 : ∀ v ∈ vs, v.oneCell' = true) (hcs : cs.take off ++ vs ++ cs.drop (off + vs.length) = cs')
    (hk : ∀ w1, St w0 (Cells b cs' E :: Γ) w1 → G P f R (.inRegion ops rest :: k) (put t o.dst undef) w1) : G P f R (.inRegion ops (i :: rest) :: k) t w := by
  subst hn
  subst hcs
  obtain ⟨F, ⟨rfl, hb⟩, _⟩ := h.head
  have hr := run_storeCells_at P b off E vs 0 cs.toArray w hb (by simpa using hfit) h1
  refine g_op_skip (w' := w.setRow b (cs.take off ++ vs ++ cs.drop (off + vs.length)).toArray) ho hw ?_ (hk _ ?_)
  · simp only [execOp, hop]
    exact run_unit (by simp [Instr.storeAt, ha, Instr.sureAddr, storeVar, hv, hsz, hr])
  · refine h.turn fun F hF _ => ?_
    obtain ⟨rfl, hb'⟩ := hF
    exact ⟨turn_setRow, [b], ⟨rfl, setRow_heap w b cs.toArray _ E (0, 0) hb⟩, by simp, fun b hb => .inl hb⟩

/-- The address of a field. -/
theorem s_field {b off : Nat} (ho : ops[i]? = some o) (hw : Region.wanted o (yl ops t) = true) {v : Value} (hr : (execOp (ev t) o).run P w = .ok (.value v) w)
    (hk : G P f R (.inRegion ops rest :: k) (put t o.dst v) w) : G P f R (.inRegion ops (i :: rest) :: k) t w := g_op ho hw hr hk

/-- The address of a slice's element. -/
theorem s_indexAddr {α : Type} {κ : K α} {v : Value} {xs : List α} (hr : RdRow κ w v xs) (ho : ops[i]? = some o) (hw : Region.wanted o (yl ops t) = true) {T E : TypeId} {x ix : Operand} {q : IntKind} {n : Int}
    (hop : o.op = .indexAddr T x ix) (hx : ev t x = v) (hi : ev t ix = .int q n) (h0 : 0 ≤ n) (h1 : n < xs.length) (hT : P.underlying T = some (.slice E)) (hsz : ∀ w, (sizeOf E).run P w = .ok κ.n w)
    (hk : ∀ p es, CellsAt w p es → κ.rd w es (xs[n.toNat]'(by omega)) → p.block < w.heap.size → (∀ b N c, v = .slice (some ⟨b, 0, none⟩) N c → p = ⟨b, n.toNat * κ.n, none⟩) →
      G P f R (.inRegion ops rest :: k) (put t o.dst (.pointer (some p))) w) : G P f R (.inRegion ops (i :: rest) :: k) t w := by
  obtain ⟨A, cap, rfl, hc, he⟩ := hr
  obtain ⟨ad, es, rfl, hlt, hcell, hrd⟩ := he n.toNat (by omega)
  refine g_op (v := .pointer (some (ad.add (n.toNat * κ.n)))) ho hw ?_ (hk _ es ?_ hrd ?_ ?_)
  · simp only [execOp, hop]
    exact run_value (by simp [Instr.indexAt, hx, hi, asIntOf, run_underlying hT, h0, h1, hsz])
  · intro j u hj
    have : (ad.add (n.toNat * κ.n)).add j = ad.add (n.toNat * κ.n + j) := by
      unfold Addr.add
      by_cases e1 : n.toNat * κ.n = 0 <;> by_cases e2 : j = 0 <;> simp [e1, e2]
      · omega
    rw [this]
    exact hcell j u hj
  · unfold Addr.add; split <;> exact hlt
  · intro b N c e
    cases e
    unfold Addr.add
    split
    · simp [*]
    · simp

/-- The length of a slice. -/
theorem s_len {α : Type} {κ : K α} {v : Value} {xs : List α} (hr : RdRow κ w v xs) (ho : ops[i]? = some o) (hw : Region.wanted o (yl ops t) = true) {ty : TypeId} {x : Operand}
    (hop : o.op = .call { callee := .builtin .len, args := #[x], argTypes := #[ty] }) {E : TypeId} (hT : P.underlying ty = some (.slice E)) (hx : ev t x = v) (hk : G P f R (.inRegion ops rest :: k) (put t o.dst (.int .i64 xs.length)) w) :
    G P f R (.inRegion ops (i :: rest) :: k) t w := by
  obtain ⟨A, cap, rfl, hc, he⟩ := hr
  refine g_op (v := .int .i64 xs.length) ho hw ?_ hk
  simp [execOp, hop, resolve, hx, invoke, builtin, Builtin.len_, goInt, run_underlying hT]

/-- A store into an element of a row of the call's own. -/
theorem s_store_row {α : Type} {κ : K α} {enc : α → List Value} (fk : Flat κ enc) {v : Value} {xs : List α} {E : TypeId} (h : St w0 (Row E κ v xs :: Γ) w) (ho : ops[i]? = some o) (hw : Region.wanted o (yl ops t) = true)
    {T : TypeId} {a x : Operand} {y : α} {p : Addr} {n : Nat} (hop : o.op = .store T a x) (ha : ev t a = .pointer (some p)) (hp : ∀ b N c, v = .slice (some ⟨b, 0, none⟩) N c → p = ⟨b, n * κ.n, none⟩)
    (hn : n < xs.length) (hv : (ev t x).cells = (enc y).toArray) (hsz : ∀ w, (sizeOf T).run P w = .ok κ.n w)
    (hk : ∀ w1, St w0 (Row E κ v (xs.set n y) :: Γ) w1 → G P f R (.inRegion ops rest :: k) (put t o.dst undef) w1) : G P f R (.inRegion ops (i :: rest) :: k) t w := by
  obtain ⟨F, ⟨cs, F', rfl, how, hel⟩, _⟩ := h.head
  rcases how.2 with ⟨rfl, h0⟩ | ⟨g, cap, cur, rfl, hbg, hg, hnc, hcm, hcs, htake⟩
  · omega
  · have hlen := fk.len y
    obtain rfl := hp _ _ _ rfl
    have hb1 : n * κ.n + κ.n ≤ xs.length * κ.n := by rw [← Nat.succ_mul]; exact Nat.mul_le_mul_right _ hn
    have hb2 : xs.length * κ.n ≤ cap * κ.n := Nat.mul_le_mul_right _ hnc
    have hr := run_storeCells_at P g (n * κ.n) E (enc y) 0 cur w hg (by rw [hlen, hcs]; omega) (fk.one y)
    refine g_op_skip (w' := w.setRow g (cur.toList.take (n * κ.n) ++ enc y ++ cur.toList.drop (n * κ.n + (enc y).length)).toArray) ho hw ?_ (hk _ ?_)
    · simp only [execOp, hop]
      exact run_unit (by simp [Instr.storeAt, ha, Instr.sureAddr, storeVar, hv, hsz, hlen, hr])
    · refine h.turn fun F hF hnd => ?_
      obtain ⟨cs2, F2, rfl, how2, hel2⟩ := hF
      obtain ⟨rfl, rfl⟩ := Els.of_flat fk hel2
      refine ⟨Turn.mono turn_setRow (by simp [Value.ownBlock]), _, ⟨((xs.set n y).map enc).flatten, [], rfl, ⟨?_, .inr ⟨g, cap, _, by simp, hbg, setRow_heap w g cur _ E (0, 0) hg, by simpa using hnc, hcm, ?_, ?_⟩⟩, Els.flat fk _⟩, by simp [Value.ownBlock], fun b hb => .inl (by simpa using hb)⟩
      · exact (Els.flat (w := w) fk (xs.set n y)).len
      · simp only [List.size_toArray, List.length_append, List.length_take, List.length_drop, Array.length_toList, hlen, hcs]
        omega
      · have hold : (xs.map enc).flatten = cur.toList.take (xs.length * κ.n) := by
          have e2 := how2.2
          rcases e2 with ⟨hv2, _⟩ | ⟨g2, cap2, cur2, hv2, _, hg2, _, _, _, ht2⟩
          · simp at hv2
          · simp only [Value.slice.injEq, Option.some.injEq, Addr.mk.injEq, and_true, true_and] at hv2
            obtain ⟨rfl, rfl⟩ := hv2
            rw [hg] at hg2
            simp only [Option.some.injEq, Obj.cells.injEq, and_true] at hg2
            subst hg2
            exact ht2.symm
        have hfl : ∀ (l : List α), (l.map enc).flatten.length = l.length * κ.n := fun l => (Els.flat (w := w) fk l).len
        have hsplit : xs = xs.take n ++ xs[n] :: xs.drop (n + 1) := by simp
        have e1 : cur.toList.take (n * κ.n) = ((xs.take n).map enc).flatten := by
          have : cur.toList.take (n * κ.n) = (cur.toList.take (xs.length * κ.n)).take (n * κ.n) := by rw [List.take_take]; congr 1; omega
          rw [this, ← hold]
          conv => lhs; rw [hsplit]
          rw [List.map_append, List.flatten_append, List.take_left']
          rw [hfl, List.length_take, Nat.min_eq_left (by omega)]
        have e2 : (cur.toList.drop (n * κ.n + κ.n)).take (xs.length * κ.n - (n * κ.n + κ.n)) = ((xs.drop (n + 1)).map enc).flatten := by
          have : (cur.toList.drop (n * κ.n + κ.n)).take (xs.length * κ.n - (n * κ.n + κ.n)) = (cur.toList.take (xs.length * κ.n)).drop (n * κ.n + κ.n) := by rw [List.drop_take]
          rw [this, ← hold]
          conv => lhs; rw [hsplit]
          rw [List.map_append, List.flatten_append, List.map_cons, List.flatten_cons, ← List.append_assoc, List.drop_left']
          rw [List.length_append, hfl, fk.len, List.length_take, Nat.min_eq_left (by omega)]
        have hset : xs.set n y = xs.take n ++ y :: xs.drop (n + 1) := by rw [List.set_eq_take_append_cons_drop, if_pos hn]
        rw [hlen, List.length_set, hset, List.map_append, List.flatten_append, List.map_cons, List.flatten_cons, ← e1, ← e2]
        simp only [List.append_assoc]
        have hcl : cur.toList.length = cap * κ.n := by simpa using hcs
        rw [List.take_append, List.take_append, List.take_take]
        have l1 : (cur.toList.take (n * κ.n)).length = n * κ.n := by rw [List.length_take]; omega
        rw [l1]
        congr 1
        · congr 1; omega
        · rw [hlen]
          congr 1
          · rw [List.take_of_length_le (by rw [hlen]; omega)]
          · congr 1
            omega

/-- A call of a Go function: how the operation runs. -/
theorem x_call {g : FuncId} {as : List Operand} {tys : Array TypeId} {args : List Value} (hop : o.op = .call { callee := .value (.func g), args := as.toArray, argTypes := tys })
    (hg : ∀ args w, (callFunc g args).run P w = .ok (.enter g args) w) (ha : as.map (ev t) = args) : (execOp (ev t) o).run P w = .ok (.enter g args.toArray) w := by
  subst ha
  simp [execOp, hop, resolve, ev, Deferred.ofValue, invoke, hg]
theorem made_eq (zc : List Value) : ∀ m, (madeCells zc.toArray (m * zc.length)).toList = (List.replicate m zc).flatten := by
  have key : ∀ m, (List.range (m * zc.length)).map (fun j => zc.toArray[j % zc.toArray.size]!) = (List.replicate m zc).flatten := by
    intro m
    induction m with
    | zero => simp
    | succ m ih =>
      rw [Nat.succ_mul, List.range_add, List.map_append, ih, List.replicate_succ', List.flatten_append]
      congr 1
      apply List.ext_getElem?
      intro j
      by_cases hj : j < zc.length
      · simp [hj, Nat.mod_eq_of_lt hj]
      · simp [hj]
  intro m
  rw [← key m]
  simp [madeCells]
theorem callFunc_enter {g : FuncId} {fn : Func} (hf : P.funcs[g]? = some fn) (hn : (fn.name == "runtime.NumGoroutine") = false) (hb : fn.body.isNone = false) : ∀ args w, (callFunc g args).run P w = .ok (.enter g args) w := by
  intro args w
  have hn' : ¬ fn.name = "runtime.NumGoroutine" := by simpa using hn
  have hb' : ¬ fn.body = none := by intro e; simp [e] at hb
  simp [callFunc, hf, hn', hb']

/-- make([]E, n). -/
theorem s_make {α : Type} {κ : K α} {z : α} {zc : List Value} (h : St w0 Γ w) (ho : ops[i]? = some o) (hw : Region.wanted o (yl ops t) = true) {T E : TypeId} {x y : Operand} {q q' : IntKind} {n : Int} {inf : TypeInfo} {zv : Value}
    (hop : o.op = .makeSlice T x y) (hx : ev t x = .int q n) (hy : ev t y = .int q' n) (h0 : 0 ≤ n) (hT : P.underlying T = some (.slice E)) (hi : P.info? E = some inf) (hz : inf.zero = some zv) (hzc : zv.cells = zc.toArray)
    (hs : inf.size = κ.n) (hzo : ∀ w, κ.own [] w zc z) {B : Nat} (hby : inf.bytes = B) (hB : 0 < B) (hn : n * B ≤ 281474976710656)
    (hk : ∀ v w1, St w0 (Row E κ v (List.replicate n.toNat z) :: Γ) w1 → G P f R (.inRegion ops rest :: k) (put t o.dst v) w1) : G P f R (.inRegion ops (i :: rest) :: k) t w := by
  obtain ⟨m, rfl⟩ : ∃ m : Nat, n = (m : Int) := ⟨n.toNat, by omega⟩
  subst hby
  have hm : m * inf.bytes ≤ 281474976710656 := by
    have : ((m * inf.bytes : Nat) : Int) ≤ 281474976710656 := by rw [Int.natCast_mul]; exact hn
    omega
  have hm' : m ≤ 281474976710656 := Nat.le_trans (Nat.le_mul_of_pos_right _ hB) hm
  obtain ⟨w', hr, how, hgr⟩ := run_make_full (P := P) w 0 T E inf zv κ.n hT hi hz hs q q' m (by rw [Nat.mul_comm]; exact hm) (by unfold maxLen; omega) (Nat.zero_le _)
  have hzl : zc.length = κ.n := κ.len (κ.see (hzo w))
  have hcells : ∀ m, (madeCells zv.cells (m * κ.n)).toList = (List.replicate m zc).flatten := by
    intro m; rw [hzc, ← hzl]; exact made_eq zc m
  have hels : ∀ m, Els κ w' [] (List.replicate m zc).flatten (List.replicate m z) := by
    intro m
    induction m with
    | zero => exact .nil
    | succ m ih => exact Els.cons (F1 := []) (hzo w') ih
  refine g_op (v := .slice (some ⟨w.heap.size, 0, none⟩) m m) (w' := w') ho hw ?_ (hk _ _ ?_)
  · simp only [execOp, hop]
    exact run_value (by rw [hx, hy]; exact hr)
  · refine h.new (Turn.mono (Turn.of_grown hgr) (by simp)) (F' := [w.heap.size]) ⟨(madeCells zv.cells (m * κ.n)).toList, [], rfl, ?_, ?_⟩ (by simp) (by simp)
    · simp only [Int.toNat_natCast, List.length_replicate]
      exact how
    · rw [hcells, Int.toNat_natCast]; exact hels m

/-- append(s, ys...), the elements flat, ys whatever reads so. -/
theorem s_append {α : Type} {κ : K α} {enc : α → List Value} (fk : Flat κ enc) {E : TypeId} {v u : Value} {xs ys : List α} (h : St w0 (Row E κ v xs :: Γ) w) (hy : RdRow κ w u ys)
    (ho : ops[i]? = some o) (hw : Region.wanted o (yl ops t) = true) {T : TypeId} {x y : Operand} {inf : TypeInfo} {zv : Value}
    (hop : o.op = .call { callee := .builtin .append, args := #[x, y], argTypes := #[T, T] }) (hx : ev t x = v) (hyv : ev t y = u)
    (hT : P.underlying T = some (.slice E)) (hi : P.info? E = some inf) (hz : inf.zero = some zv) (hzs : zv.cells.size = κ.n) (hpos : 0 < κ.n)
    (hs : inf.size = κ.n) {B : Nat} (hby : inf.bytes = B) (hB : 0 < B) (hn : (xs.length + ys.length) * B ≤ 140737488355328)
    (hk : ∀ v' w1, St w0 (Row E κ v' (xs ++ ys) :: Γ) w1 → G P f R (.inRegion ops rest :: k) (put t o.dst v') w1) : G P f R (.inRegion ops (i :: rest) :: k) t w := by
  subst hby
  obtain ⟨F, ⟨cs, F', rfl, how, hel⟩, _⟩ := h.head
  obtain ⟨rfl, rfl⟩ := Els.of_flat fk hel
  have hfl : ∀ (l : List α), (l.map enc).flatten.length = l.length * κ.n := fun l => (Els.flat (w := w) fk l).len
  obtain ⟨A, cap, rfl, hc, he⟩ := hy
  have hm' : xs.length + ys.length ≤ 140737488355328 := Nat.le_trans (Nat.le_mul_of_pos_right _ hB) hn
  -- what the append comes to
  have key : ∃ v' w', (Builtin.append_ #[T, T] o.type #[v, .slice A ys.length cap]).run P w = .ok v' w' ∧ w'.ownsRow 0 E κ.n v' (xs.length + ys.length) ((xs.map enc).flatten ++ (ys.map enc).flatten) ∧ w.grownBy w' v.ownBlock ∧
      (∀ b, v'.ownBlock = some b → v.ownBlock = some b ∨ w.heap.size ≤ b) := by
    have hys : (ys.map enc).flatten.length = ys.length * κ.n := hfl ys
    by_cases h0 : ys.length = 0
    · -- nothing is appended
      have hy0 : ys = [] := List.eq_nil_of_length_eq_zero h0
      subst hy0
      refine ⟨v, w, ?_, by simpa using how, ⟨rfl, rfl, rfl, Nat.le_refl _, fun _ _ _ => rfl⟩, fun b hb => .inl hb⟩
      have hfc : ∀ s, (Builtin.firstCells s 0 (.slice A 0 cap)).run P w = .ok #[] w := by
        intro s
        cases A <;> simp [Builtin.firstCells, loadCells, loadCellsFrom]
      rcases how.2 with ⟨rfl, hl0⟩ | ⟨g, c2, cur, rfl, _, _, hnc, _⟩
      · simp [Builtin.append_, run_underlying hT, sizeOf, typeInfo, hi, Builtin.lenOf, hfc]
      · simp [Builtin.append_, run_underlying hT, sizeOf, typeInfo, hi, Builtin.lenOf, hfc, hnc, storeCells]
    · obtain ⟨ad, es, rfl, _⟩ := he 0 (by omega)
      have hnews : ∀ j u, (ys.map enc).flatten[j]? = some u → w.cell? (ad.add j) = some u := by
        have gen : ∀ (zs : List α) (off : Nat), (∀ i (hi : i < zs.length), ∀ j u, (enc zs[i])[j]? = some u → w.cell? (ad.add ((off + i) * κ.n + j)) = some u) →
            ∀ j u, (zs.map enc).flatten[j]? = some u → w.cell? (ad.add (off * κ.n + j)) = some u := by
          intro zs
          induction zs with
          | nil => intro off _ j u hj; simp at hj
          | cons z zs ih =>
            intro off hz j u hj
            rw [List.map_cons, List.flatten_cons] at hj
            by_cases hlt : j < (enc z).length
            · rw [List.getElem?_append_left hlt] at hj
              have := hz 0 (by simp) j u hj
              simpa using this
            · rw [List.getElem?_append_right (by omega)] at hj
              have h2 := ih (off + 1) (fun i hi j u hj => by
                have := hz (i + 1) (by simpa using hi) j u hj
                rw [show off + 1 + i = off + (i + 1) from by omega]
                exact this) _ u hj
              rw [fk.len] at h2 hlt
              rw [show (off + 1) * κ.n + (j - κ.n) = off * κ.n + j from by rw [Nat.succ_mul]; omega] at h2
              exact h2
        have := gen ys 0 (fun i hi j u hj => by
          obtain ⟨ad', es', e, _, hc', hr'⟩ := he i hi
          cases e
          have := fk.rd.1 hr'
          subst this
          rw [Nat.zero_add]
          exact hc' j u hj)
        intro j u hj
        have h3 := this j u hj
        simpa using h3
      have h1 : ∀ u ∈ (ys.map enc).flatten, u.oneCell' = true := (Els.flat (w := w) fk ys).one
      obtain ⟨v', w', hr, how', hgr, _, hloc⟩ := run_append_own_at (P := P) w 0 T o.type E inf zv κ.n inf.bytes hT hi hz hs rfl hzs hpos v xs.length _ how ad ys.length cap _ hys hnews h1 (by unfold maxLen; omega) hn (Nat.zero_le _)
      refine ⟨v', w', hr, how', hgr, fun b hb => ?_⟩
      rcases hloc with e | e
      · exact .inl (by rw [← e]; exact hb)
      · right
        rw [e] at hb
        cases hb
        exact Nat.le_refl _
  obtain ⟨v', w', hr, how', hgr, hblk⟩ := key
  refine g_op (v := v') (w' := w') ho hw ?_ (hk _ _ ?_)
  · simp only [execOp, hop, resolve]
    simp [invoke, builtin, hx, hyv]
    rw [hr]; rfl
  · refine h.turn fun F hF hnd => ?_
    obtain ⟨cs2, F2, rfl, how2, hel2⟩ := hF
    obtain ⟨rfl, rfl⟩ := Els.of_flat fk hel2
    refine ⟨Turn.mono (Turn.of_grown hgr) (by simp), _, ⟨((xs ++ ys).map enc).flatten, [], rfl, by rw [List.length_append, List.map_append, List.flatten_append]; exact how', Els.flat fk _⟩, by cases v'.ownBlock <;> simp, fun b hb => ?_⟩
    simp only [List.append_nil, Option.mem_toList] at hb
    rcases hblk b hb with h | h
    · exact .inl (by simp [h])
    · exact .inr h
end
end Go.Proofs.YtgpdpedpmhonkaaX
