/- The judgement G: from a frame with a list of things to do the call comes to an end that R allows. Direct style: one lemma a step of the machine. -/
import Derived.Calls
import Derived.RowKit3
import Derived.Below
namespace Go.Proofs.YtgpdpedpmhonkaaX
open Go Go.RowKit
set_option linter.unusedVariables false

/-- The frame of a call of function f, at tmps and a list of things to do. -/
def fr0 (f : FuncId) : Frame := { (default : Frame) with fn := f, kind := .normal }

/-- From here the call comes to an end that R allows. -/
def G (P : Program) (f : FuncId) (R : Ending → World → Prop) (todo : List Item) (t : List Value) (w : World) : Prop :=
  ∀ cs, ∃ e w' fr, R e w' ∧ Comes P (lone ((fr0 f).at ⟨t.toArray, []⟩ todo) cs w) (lone fr cs w') e ∧ fr.fn = f ∧ fr.leaving P w' e

section
variable {P : Program} {f : FuncId} {R : Ending → World → Prop} {k : List Item} {t : List Value} {w : World}

theorem G.mono {R' : Ending → World → Prop} (h : G P f R k t w) (hr : ∀ e w, R e w → R' e w) : G P f R' k t w :=
  fun cs => let ⟨e, w', fr, r, rest⟩ := h cs; ⟨e, w', fr, hr _ _ r, rest⟩

theorem G.of_step {k' : List Item} {t' : List Value} {w' : World}
    (hs : ∀ cs, step P (lone ((fr0 f).at ⟨t.toArray, []⟩ k) cs w) = .next (lone ((fr0 f).at ⟨t'.toArray, []⟩ k') cs w'))
    (h : G P f R k' t' w') : G P f R k t w := by
  intro cs
  obtain ⟨e, w2, fr, r, hc, rest⟩ := h cs
  exact ⟨e, w2, fr, r, Comes.of_steps (.one (hs cs)) hc, rest⟩

theorem g_skip (h : G P f R k t w) : G P f R (.code .skip :: k) t w := h.of_step fun _ => step_skip
theorem g_inBlock {id : Nat} (h : G P f R k t w) : G P f R (.inBlock id :: k) t w := h.of_step fun _ => step_inBlock
theorem g_seq {x y : Code} (h : G P f R (.code x :: .code y :: k) t w) : G P f R (.code (.seq x y) :: k) t w := h.of_step fun _ => step_seq
theorem g_block {id : Nat} {c : Code} (h : G P f R (.code c :: .inBlock id :: k) t w) : G P f R (.code (.block id c) :: k) t w := h.of_step fun _ => step_block
theorem g_loop {c : Code} (h : G P f R (.code c :: .inLoop c :: k) t w) : G P f R (.code (.loop c) :: k) t w := h.of_step fun _ => step_loop
theorem g_inLoop {c : Code} (h : G P f R (.code c :: .inLoop c :: k) t w) : G P f R (.inLoop c :: k) t w := h.of_step fun _ => step_inLoop
theorem g_exit {id : Nat} {k' : List Item} (e : exitTo id k = some k') (h : G P f R k' t w) : G P f R (.code (.exit id) :: k) t w := h.of_step fun _ => step_exit e
theorem g_region {id : Nat} {ops : Array Oper} (h : G P f R (.inRegion ops (List.range ops.size) :: k) t w) : G P f R (.code (.region id ops false) :: k) t w :=
  h.of_step fun _ => step_region
theorem g_region_draw {id : Nat} {ops : Array Oper}
    (h : ∀ s, G P f R (.inRegion ops (Region.schedule (P.follows .mixedOrders) ops s) :: k) t { w with drawn := w.drawn + 1 }) : G P f R (.code (.region id ops true) :: k) t w :=
  (h _).of_step fun _ => step_region_draw
theorem g_ops_nil {ops : Array Oper} (h : G P f R k t w) : G P f R (.inRegion ops [] :: k) t w := h.of_step fun _ => step_region_end

/-- The value of an operand. -/
def ev (t : List Value) : Operand → Value
  | .tmp i => t.getD i undef
  | .const v => v
  | .global g => .pointer (some ⟨g, 0, none⟩)
  | .func f => .func (.func f) #[] #[]
theorem ev_eq (t : List Value) : Act.eval ⟨t.toArray, []⟩ = ev t := by
  funext x; cases x <;> simp [Act.eval, ev, Array.getD_eq_getD_getElem?, List.getD]

/-- A slot's new value. -/
def put (t : List Value) : Option Tmp → Value → List Value
  | some d, v => t.set d v
  | none, _ => t
theorem put_eq (t : List Value) (d : Option Tmp) (v : Value) : Act.put ⟨t.toArray, []⟩ d v = ⟨(put t d v).toArray, []⟩ := by
  cases d <;> simp [Act.put, put]

def yl (ops : Array Oper) (t : List Value) (i : Nat) : Option Bool := yielded ops t.toArray i

theorem g_cond {c : Operand} {x y : Code} {b : Bool} (hc : ev t c = .bool b) (h : G P f R (.code (if b then x else y) :: k) t w) : G P f R (.code (.cond c x y) :: k) t w :=
  h.of_step fun _ => step_cond (by rw [ev_eq]; exact hc)
theorem g_cond_true {c : Operand} {x y : Code} (hc : ev t c = .bool true) (h : G P f R (.code x :: k) t w) : G P f R (.code (.cond c x y) :: k) t w := g_cond hc h
theorem g_cond_false {c : Operand} {x y : Code} (hc : ev t c = .bool false) (h : G P f R (.code y :: k) t w) : G P f R (.code (.cond c x y) :: k) t w := g_cond hc h

/-- An operation that yields a value. -/
theorem g_op {ops : Array Oper} {i : Nat} {rest : List Nat} {o : Oper} {v : Value} {w' : World} (ho : ops[i]? = some o)
    (hw : Region.wanted o (yl ops t) = true) (hr : (execOp (ev t) o).run P w = .ok (.value v) w')
    (h : G P f R (.inRegion ops rest :: k) (put t o.dst v) w') : G P f R (.inRegion ops (i :: rest) :: k) t w := by
  refine h.of_step fun cs => ?_
  have hg := stepG_op (P := P) (b := fr0 f) (a := ⟨t.toArray, []⟩) (k := k) (cs := cs) (w := w) (rest := rest) ho hw
  refine step_lone_go ?_
  rw [← put_eq]
  have hfin : ((fr0 f).at ⟨t.toArray, []⟩ (.inRegion ops (i :: rest) :: k)).finish v = (fr0 f).at (Act.put ⟨t.toArray, []⟩ o.dst v) (.inRegion ops rest :: k) := by
    rw [Frame.finish_at, ho]; rfl
  rw [hg, ← hfin, ev_eq]; simp [stepG.apply, hr]
/-- An operation that yields nothing (a store). -/
theorem g_op_skip {ops : Array Oper} {i : Nat} {rest : List Nat} {o : Oper} {w' : World} (ho : ops[i]? = some o)
    (hw : Region.wanted o (yl ops t) = true) (hr : (execOp (ev t) o).run P w = .ok .skip w')
    (h : G P f R (.inRegion ops rest :: k) (put t o.dst undef) w') : G P f R (.inRegion ops (i :: rest) :: k) t w := by
  refine h.of_step fun cs => ?_
  have hg := stepG_op (P := P) (b := fr0 f) (a := ⟨t.toArray, []⟩) (k := k) (cs := cs) (w := w) (rest := rest) ho hw
  refine step_lone_go ?_
  rw [← put_eq]
  have hfin : ((fr0 f).at ⟨t.toArray, []⟩ (.inRegion ops (i :: rest) :: k)).finish undef = (fr0 f).at (Act.put ⟨t.toArray, []⟩ o.dst undef) (.inRegion ops rest :: k) := by
    rw [Frame.finish_at, ho]; rfl
  rw [hg, ← hfin, ev_eq]; simp [stepG.apply, hr]
/-- An operation whose guard says no. -/
theorem g_op_not {ops : Array Oper} {i : Nat} {rest : List Nat} {o : Oper} (ho : ops[i]? = some o) (hw : Region.wanted o (yl ops t) = false)
    (h : G P f R (.inRegion ops rest :: k) (put t o.dst undef) w) : G P f R (.inRegion ops (i :: rest) :: k) t w := by
  refine h.of_step fun cs => ?_
  have hs := step_op_skip (P := P) (b := fr0 f) (a := ⟨t.toArray, []⟩) (k := k) (cs := cs) (w := w) (ops := ops) (i := i) (rest := rest) (by simp only [ho, Option.map_some, Option.getD_some]; exact hw)
  simp only [ho, Option.bind_some] at hs
  rw [← put_eq]
  exact hs
/-- A call of a Go function. -/
theorem g_call {ops : Array Oper} {i : Nat} {rest : List Nat} {o : Oper} {g : FuncId} {args : Array Value} {w1 : World} {R' : Value → World → Prop} (ho : ops[i]? = some o)
    (hw : Region.wanted o (yl ops t) = true) (hr : (execOp (ev t) o).run P w = .ok (.enter g args) w1)
    (hc : Calls P g args w1 fun e w' => ∃ v, e = .returned v ∧ R' v w')
    (h : ∀ v w', R' v w' → G P f R (.inRegion ops rest :: k) (put t o.dst v) w') : G P f R (.inRegion ops (i :: rest) :: k) t w := by
  intro cs
  have hg := stepG_op (P := P) (b := fr0 f) (a := ⟨t.toArray, []⟩) (k := k) (cs := cs) (w := w) (rest := rest) ho hw
  obtain ⟨e, w'', fr, ⟨v, rfl, hR⟩, hsteps, _, hleave⟩ := hc ((fr0 f).at ⟨t.toArray, []⟩ (.inRegion ops (i :: rest) :: k) :: cs)
  have henter : step P (lone ((fr0 f).at ⟨t.toArray, []⟩ (.inRegion ops (i :: rest) :: k)) cs w) =
      .next (lone (Frame.enter P g args .normal) ((fr0 f).at ⟨t.toArray, []⟩ (.inRegion ops (i :: rest) :: k) :: cs) w1) :=
    step_lone_go (by rw [hg, ev_eq]; simp [stepG.apply, hr, Frame.at])
  have hfin : ((fr0 f).at ⟨t.toArray, []⟩ (.inRegion ops (i :: rest) :: k)).finish v = (fr0 f).at (Act.put ⟨t.toArray, []⟩ o.dst v) (.inRegion ops rest :: k) := by
    rw [Frame.finish_at, ho]; rfl
  obtain ⟨e2, w2, fr2, r2, hc2, rest2⟩ := h v w'' hR cs
  refine ⟨e2, w2, fr2, r2, Comes.of_steps ?_ hc2, rest2⟩
  have hl := step_leave_returned (cs := cs) (c := (fr0 f).at ⟨t.toArray, []⟩ (.inRegion ops (i :: rest) :: k)) hleave
  rw [hfin, put_eq] at hl
  exact .head henter (hsteps.trans (.one hl))

/-- The function's end. -/
theorem g_ret {fn : Func} {v : Value} (hf : P.funcs[f]? = some fn) (hr : (results fn t.toArray).run P w = .ok v w) (h : R (.returned v) w) : G P f R (.code .ret :: k) t w :=
  fun cs => ⟨.returned v, w, _, h, .one step_ret, rfl, rfl, rfl, rfl, fn, hf, hr⟩
theorem g_end {fn : Func} {v : Value} (hf : P.funcs[f]? = some fn) (hr : (results fn t.toArray).run P w = .ok v w) (h : R (.returned v) w) : G P f R [] t w :=
  fun cs => ⟨.returned v, w, _, h, .one step_end, rfl, rfl, rfl, rfl, fn, hf, hr⟩
end

/-- A call, by its body. -/
theorem calls_of_g {P : Program} {f : FuncId} {fn : Func} {c : Code} {args : List Value} {w : World} {R : Ending → World → Prop} {n : Nat}
    (hf : P.funcs[f]? = some fn) (hb : fn.body = some c) (hn : fn.ntmps - args.length = n)
    (h : G P f R [.code c] (args ++ List.replicate n undef) w) : Calls P f args.toArray w R := by
  intro cs
  have henter : Frame.enter P f args.toArray .normal = (fr0 f).at ⟨(args ++ List.replicate n undef).toArray, []⟩ [.code c] := by
    subst hn
    simp [Frame.enter, Frame.at, hf, hb, fr0]
  rw [henter]
  exact h cs
end Go.Proofs.YtgpdpedpmhonkaaX
