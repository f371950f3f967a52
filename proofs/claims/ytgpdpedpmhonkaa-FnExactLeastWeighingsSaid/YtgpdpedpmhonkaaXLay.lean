/- A region that draws its order, taken in layers: where one operation only may run next, it is stepped alone. -/
import Derived.Test.YtgpdpedpmhonkaaXMut
namespace Go.Proofs.YtgpdpedpmhonkaaX
open Go Go.RowKit
set_option linter.unusedVariables false
set_option linter.unusedSimpArgs false
set_option linter.unusedSectionVars false

section
variable {P : Program} {f : FuncId} {R : Ending → World → Prop} {k : List Item} {t : List Value} {w : World} {ops : Array Oper}
def prd (ops : Array Oper) (i : Nat) : List Nat := ((ops[i]?).map predsOf).getD []
/-- 'rest' is an order in which the operations that are not done may run. -/
inductive Ord (ops : Array Oper) : (Nat → Bool) → List Nat → Prop
  | nil {D : Nat → Bool} (h : ∀ i, i < ops.size → D i = true) : Ord ops D []
  | cons {D : Nat → Bool} {i : Nat} {rest : List Nat} (hi : i < ops.size) (hD : D i = false) (hp : ∀ e ∈ prd ops i, D e = true) (h : Ord ops (upd D i) rest) : Ord ops D (i :: rest)

theorem ord_tail (m : Region.Mode) (rk : List Nat) (hback : backB ops m rk = true) :
    ∀ (fuel : Nat) (s : Nat) (listed : Array Bool), listed.size = ops.size → (listed.toList.filter (fun b => !b)).length ≤ fuel → Ord ops (fun i => listed.getD i true) (goTail m ops fuel s listed) := by
  have hb : ∀ i (o : Oper), ops[i]? = some o → ∀ e ∈ o.after.toList, Region.binds m e = true → rk.getD e.on 0 < rk.getD i 0 ∧ e.on < ops.size := by
    intro i o ho e he hm
    have h1 := List.all_eq_true.1 hback (o, i) (by
      rw [List.mem_iff_getElem?]
      refine ⟨i, ?_⟩
      simp [List.getElem?_zipIdx]
      simpa using ho)
    have h2 := List.all_eq_true.1 h1 e he
    simpa [hm] using h2
  intro fuel
  induction fuel with
  | zero =>
    intro s listed hsz hc
    simp only [goTail]
    refine .nil fun i hi => ?_
    have hnil : listed.toList.filter (fun b => !b) = [] := List.eq_nil_of_length_eq_zero (by omega)
    have hi' : i < listed.size := by omega
    have := List.filter_eq_nil_iff.1 hnil (listed[i]) (by simp)
    simpa [Array.getD, hi'] using this
  | succ fuel ih =>
    intro s listed hsz hc
    simp only [goTail]
    generalize hrs : ((List.range ops.size).filter fun i => !listed.getD i true && ((ops[i]?).map (·.after.all fun e => !Region.binds m e || listed.getD e.on false)).getD false) = rs
    split
    · rename_i i hi
      have hmem : i ∈ rs := List.mem_of_getElem? hi
      rw [← hrs, List.mem_filter, List.mem_range] at hmem
      obtain ⟨hlt, hready⟩ := hmem
      simp only [Bool.and_eq_true, Bool.not_eq_true'] at hready
      obtain ⟨h1, h2⟩ := hready
      have ho : ops[i]? = some ops[i] := Array.getElem?_eq_getElem hlt
      refine .cons hlt h1 ?_ ?_
      · intro e he
        unfold prd at he
        rw [ho] at he h2
        simp only [Option.map_some, Option.getD_some, predsOf, List.mem_map, List.mem_filter] at he h2
        obtain ⟨ed, ⟨hed, hbd⟩, rfl⟩ := he
        rw [Array.all_eq_true] at h2
        obtain ⟨j, hj, rfl⟩ := List.mem_iff_getElem.1 hed
        have h3 := h2 j (by simpa using hj)
        have hbm : Region.binds m (ops[i].after.toList[j]) = true := by
          revert hbd
          simp only [Region.binds]
          cases (ops[i].after.toList[j]).ground <;> simp
        simp only [Array.getElem_toList] at hbm ⊢
        rw [hbm] at h3
        simp only [Bool.not_true, Bool.false_or] at h3
        have hlt2 : (ops[i].after[j]).on < listed.size := by
          rcases Nat.lt_or_ge (ops[i].after[j]).on listed.size with h | h
          · exact h
          · rw [Array.getD, dif_neg (by omega)] at h3; cases h3
        rw [Array.getD, dif_pos hlt2] at h3 ⊢
        exact h3
      · have : (fun j => (listed.setIfInBounds i true).getD j true) = upd (fun j => listed.getD j true) i := by
          funext j
          simp only [upd, Array.getD_eq_getD_getElem?, Array.getElem?_setIfInBounds]
          by_cases e : i = j
          · subst e
            by_cases hl : i < listed.size <;> simp [hl]
          · have e' : ¬ j = i := fun h => e h.symm
            simp [e, e']
        rw [← this]
        refine ih _ _ (by simpa using hsz) ?_
        have hil : i < listed.size := by omega
        have hfi : listed[i] = false := by simpa [Array.getD, hil] using h1
        have : ((listed.setIfInBounds i true).toList.filter (fun b => !b)).length + 1 = (listed.toList.filter (fun b => !b)).length := by
          have key : ∀ (l : List Bool) (i : Nat), l[i]? = some false → ((l.set i true).filter (fun b => !b)).length + 1 = (l.filter (fun b => !b)).length := by
            intro l
            induction l with
            | nil => intro i h; simp at h
            | cons a l ihl =>
              intro i h
              cases i with
              | zero => simp at h; subst h; simp
              | succ i =>
                have := ihl i (by simpa using h)
                simp only [List.set_cons_succ]
                cases a <;> simp [List.filter_cons] <;> omega
          simpa using key listed.toList i (by simp [hil, hfi])
        omega
    · rename_i hi
      have hnil : rs = [] := by
        cases hr : rs with
        | nil => rfl
        | cons a l =>
          rw [hr] at hi
          have := Nat.mod_lt s (show 0 < (a :: l).length by simp)
          rw [List.getElem?_eq_none_iff] at hi
          omega
      refine .nil fun i hi' => ?_
      generalize hrk : rk.getD i 0 = q
      induction q using Nat.strongRecOn generalizing i with
      | _ q ihi =>
        cases hd : listed.getD i true with
        | true => rfl
        | false =>
          exfalso
          have ho : ops[i]? = some ops[i] := Array.getElem?_eq_getElem hi'
          have : i ∈ rs := by
            rw [← hrs, List.mem_filter, List.mem_range]
            refine ⟨hi', ?_⟩
            rw [ho]
            simp only [hd, Bool.not_false, Option.map_some, Option.getD_some, Bool.true_and, Array.all_eq_true]
            intro j hj
            cases hbm : Region.binds m ops[i].after[j] with
            | false => rfl
            | true =>
            obtain ⟨hlt, hlt3⟩ := hb i _ ho (ops[i].after[j]) (by simp) hbm
            have h4 := ihi _ (by omega) _ hlt3 rfl
            have hlt2 : (ops[i].after[j]).on < listed.size := by omega
            rw [Array.getD, dif_pos hlt2] at h4
            rw [Array.getD, dif_pos hlt2]
            show (!true || listed[(ops[i].after[j]).on]) = true
            have h5 : listed[(ops[i].after[j]).on] = true := h4
            rw [h5, Bool.or_true]
          rw [hnil] at this
          cases this

/-- The done operations as a number. -/
abbrev OrdM (ops : Array Oper) (n : Nat) (m : Nat) (rest : List Nat) : Prop := Ord ops (fun j => m.testBit j || decide (n ≤ j)) rest

/-- A region that draws: any order. -/
theorem g_lay {id : Nat} {n : Nat} (hn : ops.size = n) (r1 r2 : List Nat) (hb1 : backB ops .text r1 = true) (hb2 : backB ops .gc r2 = true)
    (h : ∀ rest w', w'.heap = w.heap → Below w.heap.size w w' → OrdM ops n 0 rest → G P f R (.inRegion ops rest :: k) t w') : G P f R (.code (.region id ops true) :: k) t w := by
  subst hn
  refine g_region_draw fun s => ?_
  have hb0 : backB ops .any r1 = true := by
    unfold backB at hb1 ⊢
    rw [List.all_eq_true] at hb1 ⊢
    intro x hx
    have h1 := hb1 x hx
    rw [List.all_eq_true] at h1 ⊢
    intro e he
    have h2 := h1 e he
    revert h2
    simp only [Region.binds]
    cases e.ground <;> simp
  have key : ∀ m rk s', backB ops m rk = true → G P f R (.inRegion ops (Region.linearise m ops s') :: k) t { w with drawn := w.drawn + 1 } := by
    intro m rk s' hback
    have e : Region.linearise m ops s' = goTail m ops ops.size s' (Array.replicate ops.size false) := by
      unfold Region.linearise
      rw [go_tail]; simp
    rw [e]
    refine h _ { w with drawn := w.drawn + 1 } rfl ⟨rfl, rfl, rfl, Nat.le_refl _, fun _ _ => rfl⟩ ?_
    have q := ord_tail m rk hback ops.size s' (Array.replicate ops.size false) (by simp) (by
      refine Nat.le_trans (List.length_filter_le _ _) (by simp))
    have e0 : (fun i => (Array.replicate ops.size false).getD i true) = fun j => (0 : Nat).testBit j || decide (ops.size ≤ j) := by
      funext i
      by_cases hi : i < ops.size
      · simp [hi, Array.getD, Nat.not_le.2 hi]
      · simp [hi, Array.getD, Nat.le_of_not_lt hi]
    rw [e0] at q
    exact q
  unfold Region.schedule
  split
  · exact key _ _ _ hb0
  · split
    · exact key _ _ _ hb1
    · exact key _ _ _ hb2

/-- Only operation i may run next. -/
def onlyB (ops : Array Oper) (n m i : Nat) : Bool :=
  !m.testBit i && decide (i < n) && (List.range n).all fun j => m.testBit j || j == i || !((prd ops j).all fun e => m.testBit e || decide (n ≤ e))
theorem upd_mask {n m i : Nat} : upd (fun j => m.testBit j || decide (n ≤ j)) i = fun j => (m ||| 1 <<< i).testBit j || decide (n ≤ j) := by
  funext j
  simp only [upd, Nat.testBit_or, Nat.one_shiftLeft, Nat.testBit_two_pow]
  by_cases h : j = i
  · subst h; simp
  · have h' : ¬ i = j := fun e => h e.symm
    simp [h, h']
theorem ord_one {n m : Nat} {rest : List Nat} (h : OrdM ops n m rest) (hn : ops.size = n) (i : Nat) {m' : Nat} (ho : onlyB ops n m i = true) (hm : m ||| 1 <<< i = m') : ∃ rest', rest = i :: rest' ∧ OrdM ops n m' rest' := by
  subst hn hm
  simp only [onlyB, Bool.and_eq_true, Bool.not_eq_true', decide_eq_true_eq, List.all_eq_true, List.mem_range, Bool.or_eq_true, beq_iff_eq, Bool.not_eq_true'] at ho
  obtain ⟨⟨h1, h2⟩, h3⟩ := ho
  cases h with
  | nil hd =>
    have := hd i h2
    simp [h1, Nat.not_le.2 h2] at this
  | @cons _ j rest hi hD hp hrest =>
    have hj : j = i := by
      rcases h3 j hi with h | h
      · rcases h with h | h
        · simp [h] at hD
        · exact h
      · exfalso
        rw [List.all_eq_false] at h
        obtain ⟨e, he, hf⟩ := h
        exact hf (hp e he)
    subst hj
    refine ⟨_, rfl, ?_⟩
    unfold OrdM
    rw [← upd_mask]
    exact hrest
theorem ord_end {n m : Nat} {rest : List Nat} (h : OrdM ops n m rest) (hn : ops.size = n) (ho : ((List.range n).all fun j => m.testBit j) = true) : rest = [] := by
  subst hn
  cases h with
  | nil _ => rfl
  | @cons _ j rest hi hD hp hrest =>
    rw [List.all_eq_true] at ho
    have := ho j (List.mem_range.2 hi)
    simp [this] at hD
/-- For every number of a list. -/
def AllOf : List Nat → (Nat → Prop) → Prop
  | [], _ => True
  | i :: l, p => p i ∧ AllOf l p
theorem AllOf.get : ∀ {l : List Nat} {p : Nat → Prop}, AllOf l p → ∀ i ∈ l, p i
  | [], _, _, i, h => by cases h
  | a :: l, p, h, i, hi => by
    rcases List.mem_cons.1 hi with rfl | hi
    · exact h.1
    · exact AllOf.get h.2 i hi
/-- The layer from m0 to m1: whatever lies outside waits for all of it. A: what each one waits for. -/
def layerB (ops : Array Oper) (n m0 m1 : Nat) (L A : List Nat) : Bool :=
  ((List.range n).all fun j => (List.range n).all fun i => !(A.getD j 0).testBit i || (prd ops j).any fun e => e == i || (A.getD e 0).testBit i) &&
  ((List.range n).all fun j => !m0.testBit j || ((List.range n).all fun i => !(A.getD j 0).testBit i || m0.testBit i) && (prd ops j).all fun e => m0.testBit e) &&
  ((List.range n).all fun j => m1.testBit j || (List.range n).all fun i => !m1.testBit i || m0.testBit i || (A.getD j 0).testBit i) &&
  ((List.range n).all fun j => if m0.testBit j then m1.testBit j && !L.contains j else m1.testBit j == L.contains j) &&
  ((List.range n).all fun j => (prd ops j).all fun e => decide (e < n))

theorem g_layer {n m0 : Nat} {rest : List Nat} (hO : OrdM ops n m0 rest) (hn : ops.size = n) (m1 : Nat) (L A : List Nat) (hB : layerB ops n m0 m1 L A = true) (Inv : (Nat → Bool) → List Value → World → Prop)
    (h0 : Inv (fun j => m0.testBit j || decide (n ≤ j)) t w)
    (hs : AllOf L fun i => ∀ D t w, D i = false → AllDone D (prd ops i) → (∀ j, j < n → D j = true → AllDone D (prd ops j)) → Inv D t w → ∀ rest, (∀ t w, Inv (upd D i) t w → G P f R (.inRegion ops rest :: k) t w) → G P f R (.inRegion ops (i :: rest) :: k) t w)
    (hend : ∀ D t w rest, (∀ i, i < n → m1.testBit i = true → D i = true) → OrdM ops n m1 rest → Inv D t w → G P f R (.inRegion ops rest :: k) t w) : G P f R (.inRegion ops rest :: k) t w := by
  subst hn
  simp only [layerB, Bool.and_eq_true, List.all_eq_true, List.mem_range] at hB
  obtain ⟨⟨⟨⟨b1, b2⟩, b3⟩, b4⟩, b5⟩ := hB
  have main : ∀ (rest : List Nat) (D : Nat → Bool) (t : List Value) (w : World), Ord ops D rest → (∀ j, ops.size ≤ j → D j = true) → (∀ j, j < ops.size → m0.testBit j = true → D j = true) → (∀ j, j < ops.size → D j = true → m1.testBit j = true) →
      (∀ j, j < ops.size → D j = true → (∀ i, i < ops.size → (A.getD j 0).testBit i = true → D i = true)) → (∀ j, j < ops.size → D j = true → AllDone D (prd ops j)) → Inv D t w → G P f R (.inRegion ops rest :: k) t w := by
    intro rest
    induction rest with
    | nil =>
      intro D t w hO hout h0 h1 hA hcl hI
      cases hO with
      | nil hd =>
        have hall : ∀ j, j < ops.size → m1.testBit j = true := fun j hj => h1 j hj (hd j hj)
        exact hend D t w [] (fun i hi _ => hd i hi) (.nil fun i hi => by simp [hall i hi]) hI
    | cons i rest ih =>
      intro D t w hO hout h0 h1 hA hcl hI
      have hO' := hO
      cases hO with
      | cons hi hD hp hrest =>
        by_cases hm : m1.testBit i = true
        · -- one of the layer
          have hL : i ∈ L := by
            have q := b4 i hi
            have n0 : m0.testBit i = false := by
              cases e : m0.testBit i with
              | false => rfl
              | true => rw [h0 i hi e] at hD; cases hD
            rw [n0, hm] at q
            simpa using q
          refine hs.get i hL D t w hD (AllDone.of hp) hcl hI rest fun t w hI' => ih (upd D i) t w hrest ?_ ?_ ?_ ?_ ?_ hI'
          · intro j hj; simp [upd, hout j hj]
          · intro j hj h; simp [upd, h0 j hj h]
          · intro j hj h
            by_cases e : j = i
            · subst e; exact hm
            · exact h1 j hj (by simpa [upd, e] using h)
          · intro j hj h q hq hAq
            by_cases e : j = i
            · subst e
              have r := b1 j hj q hq
              rw [hAq] at r
              simp only [Bool.not_true, Bool.false_or, List.any_eq_true, Bool.or_eq_true, beq_iff_eq] at r
              obtain ⟨e', he', hh⟩ := r
              have hde := hp e' he'
              rcases hh with rfl | hh
              · simp [upd, hde]
              · have := hA e' (by simpa using b5 j hj e' he') hde q hq hh
                simp [upd, this]
            · have := hA j hj (by simpa [upd, e] using h) q hq hAq
              simp [upd, this]
          · intro j hj h
            have up : ∀ l, AllDone D l → AllDone (upd D i) l := by
              intro l
              induction l with
              | nil => exact fun _ => trivial
              | cons a l ih => exact fun h => ⟨by simp [upd, h.1], ih h.2⟩
            by_cases e : j = i
            · subst e; exact up _ (AllDone.of hp)
            · exact up _ (hcl j hj (by simpa [upd, e] using h))
        · -- the layer is done
          have hall : ∀ j, j < ops.size → m1.testBit j = true → D j = true := by
            intro j hj hmj
            by_cases e0 : m0.testBit j = true
            · exact h0 j hj e0
            · have q := b3 i hi
              rw [Bool.eq_false_iff.2 hm] at q
              simp only [Bool.false_or, List.all_eq_true, List.mem_range] at q
              have q' := q j hj
              rw [hmj, Bool.eq_false_iff.2 e0] at q'
              simp only [Bool.not_true, Bool.false_or] at q'
              have r := b1 i hi j hj
              rw [q'] at r
              simp only [Bool.not_true, Bool.false_or, List.any_eq_true, Bool.or_eq_true, beq_iff_eq] at r
              obtain ⟨e', he', hh⟩ := r
              have hde := hp e' he'
              rcases hh with rfl | hh
              · exact hde
              · exact hA e' (by simpa using b5 i hi e' he') hde j hj hh
          have eD : D = fun j => m1.testBit j || decide (ops.size ≤ j) := by
            funext j
            by_cases hj : j < ops.size
            · cases e : D j with
              | true => simp [h1 j hj e]
              | false =>
                have : ¬ m1.testBit j = true := fun h => by rw [hall j hj h] at e; cases e
                simp [Bool.eq_false_iff.2 this, hj, Nat.not_le.2 hj]
            · simp [hout j (by omega), Nat.le_of_not_lt hj]
          refine hend D t w (i :: rest) hall ?_ hI
          rw [eD] at hO'
          exact hO'
  refine main rest _ t w hO ?_ ?_ ?_ ?_ ?_ h0
  · intro j hj; simp [hj]
  · intro j hj h; simp [h]
  · intro j hj h
    simp only [Nat.not_le.2 hj, decide_false, Bool.or_false] at h
    have q := b4 j hj
    rw [h] at q
    simp only [if_true, Bool.and_eq_true] at q
    exact q.1
  · intro j hj h q hq hAq
    simp only [Nat.not_le.2 hj, decide_false, Bool.or_false] at h
    have r := b2 j hj
    rw [h] at r
    simp only [Bool.not_true, Bool.false_or, Bool.and_eq_true, List.all_eq_true, List.mem_range] at r
    have r1 := r.1 q hq
    rw [hAq] at r1
    simp only [Bool.not_true, Bool.false_or] at r1
    simp [r1]
  · intro j hj h
    simp only [Nat.not_le.2 hj, decide_false, Bool.or_false] at h
    have r := b2 j hj
    rw [h] at r
    simp only [Bool.not_true, Bool.false_or, Bool.and_eq_true, List.all_eq_true, List.mem_range] at r
    exact AllDone.of fun e he => by simp [r.2 e he]
end
/-- What an old block holds. -/
theorem St.box {w0 w : World} {Γ : List As} {b : Nat} {o : Obj} (hs : St w0 Γ w) (hp : w0.heap[b]? = some o) : w.heap[b]? = some o := by
  rw [hs.below.block b (Array.getElem?_eq_some_iff.1 hp).1]
  exact hp
end Go.Proofs.YtgpdpedpmhonkaaX
