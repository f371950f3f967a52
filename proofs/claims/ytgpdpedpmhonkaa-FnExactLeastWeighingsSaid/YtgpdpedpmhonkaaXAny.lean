/- A region that draws its order: an invariant over what is done. -/
import Derived.Test.YtgpdpedpmhonkaaXBuild
namespace Go.Proofs.YtgpdpedpmhonkaaX
open Go Go.RowKit
set_option linter.unusedVariables false
set_option linter.unusedSimpArgs false
set_option linter.unusedSectionVars false

/-- For every number below n. -/
def AllLt : Nat → (Nat → Prop) → Prop
  | 0, _ => True
  | n + 1, p => AllLt n p ∧ p n
theorem AllLt.get : ∀ {n : Nat} {p : Nat → Prop}, AllLt n p → ∀ i, i < n → p i
  | 0, _, _, i, h => by omega
  | n + 1, p, ⟨h1, h2⟩, i, h => by
    by_cases e : i = n
    · subst e; exact h2
    · exact AllLt.get h1 i (by omega)
def predsOf (o : Oper) : List Nat := (o.after.toList.filter (Region.binds .any)).map (·.on)
def AllDone (D : Nat → Bool) : List Nat → Prop
  | [] => True
  | i :: l => D i = true ∧ AllDone D l
theorem AllDone.of {D : Nat → Bool} : ∀ {l : List Nat}, (∀ i ∈ l, D i = true) → AllDone D l
  | [], _ => trivial
  | i :: l, h => ⟨h i (by simp), AllDone.of fun j hj => h j (by simp [hj])⟩
def upd (D : Nat → Bool) (i j : Nat) : Bool := j == i || D j
/-- Every edge leads back. -/
def backB (ops : Array Oper) (m : Region.Mode) (rk : List Nat) : Bool := ops.toList.zipIdx.all fun (o, i) => o.after.toList.all fun e => !Region.binds m e || (rk.getD e.on 0 < rk.getD i 0 && e.on < ops.size)

section
variable {P : Program} {f : FuncId} {R : Ending → World → Prop} {k : List Item} {t : List Value} {w : World} {ops : Array Oper}
def goTail (m : Region.Mode) (ops : Array Oper) : Nat → Nat → Array Bool → List Nat
  | 0, _, _ => []
  | fuel + 1, t, listed =>
    let rs := (List.range ops.size).filter fun i => !listed.getD i true && ((ops[i]?).map (·.after.all fun e => !Region.binds m e || listed.getD e.on false)).getD false
    match rs[t % rs.length]? with
    | some i => i :: goTail m ops fuel (t / rs.length) (listed.setIfInBounds i true)
    | none => []
theorem go_tail (m : Region.Mode) (ops : Array Oper) : ∀ (fuel t : Nat) (listed : Array Bool) (acc : List Nat), Region.linearise.go m ops fuel t listed acc = acc.reverse ++ goTail m ops fuel t listed
  | 0, t, listed, acc => by simp [Region.linearise.go, goTail]
  | fuel + 1, t, listed, acc => by
    simp only [Region.linearise.go, goTail]
    generalize ((List.range ops.size).filter fun i => !listed.getD i true && ((ops[i]?).map (·.after.all fun e => !Region.binds m e || listed.getD e.on false)).getD false) = rs
    cases h : rs[t % rs.length]? with
    | some i =>
      simp only []
      rw [go_tail m ops fuel]
      simp
    | none => simp
theorem any_tail (m : Region.Mode) (rk : List Nat) (hback : backB ops m rk = true) (Inv : (Nat → Bool) → List Value → World → Prop)
    (hs : ∀ i, i < ops.size → ∀ D t w, D i = false → (∀ e ∈ (ops[i]?).map predsOf |>.getD [], D e = true) → Inv D t w → ∀ rest, (∀ t w, Inv (upd D i) t w → G P f R (.inRegion ops rest :: k) t w) → G P f R (.inRegion ops (i :: rest) :: k) t w)
    (hend : ∀ D t w, (∀ i, i < ops.size → D i = true) → Inv D t w → G P f R k t w) :
    ∀ (fuel : Nat) (s : Nat) (listed : Array Bool) (t : List Value) (w : World), listed.size = ops.size → (listed.toList.filter (fun b => !b)).length ≤ fuel → Inv (fun i => listed.getD i true) t w →
      G P f R (.inRegion ops (goTail m ops fuel s listed) :: k) t w := by
  have hb : ∀ i (o : Oper), ops[i]? = some o → ∀ e ∈ o.after.toList, Region.binds m e = true → rk.getD e.on 0 < rk.getD i 0 ∧ e.on < ops.size := by
    intro i o ho e he hm
    have h1 := List.all_eq_true.1 hback (o, i) (by
      rw [List.mem_iff_getElem?]
      refine ⟨i, ?_⟩
      simp [List.getElem?_zipIdx]
      simpa using ho)
    have h2 := List.all_eq_true.1 h1 e he
    simpa [hm] using h2
  intro fuel
  induction fuel with
  | zero =>
    intro s listed t w hsz hc hI
    simp only [goTail]
    refine g_ops_nil (hend _ t w (fun i hi => ?_) hI)
    have hnil : listed.toList.filter (fun b => !b) = [] := List.eq_nil_of_length_eq_zero (by omega)
    have hi' : i < listed.size := by omega
    have := List.filter_eq_nil_iff.1 hnil (listed[i]) (by simp)
    simpa [Array.getD, hi'] using this
  | succ fuel ih =>
    intro s listed t w hsz hc hI
    simp only [goTail]
    generalize hrs : ((List.range ops.size).filter fun i => !listed.getD i true && ((ops[i]?).map (·.after.all fun e => !Region.binds m e || listed.getD e.on false)).getD false) = rs
    split
    · rename_i i hi
      have hmem : i ∈ rs := List.mem_of_getElem? hi
      rw [← hrs, List.mem_filter, List.mem_range] at hmem
      obtain ⟨hlt, hready⟩ := hmem
      simp only [Bool.and_eq_true, Bool.not_eq_true'] at hready
      obtain ⟨h1, h2⟩ := hready
      have ho : ops[i]? = some ops[i] := Array.getElem?_eq_getElem hlt
      refine hs i hlt _ t w h1 ?_ hI _ ?_
      · intro e he
        rw [ho] at he h2
        simp only [Option.map_some, Option.getD_some, predsOf, List.mem_map, List.mem_filter] at he h2
        obtain ⟨ed, ⟨hed, hbd⟩, rfl⟩ := he
        rw [Array.all_eq_true] at h2
        obtain ⟨j, hj, rfl⟩ := List.mem_iff_getElem.1 hed
        have h3 := h2 j (by simpa using hj)
        have hbm : Region.binds m (ops[i].after.toList[j]) = true := by
          revert hbd
          simp only [Region.binds]
          cases (ops[i].after.toList[j]).ground <;> simp
        simp only [Array.getElem_toList] at hbm ⊢
        rw [hbm] at h3
        simp only [Bool.not_true, Bool.false_or] at h3
        have hlt2 : (ops[i].after[j]).on < listed.size := by
          rcases Nat.lt_or_ge (ops[i].after[j]).on listed.size with h | h
          · exact h
          · rw [Array.getD, dif_neg (by omega)] at h3; cases h3
        rw [Array.getD, dif_pos hlt2] at h3 ⊢
        exact h3
      · intro t w hI'
        refine ih _ _ t w (by simpa using hsz) ?_ ?_
        · have hil : i < listed.size := by omega
          have hfi : listed[i] = false := by simpa [Array.getD, hil] using h1
          have : ((listed.setIfInBounds i true).toList.filter (fun b => !b)).length + 1 = (listed.toList.filter (fun b => !b)).length := by
            have key : ∀ (l : List Bool) (i : Nat), l[i]? = some false → ((l.set i true).filter (fun b => !b)).length + 1 = (l.filter (fun b => !b)).length := by
              intro l
              induction l with
              | nil => intro i h; simp at h
              | cons a l ihl =>
                intro i h
                cases i with
                | zero => simp at h; subst h; simp
                | succ i =>
                  have := ihl i (by simpa using h)
                  simp only [List.set_cons_succ]
                  cases a <;> simp [List.filter_cons] <;> omega
            simpa using key listed.toList i (by simp [hil, hfi])
          omega
        · have : (fun j => (listed.setIfInBounds i true).getD j true) = upd (fun j => listed.getD j true) i := by
            funext j
            simp only [upd, Array.getD_eq_getD_getElem?, Array.getElem?_setIfInBounds]
            by_cases e : i = j
            · subst e
              by_cases hl : i < listed.size <;> simp [hl]
            · have e' : ¬ j = i := fun h => e h.symm
              simp [e, e']
          rw [this]
          exact hI'
    · rename_i hi
      have hnil : rs = [] := by
        cases hr : rs with
        | nil => rfl
        | cons a l =>
          rw [hr] at hi
          have := Nat.mod_lt s (show 0 < (a :: l).length by simp)
          rw [List.getElem?_eq_none_iff] at hi
          omega
      refine g_ops_nil (hend _ t w (fun i hi' => ?_) hI)
      -- the least one that is not done could be done
      generalize hrk : rk.getD i 0 = q
      induction q using Nat.strongRecOn generalizing i with
      | _ q ihi =>
        cases hd : listed.getD i true with
        | true => rfl
        | false =>
          exfalso
          have ho : ops[i]? = some ops[i] := Array.getElem?_eq_getElem hi'
          have : i ∈ rs := by
            rw [← hrs, List.mem_filter, List.mem_range]
            refine ⟨hi', ?_⟩
            rw [ho]
            simp only [hd, Bool.not_false, Option.map_some, Option.getD_some, Bool.true_and, Array.all_eq_true]
            intro j hj
            cases hbm : Region.binds m ops[i].after[j] with
            | false => rfl
            | true =>
            obtain ⟨hlt, hlt3⟩ := hb i _ ho (ops[i].after[j]) (by simp) hbm
            have h4 := ihi _ (by omega) _ hlt3 rfl
            have hlt2 : (ops[i].after[j]).on < listed.size := by omega
            rw [Array.getD, dif_pos hlt2] at h4
            rw [Array.getD, dif_pos hlt2]
            show (!true || listed[(ops[i].after[j]).on]) = true
            have h5 : listed[(ops[i].after[j]).on] = true := h4
            rw [h5, Bool.or_true]
          rw [hnil] at this
          cases this
/-- A region that draws. -/
theorem g_any {id : Nat} {n : Nat} (hn : ops.size = n) (r1 r2 : List Nat) (hb1 : backB ops .text r1 = true) (hb2 : backB ops .gc r2 = true) (Inv : (Nat → Bool) → List Value → World → Prop) (h0 : ∀ w', w'.heap = w.heap → Below w.heap.size w w' → Inv (fun _ => false) t w')
    (hs : AllLt n fun i => ∀ D t w, D i = false → AllDone D ((ops[i]?).map predsOf |>.getD []) → (AllLt n fun j => D j = true → AllDone D ((ops[j]?).map predsOf |>.getD [])) → Inv D t w → ∀ rest, (∀ t w, Inv (upd D i) t w → G P f R (.inRegion ops rest :: k) t w) → G P f R (.inRegion ops (i :: rest) :: k) t w)
    (hend : ∀ D t w, (∀ i, i < n → D i = true) → Inv D t w → G P f R k t w) : G P f R (.code (.region id ops true) :: k) t w := by
  subst hn
  refine g_region_draw fun s => ?_
  have hb0 : backB ops .any r1 = true := by
    unfold backB at hb1 ⊢
    rw [List.all_eq_true] at hb1 ⊢
    intro x hx
    have h1 := hb1 x hx
    rw [List.all_eq_true] at h1 ⊢
    intro e he
    have h2 := h1 e he
    revert h2
    simp only [Region.binds]
    cases e.ground <;> simp
  have key : ∀ m rk s', backB ops m rk = true → G P f R (.inRegion ops (Region.linearise m ops s') :: k) t { w with drawn := w.drawn + 1 } := by
    intro m rk s' hback
    have e : Region.linearise m ops s' = goTail m ops ops.size s' (Array.replicate ops.size false) := by
      unfold Region.linearise
      rw [go_tail]; simp
    rw [e]
    have mk : ∀ {n : Nat} {p : Nat → Prop}, (∀ i, i < n → p i) → AllLt n p := by
      intro n p
      induction n with
      | zero => exact fun _ => trivial
      | succ n ih => exact fun h => ⟨ih fun i hi => h i (by omega), h n (by omega)⟩
    refine any_tail m rk hback (fun D t w => (∀ j, j < ops.size → D j = true → AllDone (fun i => if i < ops.size then D i else false) ((ops[j]?).map predsOf |>.getD [])) ∧ Inv (fun i => if i < ops.size then D i else false) t w) ?_ ?_ _ _ _ _ _ (by simp) (by simp) ?_
    · intro i hi D t w hD hp ⟨hcl, hI⟩ rest hk
      have hpD : AllDone (fun i => if i < ops.size then D i else false) ((ops[i]?).map predsOf |>.getD []) := AllDone.of fun e he => by
        have ho : ops[i]? = some ops[i] := Array.getElem?_eq_getElem hi
        have he' := he
        rw [ho] at he'
        simp only [Option.map_some, Option.getD_some, predsOf, List.mem_map, List.mem_filter] at he'
        obtain ⟨ed, ⟨hed, hbd⟩, rfl⟩ := he'
        have h1 := List.all_eq_true.1 hb0 (ops[i], i) (by
          rw [List.mem_iff_getElem?]
          exact ⟨i, by simp [List.getElem?_zipIdx, hi]⟩)
        have h2 := List.all_eq_true.1 h1 ed hed
        have h3 : ed.on < ops.size := by
          simp only [hbd, Bool.not_true, Bool.false_or, Bool.and_eq_true, decide_eq_true_eq] at h2
          exact h2.2
        simp [hp _ he, h3]
      refine hs.get i hi _ t w (by simp [hi, hD]) hpD (mk fun j hj hDj => ?_) hI rest fun t w hI' => hk t w ⟨?_, ?_⟩
      · exact hcl j hj (by simpa [hj] using hDj)
      · intro j hj hDj
        have up : ∀ l, AllDone (fun i => if i < ops.size then D i else false) l → AllDone (fun i_1 => if i_1 < ops.size then upd D i i_1 else false) l := by
          intro l
          induction l with
          | nil => exact fun _ => trivial
          | cons a l ih =>
            intro h
            refine ⟨?_, ih h.2⟩
            have h1 := h.1
            by_cases ha : a < ops.size
            · simp only [ha, if_true] at h1 ⊢
              simp [upd, h1]
            · simp [ha] at h1
        by_cases e : j = i
        · subst e; exact up _ hpD
        · exact up _ (hcl j hj (by simpa [upd, e] using hDj))
      · have : (fun j => if j < ops.size then upd D i j else false) = upd (fun j => if j < ops.size then D j else false) i := by
          funext j
          by_cases hj : j < ops.size
          · simp [upd, hj]
          · have : ¬ j = i := by omega
            simp [upd, hj, this]
        rw [this]; exact hI'
    · intro D t w hD hI
      exact hend _ t w (fun i hi => by simp [hi, hD i hi]) hI.2
    · have e0 : (fun i => if i < ops.size then (Array.replicate ops.size false).getD i true else false) = fun _ => false := by
        funext i
        by_cases hi : i < ops.size <;> simp [hi, Array.getD]
      simp only [e0]
      refine ⟨fun j hj hD => by simp [Array.getD, hj] at hD, ?_⟩
      exact h0 { w with drawn := w.drawn + 1 } rfl ⟨rfl, rfl, rfl, Nat.le_refl _, fun _ _ => rfl⟩
  unfold Region.schedule
  split
  · exact key _ _ _ hb0
  · split
    · exact key _ _ _ hb1
    · exact key _ _ _ hb2
end
/-- A chunk that is there if something is done. -/
def Asc (b : Bool) (A : As) : As := match b with | true => A | false => As.emp
theorem St.fill {w0 w : World} {Γ : List As} {A : As} (h : St w0 (A :: Γ) w) (j : Nat) (hj : Γ[j]? = some As.emp) : St w0 (Γ.set j A) w := by
  have p1 := perm_pull Γ j As.emp hj
  have h1 : St w0 (A :: As.emp :: Γ.eraseIdx j) w := h.perm (List.Perm.cons A p1)
  have h2 : St w0 (As.emp :: A :: Γ.eraseIdx j) w := h1.perm (List.Perm.swap _ _ _)
  refine (h2.drop).perm ?_
  have hlt : j < Γ.length := (List.getElem?_eq_some_iff.1 hj).1
  have p2 := perm_pull (Γ.set j A) j A (by simp [hlt])
  have e : (Γ.set j A).eraseIdx j = Γ.eraseIdx j := by
    apply List.ext_getElem?
    intro i
    simp only [List.getElem?_eraseIdx, List.getElem?_set]
    by_cases h1 : i < j
    · have : ¬ j = i := by omega
      simp [h1, this]
    · have : ¬ j = i + 1 := by omega
      simp [h1, this]
  rw [e] at p2
  exact p2.symm
theorem not_yet {D : Nat → Bool} {j : Nat} {l : List Nat} (h : D j = true → AllDone D l) (pos a : Nat) (hl : l[pos]? = some a) (hf : D a = false) : D j = false := by
  have all : ∀ (l : List Nat) (pos : Nat), l[pos]? = some a → AllDone D l → D a = true := by
    intro l
    induction l with
    | nil => intro pos h; simp at h
    | cons b l ih =>
      intro pos hp hd
      cases pos with
      | zero => simp at hp; subst hp; exact hd.1
      | succ pos => exact ih pos (by simpa using hp) hd.2
  cases hj : D j with
  | false => rfl
  | true => rw [all l pos hl (h hj)] at hf; cases hf
theorem cnd_t {α : Type} (x y : α) : cnd true x y = x := rfl
theorem cnd_f {α : Type} (x y : α) : cnd false x y = y := rfl
theorem Asc_t (A : As) : Asc true A = A := rfl
theorem Asc_f (A : As) : Asc false A = As.emp := rfl
theorem St.cast {w0 w : World} {Γ Γ' : List As} (h : St w0 Γ w) (e : Γ = Γ') : St w0 Γ' w := e ▸ h
theorem St.push {w0 w : World} {Γ : List As} {A : As} (h : St w0 (A :: Γ) w) (j : Nat) (hj : j ≤ Γ.length) : St w0 (Γ.take j ++ A :: Γ.drop j) w := by
  refine h.perm ?_
  have : (A :: Γ).Perm (A :: (Γ.take j ++ Γ.drop j)) := by rw [List.take_append_drop]
  exact this.trans List.perm_middle.symm
theorem St.samew {w0 w w' : World} {Γ : List As} (h : St w0 Γ w) (hh : w'.heap = w.heap) (hb : Below w.heap.size w w') : St w0 Γ w' := by
  obtain ⟨hb0, F, hs, hn, hl⟩ := h
  exact ⟨hb0.trans (hb.mono hb0.size), F, Sep.loc (w := w) (fun b _ => by rw [hh]) hs, hn, hl⟩
theorem sl_at {α : Type} {κ : K α} {w : World} {v : Value} {xs : List α} {n : Int} (h : RdRow κ w v xs) (h0 : 0 ≤ n) (h1 : n < xs.length) : ∃ ad N c, v = .slice (some ad) N c := by
  obtain ⟨A, cap, rfl, hc, he⟩ := h
  obtain ⟨ad, es, rfl, _⟩ := he n.toNat (by omega)
  exact ⟨ad, _, _, rfl⟩
section
variable {P : Program} {f : FuncId} {R : Ending → World → Prop} {k : List Item} {t : List Value} {w0 w : World} {Γ : List As} {ops : Array Oper} {i : Nat} {rest : List Nat} {o : Oper}
theorem add_add (ad : Addr) (a j : Nat) : (ad.add a).add j = ad.add (a + j) := by
  unfold Addr.add
  by_cases e1 : a = 0 <;> by_cases e2 : j = 0 <;> simp [e1, e2]
  · omega
theorem cellsAt_of {α : Type} {κ : K α} {enc : α → List Value} (fk : Flat κ enc) (z : α) {v : Value} {xs : List α} {n : Int} (h : RdRow κ w v xs) {ad : Addr} {N c : Nat} (hv : v = .slice (some ad) N c) (h0 : 0 ≤ n) (h1 : n < xs.length) :
    CellsAt w (ad.add (n.toNat * κ.n)) (enc (rdL xs n z)) := by
  obtain ⟨A, cap, e, hc, he⟩ := h
  rw [hv] at e
  cases e
  obtain ⟨ad', es, e', _, hcell, hr⟩ := he n.toNat (by omega)
  cases e'
  have := fk.rd.1 hr
  rw [rdL_get (z := z)] at this
  subst this
  intro j u hj
  rw [add_add]
  exact hcell j u hj
theorem hown_of {v : Value} {ad : Addr} {N c m : Nat} (hv : v = .slice (some ad) N c) : ∀ b N c, v = .slice (some ⟨b, 0, none⟩) N c → ad.add m = ⟨b, m, none⟩ := by
  intro b N' c' e
  rw [hv] at e
  cases e
  unfold Addr.add
  split <;> simp_all
/-- The address of an element, where the slice's own is known. -/
theorem s_idxD {α : Type} {κ : K α} {v : Value} {xs : List α} {T E : TypeId} {m : Nat} (hm : κ.n = m) (hr : RdRow κ w v xs) (hT : P.underlying T = some (.slice E)) (hsz : ∀ w, (Go.sizeOf E).run P w = .ok κ.n w) {n : Int} (h0 : 0 ≤ n) (h1 : n < xs.length)
    {ad : Addr} {N c : Nat} (hv : v = .slice (some ad) N c) (ho : ops[i]? = some o) (hw : Region.wanted o (yl ops t) = true) {x ix : Operand} {q : IntKind}
    (hop : o.op = .indexAddr T x ix) (hx : ev t x = v) (hi : ev t ix = .int q n)
    (hk : G P f R (.inRegion ops rest :: k) (put t o.dst (.pointer (some (ad.add (n.toNat * m))))) w) : G P f R (.inRegion ops (i :: rest) :: k) t w := by
  subst hm
  obtain ⟨A, cap, e, hc, he⟩ := hr
  rw [hv] at e
  cases e
  refine g_op (v := .pointer (some (ad.add (n.toNat * κ.n)))) ho hw ?_ hk
  simp only [execOp, hop]
  exact run_value (by simp [Instr.indexAt, hx, hv, hi, asIntOf, run_underlying hT, h0, h1, hsz])
end
end Go.Proofs.YtgpdpedpmhonkaaX
