/- What the reference's finder comes to. -/
import Derived.Test.YtfnfoecocicigaaYC
namespace Go.Proofs.YtfnfoecocicigaaX
open Go
set_option linter.unusedVariables false
set_option linter.unusedSimpArgs false
abbrev Fi := S_spec_l06Finder
/-- Where a state with its questions lies. -/
def atI (x : Q4) (q : Nat) : Nat := (((x.1 * 9 + x.2.1) * 9 + x.2.2.1) * 9 + x.2.2.2) * 21 + q
def atE (a6 : S4) (a7 : Int) : Int := (i64w ((i64w ((i64w ((i64w ((i64w ((i64w ((i64w ((i64w ((a6.get 0 0) * 9)) + (a6.get 1 0))) * 9)) + (a6.get 2 0))) * 9)) + (a6.get 3 0))) * 21)) + a7))
theorem at_eq {x : Q4} {q : Nat} (hx : tot x ≤ 8) (hq : q ≤ 20) : atE (sq x) (q : Int) = ((atI x q : Nat) : Int) := by
  have h8 : x.1 ≤ 8 ∧ x.2.1 ≤ 8 ∧ x.2.2.1 ≤ 8 ∧ x.2.2.2 ≤ 8 := by unfold tot at hx; omega
  show (i64w ((i64w ((i64w ((i64w ((i64w ((i64w ((i64w ((i64w (((x.1 : Int)) * 9)) + (x.2.1 : Int))) * 9)) + (x.2.2.1 : Int))) * 9)) + (x.2.2.2 : Int))) * 21)) + (q : Int))) = _
  rw [idb (x := (x.1 : Int) * 9) (by omega), idb (x := (x.1 : Int) * 9 + x.2.1) (by omega), idb (x := ((x.1 : Int) * 9 + x.2.1) * 9) (by omega), idb (x := ((x.1 : Int) * 9 + x.2.1) * 9 + x.2.2.1) (by omega), idb (x := (((x.1 : Int) * 9 + x.2.1) * 9 + x.2.2.1) * 9) (by omega), idb (x := (((x.1 : Int) * 9 + x.2.1) * 9 + x.2.2.1) * 9 + x.2.2.2) (by omega), idb (x := ((((x.1 : Int) * 9 + x.2.1) * 9 + x.2.2.1) * 9 + x.2.2.2) * 21) (by omega), idb (by omega)]
  unfold atI
  omega
theorem at_lt {x : Q4} {q : Nat} (hx : tot x ≤ 8) (hq : q ≤ 20) : atI x q < 137781 := by unfold tot at hx; unfold atI; omega
theorem at_inj {x y : Q4} {q r : Nat} (hx : tot x ≤ 8) (hy : tot y ≤ 8) (hq : q ≤ 20) (hr : r ≤ 20) (h : atI x q = atI y r) : x = y ∧ q = r := by
  obtain ⟨a, b, c, d⟩ := x
  obtain ⟨a', b', c', d'⟩ := y
  unfold tot at hx hy
  unfold atI at h
  simp only at hx hy h
  have e1 : q = r ∧ ((a * 9 + b) * 9 + c) * 9 + d = ((a' * 9 + b') * 9 + c') * 9 + d' := by
    generalize ((a * 9 + b) * 9 + c) * 9 + d = A at h ⊢
    generalize ((a' * 9 + b') * 9 + c') * 9 + d' = B at h ⊢
    omega
  have e2 : d = d' ∧ (a * 9 + b) * 9 + c = (a' * 9 + b') * 9 + c' := by
    have g := e1.2
    generalize (a * 9 + b) * 9 + c = A at g ⊢
    generalize (a' * 9 + b') * 9 + c' = B at g ⊢
    omega
  have e3 : c = c' ∧ a * 9 + b = a' * 9 + b' := by
    have g := e2.2
    generalize a * 9 + b = A at g ⊢
    generalize a' * 9 + b' = B at g ⊢
    omega
  have e : a = a' ∧ b = b' ∧ c = c' ∧ d = d' ∧ q = r := by omega
  obtain ⟨rfl, rfl, rfl, rfl, rfl⟩ := e
  exact ⟨rfl, rfl⟩
theorem getD_set' {l : List Int} {i j : Nat} {v : Int} (hi : i < l.length) : (l.set i v).getD j 0 = if i = j then v else l.getD j 0 := by
  rw [List.getD_eq_getElem?_getD, List.getD_eq_getElem?_getD, List.getElem?_set]
  by_cases h : i = j
  · subst h; simp [hi]
  · simp [h]
def InvS (L q : Nat) (seen : List Int) : Prop := seen.length = 137781 ∧ ∀ (y : Q4) (r : Nat), tot y ≤ 8 → r ≤ q → r ≤ 20 → seen.getD (atI y r) 0 = 0 ∨ (seen.getD (atI y r) 0 = 1 ∧ canV L r y = false) ∨ (seen.getD (atI y r) 0 = 2 ∧ canV L r y = true)
def Frm (q : Nat) (s s' : List Int) : Prop := ∀ (y : Q4) (r : Nat), tot y ≤ 8 → q < r → r ≤ 20 → s'.getD (atI y r) 0 = s.getD (atI y r) 0
theorem Frm.refl (q : Nat) (s : List Int) : Frm q s s := fun _ _ _ _ _ => rfl
theorem Frm.trans {q : Nat} {a b c : List Int} (h : Frm q a b) (g : Frm q b c) : Frm q a c := fun y r h1 h2 h3 => (g y r h1 h2 h3).trans (h y r h1 h2 h3)
def SelfS (L q : Nat) (self : Fi → S4 → Int → Option (Bool × List Int × Fi)) : Prop :=
  ∀ (seen : List Int) (x : Q4), InvS L q seen → tot x ≤ 8 → ∃ seen', self ⟨L, seen⟩ (sq x) (q : Int) = some (canV L q x, seen', ⟨L, seen'⟩) ∧ InvS L q seen' ∧ Frm q seen seen'
section
variable {M L q : Nat} {self : Fi → S4 → Int → Option (Bool × List Int × Fi)} {x0 x1 x2 x3 : Nat}
theorem loop3 (hself : SelfS L q self) (hL : L ≤ 3) (hq : q ≤ 19) (hx : tot (x0, x1, x2, x3) ≤ 8) {a0 a1 a2 : Nat} (h0 : a0 ≤ x0) (h1 : a1 ≤ x1) (h2 : a2 ≤ x2) :
    ∀ (n a3 : Nat) (seen : List Int), x3 + 1 - a3 < n → InvS L q seen → ∃ seen', InvS L q seen' ∧ Frm q seen seen' ∧ match (tl3 x3 a0 a1 a2 a3).find? (good L q (x0, x1, x2, x3)) with
      | some b => rounds (fun s => _spec_l06Finder_first.b6 (M + 6) self (sq (x0, x1, x2, x3)) ((q + 1 : Nat) : Int) s.1 s.2.1 s.2.2) n ((L : Int), seen, sq (a0, a1, a2, a3)) = some (.ret (sq b, true, seen', ⟨L, seen'⟩))
      | none => ∃ z, rounds (fun s => _spec_l06Finder_first.b6 (M + 6) self (sq (x0, x1, x2, x3)) ((q + 1 : Nat) : Int) s.1 s.2.1 s.2.2) n ((L : Int), seen, sq (a0, a1, a2, a3)) = some (.go ((L : Int), seen', sq (a0, a1, a2, z))) := by
  intro n
  induction n with
  | zero => intro a3 seen h; exact absurd h (Nat.not_lt_zero _)
  | succ n ih =>
    intro a3 seen hn hI
    by_cases c3 : a3 ≤ x3
    · have ha : le4 (a0, a1, a2, a3) (x0, x1, x2, x3) := ⟨h0, h1, h2, c3⟩
      have hxx : x0 ≤ 60 ∧ x1 ≤ 60 ∧ x2 ≤ 60 ∧ x3 ≤ 60 := by simp only [tot] at hx; omega
      have hsp := split_spec (M := M) hL hxx h0 h1 h2 c3
      rw [show spY L x0 x1 x2 x3 a0 a1 a2 a3 = sq (qY L (x0, x1, x2, x3) (a0, a1, a2, a3)) from qY_sq (x0, x1, x2, x3) (a0, a1, a2, a3), show spN L x0 x1 x2 x3 a0 a1 a2 a3 = sq (qN L (x0, x1, x2, x3) (a0, a1, a2, a3)) from qN_sq (x0, x1, x2, x3) (a0, a1, a2, a3)] at hsp
      have ht := tot_le (L := L) ha
      have eq1 : i64w (((q + 1 : Nat) : Int) - 1) = (q : Int) := by rw [i64w_id (by omega) (by omega)]; omega
      obtain ⟨s1, e1, I1, F1⟩ := hself seen (qY L (x0, x1, x2, x3) (a0, a1, a2, a3)) hI (by omega)
      obtain ⟨s2, e2, I2, F2⟩ := hself s1 (qN L (x0, x1, x2, x3) (a0, a1, a2, a3)) I1 (by omega)
      have j8 : ∀ s3, _spec_l06Finder_first.j8 (M + 6) self (sq (a0, a1, a2, a3)) (L : Int) s3 = some (.next ((L : Int), s3, sq (a0, a1, a2, a3 + 1))) := by
        intro s3
        show some (Bd.next ((L : Int), s3, SI (a0 : Int) a1 a2 (i64w ((a3 : Int) + 1)))) = _
        rw [show i64w ((a3 : Int) + 1) = ((a3 + 1 : Nat) : Int) from i64w_id (by simp only [tot] at hx; omega) (by simp only [tot] at hx; omega)]
        rfl
      have hb : _spec_l06Finder_first.b6 (M + 6) self (sq (x0, x1, x2, x3)) ((q + 1 : Nat) : Int) (L : Int) seen (sq (a0, a1, a2, a3)) = if good L q (x0, x1, x2, x3) (a0, a1, a2, a3) = true then some (.out (.ret (sq (a0, a1, a2, a3), true, s2, ⟨L, s2⟩))) else if canV L q (qY L (x0, x1, x2, x3) (a0, a1, a2, a3)) = true then some (.next ((L : Int), s2, sq (a0, a1, a2, a3 + 1))) else some (.next ((L : Int), s1, sq (a0, a1, a2, a3 + 1))) := by
        unfold _spec_l06Finder_first.b6
        rw [if_pos ⟨by decide, by decide⟩, if_pos ⟨by decide, by decide⟩]
        refine (if_pos (show (a3 : Int) ≤ (x3 : Int) by omega)).trans ?_
        rw [show spec_l06Split.f (M + 6) (L : Int) (sq (x0, x1, x2, x3)) (sq (a0, a1, a2, a3)) = some (sq (qY L (x0, x1, x2, x3) (a0, a1, a2, a3)), sq (qN L (x0, x1, x2, x3) (a0, a1, a2, a3))) from hsp, Option.bind_some, eq1]
        show ((self (⟨L, seen⟩ : Fi) (sq (qY L (x0, x1, x2, x3) (a0, a1, a2, a3))) (q : Int)).bind _) = _
        rw [e1, Option.bind_some]
        unfold good
        cases c1 : canV L q (qY L (x0, x1, x2, x3) (a0, a1, a2, a3)) with
        | false =>
          simp only [Bool.false_eq_true, if_false, Bool.false_and]
          exact j8 s1
        | true =>
          simp only [if_true, Bool.true_and]
          show ((self (⟨L, s1⟩ : Fi) (sq (qN L (x0, x1, x2, x3) (a0, a1, a2, a3))) (q : Int)).bind _) = _
          rw [e2, Option.bind_some]
          cases c2 : canV L q (qN L (x0, x1, x2, x3) (a0, a1, a2, a3)) with
          | false =>
            simp only [Bool.false_eq_true, if_false]
            exact j8 s2
          | true => simp only [if_true]
      rw [tl3_cons c3]
      by_cases g : good L q (x0, x1, x2, x3) (a0, a1, a2, a3) = true
      · rw [if_pos g] at hb
        rw [List.find?_cons_of_pos g]
        exact ⟨s2, I2, F1.trans F2, rounds_out hb⟩
      · rw [if_neg g] at hb
        rw [List.find?_cons_of_neg g]
        have main : ∀ s3, InvS L q s3 → Frm q seen s3 → _spec_l06Finder_first.b6 (M + 6) self (sq (x0, x1, x2, x3)) ((q + 1 : Nat) : Int) (L : Int) seen (sq (a0, a1, a2, a3)) = some (.next ((L : Int), s3, sq (a0, a1, a2, a3 + 1))) →
            ∃ seen', InvS L q seen' ∧ Frm q seen seen' ∧ match (tl3 x3 a0 a1 a2 (a3 + 1)).find? (good L q (x0, x1, x2, x3)) with
              | some b => rounds (fun s => _spec_l06Finder_first.b6 (M + 6) self (sq (x0, x1, x2, x3)) ((q + 1 : Nat) : Int) s.1 s.2.1 s.2.2) (n + 1) ((L : Int), seen, sq (a0, a1, a2, a3)) = some (.ret (sq b, true, seen', ⟨L, seen'⟩))
              | none => ∃ z, rounds (fun s => _spec_l06Finder_first.b6 (M + 6) self (sq (x0, x1, x2, x3)) ((q + 1 : Nat) : Int) s.1 s.2.1 s.2.2) (n + 1) ((L : Int), seen, sq (a0, a1, a2, a3)) = some (.go ((L : Int), seen', sq (a0, a1, a2, z))) := by
          intro s3 I3 F3 hb3
          obtain ⟨s4, I4, F4, h4⟩ := ih (a3 + 1) s3 (by omega) I3
          refine ⟨s4, I4, F3.trans F4, ?_⟩
          cases hf : (tl3 x3 a0 a1 a2 (a3 + 1)).find? (good L q (x0, x1, x2, x3)) with
          | some b => rw [hf] at h4; exact (rounds_next hb3).trans h4
          | none => rw [hf] at h4; obtain ⟨z, hz⟩ := h4; exact ⟨z, (rounds_next hb3).trans hz⟩
        by_cases c1 : canV L q (qY L (x0, x1, x2, x3) (a0, a1, a2, a3)) = true
        · rw [if_pos c1] at hb; exact main s2 I2 (F1.trans F2) hb
        · rw [if_neg c1] at hb; exact main s1 I1 F1 hb
    · rw [tl3_nil (by omega)]
      refine ⟨seen, hI, Frm.refl _ _, a3, rounds_out ?_⟩
      show _spec_l06Finder_first.b6 (M + 6) self (sq (x0, x1, x2, x3)) ((q + 1 : Nat) : Int) (L : Int) seen (sq (a0, a1, a2, a3)) = _
      unfold _spec_l06Finder_first.b6
      rw [if_pos ⟨by decide, by decide⟩, if_pos ⟨by decide, by decide⟩]
      exact if_neg (show ¬ (a3 : Int) ≤ (x3 : Int) by omega)
theorem loop2 (hself : SelfS L q self) (hL : L ≤ 3) (hq : q ≤ 19) (hM : 8000 ≤ M) (hx : tot (x0, x1, x2, x3) ≤ 8) {a0 a1 : Nat} (h0 : a0 ≤ x0) (h1 : a1 ≤ x1) :
    ∀ (n a2 z : Nat) (seen : List Int), x2 + 1 - a2 < n → InvS L q seen → ∃ seen', InvS L q seen' ∧ Frm q seen seen' ∧ match (tl2 x2 x3 a0 a1 a2).find? (good L q (x0, x1, x2, x3)) with
      | some b => rounds (fun s => _spec_l06Finder_first.b4 (M + 6) self (sq (x0, x1, x2, x3)) ((q + 1 : Nat) : Int) s.1 s.2.1 s.2.2) n ((L : Int), seen, sq (a0, a1, a2, z)) = some (.ret (sq b, true, seen', ⟨L, seen'⟩))
      | none => ∃ z2 z3, rounds (fun s => _spec_l06Finder_first.b4 (M + 6) self (sq (x0, x1, x2, x3)) ((q + 1 : Nat) : Int) s.1 s.2.1 s.2.2) n ((L : Int), seen, sq (a0, a1, a2, z)) = some (.go ((L : Int), seen', sq (a0, a1, z2, z3))) := by
  intro n
  induction n with
  | zero => intro a2 z seen h; exact absurd h (Nat.not_lt_zero _)
  | succ n ih =>
    intro a2 z seen hn hI
    have hx8 : x0 ≤ 8 ∧ x1 ≤ 8 ∧ x2 ≤ 8 ∧ x3 ≤ 8 := by simp only [tot] at hx; omega
    by_cases c2 : a2 ≤ x2
    · obtain ⟨s1, I1, F1, r1⟩ := loop3 (M := M) hself hL hq hx h0 h1 c2 (M + 6) 0 seen (by omega) hI
      have hb : _spec_l06Finder_first.b4 (M + 6) self (sq (x0, x1, x2, x3)) ((q + 1 : Nat) : Int) (L : Int) seen (sq (a0, a1, a2, z)) = (rounds (fun s => _spec_l06Finder_first.b6 (M + 6) self (sq (x0, x1, x2, x3)) ((q + 1 : Nat) : Int) s.1 s.2.1 s.2.2) (M + 6) ((L : Int), seen, sq (a0, a1, a2, 0))).bind (Ex.finB fun s => _spec_l06Finder_first.a6 (M + 6) self s.1 s.2.1 s.2.2) := by
        unfold _spec_l06Finder_first.b4
        rw [if_pos ⟨by decide, by decide⟩, if_pos ⟨by decide, by decide⟩]
        refine (if_pos (show (a2 : Int) ≤ (x2 : Int) by omega)).trans ?_
        rw [if_pos ⟨by decide, by decide⟩]
        rfl
      rw [tl2_cons c2, List.find?_append]
      cases hf : (tl3 x3 a0 a1 a2 0).find? (good L q (x0, x1, x2, x3)) with
      | some b =>
        rw [hf] at r1
        refine ⟨s1, I1, F1, ?_⟩
        exact rounds_out (by rw [hb, r1]; rfl)
      | none =>
        rw [hf] at r1
        obtain ⟨z3, r1⟩ := r1
        obtain ⟨s2, I2, F2, r2⟩ := ih (a2 + 1) z3 s1 (by omega) I1
        have hnext : _spec_l06Finder_first.b4 (M + 6) self (sq (x0, x1, x2, x3)) ((q + 1 : Nat) : Int) (L : Int) seen (sq (a0, a1, a2, z)) = some (.next ((L : Int), s1, sq (a0, a1, a2 + 1, z3))) := by
          rw [hb, r1, Option.bind_some]
          show some (Bd.next ((L : Int), s1, SI (a0 : Int) a1 (i64w ((a2 : Int) + 1)) z3)) = _
          rw [show i64w ((a2 : Int) + 1) = ((a2 + 1 : Nat) : Int) from i64w_id (by omega) (by omega)]
          rfl
        refine ⟨s2, I2, F1.trans F2, ?_⟩
        simp only [Option.none_or]
        cases hf2 : (tl2 x2 x3 a0 a1 (a2 + 1)).find? (good L q (x0, x1, x2, x3)) with
        | some b => rw [hf2] at r2; exact (rounds_next hnext).trans r2
        | none => rw [hf2] at r2; obtain ⟨y2, y3, r2⟩ := r2; exact ⟨y2, y3, (rounds_next hnext).trans r2⟩
    · rw [tl2_nil (by omega)]
      refine ⟨seen, hI, Frm.refl _ _, a2, z, rounds_out ?_⟩
      show _spec_l06Finder_first.b4 (M + 6) self (sq (x0, x1, x2, x3)) ((q + 1 : Nat) : Int) (L : Int) seen (sq (a0, a1, a2, z)) = _
      unfold _spec_l06Finder_first.b4
      rw [if_pos ⟨by decide, by decide⟩, if_pos ⟨by decide, by decide⟩]
      exact if_neg (show ¬ (a2 : Int) ≤ (x2 : Int) by omega)
theorem loop1 (hself : SelfS L q self) (hL : L ≤ 3) (hq : q ≤ 19) (hM : 8000 ≤ M) (hx : tot (x0, x1, x2, x3) ≤ 8) {a0 : Nat} (h0 : a0 ≤ x0) :
    ∀ (n a1 z y : Nat) (seen : List Int), x1 + 1 - a1 < n → InvS L q seen → ∃ seen', InvS L q seen' ∧ Frm q seen seen' ∧ match (tl1 x1 x2 x3 a0 a1).find? (good L q (x0, x1, x2, x3)) with
      | some b => rounds (fun s => _spec_l06Finder_first.b2 (M + 6) self (sq (x0, x1, x2, x3)) ((q + 1 : Nat) : Int) s.1 s.2.1 s.2.2) n ((L : Int), seen, sq (a0, a1, z, y)) = some (.ret (sq b, true, seen', ⟨L, seen'⟩))
      | none => ∃ z1 z2 z3, rounds (fun s => _spec_l06Finder_first.b2 (M + 6) self (sq (x0, x1, x2, x3)) ((q + 1 : Nat) : Int) s.1 s.2.1 s.2.2) n ((L : Int), seen, sq (a0, a1, z, y)) = some (.go ((L : Int), seen', sq (a0, z1, z2, z3))) := by
  intro n
  induction n with
  | zero => intro a1 z y seen h; exact absurd h (Nat.not_lt_zero _)
  | succ n ih =>
    intro a1 z y seen hn hI
    have hx8 : x0 ≤ 8 ∧ x1 ≤ 8 ∧ x2 ≤ 8 ∧ x3 ≤ 8 := by simp only [tot] at hx; omega
    by_cases c1 : a1 ≤ x1
    · obtain ⟨s1, I1, F1, r1⟩ := loop2 (M := M) hself hL hq hM hx h0 c1 (M + 6) 0 y seen (by omega) hI
      have hb : _spec_l06Finder_first.b2 (M + 6) self (sq (x0, x1, x2, x3)) ((q + 1 : Nat) : Int) (L : Int) seen (sq (a0, a1, z, y)) = (rounds (fun s => _spec_l06Finder_first.b4 (M + 6) self (sq (x0, x1, x2, x3)) ((q + 1 : Nat) : Int) s.1 s.2.1 s.2.2) (M + 6) ((L : Int), seen, sq (a0, a1, 0, y))).bind (Ex.finB fun s => _spec_l06Finder_first.a4 (M + 6) self s.1 s.2.1 s.2.2) := by
        unfold _spec_l06Finder_first.b2
        rw [if_pos ⟨by decide, by decide⟩, if_pos ⟨by decide, by decide⟩]
        refine (if_pos (show (a1 : Int) ≤ (x1 : Int) by omega)).trans ?_
        rw [if_pos ⟨by decide, by decide⟩]
        rfl
      rw [tl1_cons c1, List.find?_append]
      cases hf : (tl2 x2 x3 a0 a1 0).find? (good L q (x0, x1, x2, x3)) with
      | some b =>
        rw [hf] at r1
        refine ⟨s1, I1, F1, ?_⟩
        exact rounds_out (by rw [hb, r1]; rfl)
      | none =>
        rw [hf] at r1
        obtain ⟨z2, z3, r1⟩ := r1
        obtain ⟨s2, I2, F2, r2⟩ := ih (a1 + 1) z2 z3 s1 (by omega) I1
        have hnext : _spec_l06Finder_first.b2 (M + 6) self (sq (x0, x1, x2, x3)) ((q + 1 : Nat) : Int) (L : Int) seen (sq (a0, a1, z, y)) = some (.next ((L : Int), s1, sq (a0, a1 + 1, z2, z3))) := by
          rw [hb, r1, Option.bind_some]
          show some (Bd.next ((L : Int), s1, SI (a0 : Int) (i64w ((a1 : Int) + 1)) z2 z3)) = _
          rw [show i64w ((a1 : Int) + 1) = ((a1 + 1 : Nat) : Int) from i64w_id (by omega) (by omega)]
          rfl
        refine ⟨s2, I2, F1.trans F2, ?_⟩
        simp only [Option.none_or]
        cases hf2 : (tl1 x1 x2 x3 a0 (a1 + 1)).find? (good L q (x0, x1, x2, x3)) with
        | some b => rw [hf2] at r2; exact (rounds_next hnext).trans r2
        | none => rw [hf2] at r2; obtain ⟨y1, y2, y3, r2⟩ := r2; exact ⟨y1, y2, y3, (rounds_next hnext).trans r2⟩
    · rw [tl1_nil (by omega)]
      refine ⟨seen, hI, Frm.refl _ _, a1, z, y, rounds_out ?_⟩
      show _spec_l06Finder_first.b2 (M + 6) self (sq (x0, x1, x2, x3)) ((q + 1 : Nat) : Int) (L : Int) seen (sq (a0, a1, z, y)) = _
      unfold _spec_l06Finder_first.b2
      rw [if_pos ⟨by decide, by decide⟩, if_pos ⟨by decide, by decide⟩]
      exact if_neg (show ¬ (a1 : Int) ≤ (x1 : Int) by omega)
theorem loop0 (hself : SelfS L q self) (hL : L ≤ 3) (hq : q ≤ 19) (hM : 8000 ≤ M) (hx : tot (x0, x1, x2, x3) ≤ 8) :
    ∀ (n a0 w z y : Nat) (seen : List Int), x0 + 1 - a0 < n → InvS L q seen → ∃ seen', InvS L q seen' ∧ Frm q seen seen' ∧ match (tl0 x0 x1 x2 x3 a0).find? (good L q (x0, x1, x2, x3)) with
      | some b => rounds (fun s => _spec_l06Finder_first.b0 (M + 6) self (sq (x0, x1, x2, x3)) ((q + 1 : Nat) : Int) s.1 s.2.1 s.2.2) n ((L : Int), seen, sq (a0, w, z, y)) = some (.ret (sq b, true, seen', ⟨L, seen'⟩))
      | none => rounds (fun s => _spec_l06Finder_first.b0 (M + 6) self (sq (x0, x1, x2, x3)) ((q + 1 : Nat) : Int) s.1 s.2.1 s.2.2) n ((L : Int), seen, sq (a0, w, z, y)) = some (.go (seen', (L : Int))) := by
  intro n
  induction n with
  | zero => intro a0 w z y seen h; exact absurd h (Nat.not_lt_zero _)
  | succ n ih =>
    intro a0 w z y seen hn hI
    have hx8 : x0 ≤ 8 ∧ x1 ≤ 8 ∧ x2 ≤ 8 ∧ x3 ≤ 8 := by simp only [tot] at hx; omega
    by_cases c0 : a0 ≤ x0
    · obtain ⟨s1, I1, F1, r1⟩ := loop1 (M := M) hself hL hq hM hx c0 (M + 6) 0 z y seen (by omega) hI
      have hb : _spec_l06Finder_first.b0 (M + 6) self (sq (x0, x1, x2, x3)) ((q + 1 : Nat) : Int) (L : Int) seen (sq (a0, w, z, y)) = (rounds (fun s => _spec_l06Finder_first.b2 (M + 6) self (sq (x0, x1, x2, x3)) ((q + 1 : Nat) : Int) s.1 s.2.1 s.2.2) (M + 6) ((L : Int), seen, sq (a0, 0, z, y))).bind (Ex.finB fun s => _spec_l06Finder_first.a2 (M + 6) self s.1 s.2.1 s.2.2) := by
        unfold _spec_l06Finder_first.b0
        rw [if_pos ⟨by decide, by decide⟩, if_pos ⟨by decide, by decide⟩]
        refine (if_pos (show (a0 : Int) ≤ (x0 : Int) by omega)).trans ?_
        rw [if_pos ⟨by decide, by decide⟩]
        rfl
      rw [tl0_cons c0, List.find?_append]
      cases hf : (tl1 x1 x2 x3 a0 0).find? (good L q (x0, x1, x2, x3)) with
      | some b =>
        rw [hf] at r1
        refine ⟨s1, I1, F1, ?_⟩
        exact rounds_out (by rw [hb, r1]; rfl)
      | none =>
        rw [hf] at r1
        obtain ⟨z1, z2, z3, r1⟩ := r1
        obtain ⟨s2, I2, F2, r2⟩ := ih (a0 + 1) z1 z2 z3 s1 (by omega) I1
        have hnext : _spec_l06Finder_first.b0 (M + 6) self (sq (x0, x1, x2, x3)) ((q + 1 : Nat) : Int) (L : Int) seen (sq (a0, w, z, y)) = some (.next ((L : Int), s1, sq (a0 + 1, z1, z2, z3))) := by
          rw [hb, r1, Option.bind_some]
          show some (Bd.next ((L : Int), s1, SI (i64w ((a0 : Int) + 1)) z1 z2 z3)) = _
          rw [show i64w ((a0 : Int) + 1) = ((a0 + 1 : Nat) : Int) from i64w_id (by omega) (by omega)]
          rfl
        refine ⟨s2, I2, F1.trans F2, ?_⟩
        simp only [Option.none_or]
        cases hf2 : (tl0 x0 x1 x2 x3 (a0 + 1)).find? (good L q (x0, x1, x2, x3)) with
        | some b => rw [hf2] at r2; exact (rounds_next hnext).trans r2
        | none => rw [hf2] at r2; exact (rounds_next hnext).trans r2
    · rw [tl0_nil (by omega)]
      refine ⟨seen, hI, Frm.refl _ _, rounds_out ?_⟩
      show _spec_l06Finder_first.b0 (M + 6) self (sq (x0, x1, x2, x3)) ((q + 1 : Nat) : Int) (L : Int) seen (sq (a0, w, z, y)) = _
      unfold _spec_l06Finder_first.b0
      rw [if_pos ⟨by decide, by decide⟩, if_pos ⟨by decide, by decide⟩]
      exact if_neg (show ¬ (a0 : Int) ≤ (x0 : Int) by omega)
end
theorem first_eq {M L q : Nat} {self : Fi → S4 → Int → Option (Bool × List Int × Fi)} (hself : SelfS L q self) (hL : L ≤ 3) (hq : q ≤ 19) (hM : 8000 ≤ M) {x : Q4} (hx : tot x ≤ 8) {seen : List Int} (hI : InvS L q seen) :
    ∃ seen', _spec_l06Finder_first.f (M + 6) self ⟨L, seen⟩ (sq x) ((q + 1 : Nat) : Int) = some ((ansA ((asks x).find? (good L q x))).1, (ansA ((asks x).find? (good L q x))).2, seen', ⟨L, seen'⟩) ∧ InvS L q seen' ∧ Frm q seen seen' := by
  obtain ⟨x0, x1, x2, x3⟩ := x
  have hx8 : x0 ≤ 8 := by simp only [tot] at hx; omega
  obtain ⟨s1, I1, F1, r1⟩ := loop0 (M := M) hself hL hq hM hx (M + 6) 0 0 0 0 seen (by omega) hI
  refine ⟨s1, ?_, I1, F1⟩
  have ea : asks (x0, x1, x2, x3) = tl0 x0 x1 x2 x3 0 := rfl
  unfold _spec_l06Finder_first.f
  rw [if_pos ⟨by decide, by decide⟩, ea]
  cases hf : (tl0 x0 x1 x2 x3 0).find? (good L q (x0, x1, x2, x3)) with
  | some b =>
    rw [hf] at r1
    have r1' : rounds (fun s => _spec_l06Finder_first.b0 (M + 6) self (sq (x0, x1, x2, x3)) ((q + 1 : Nat) : Int) s.1 s.2.1 s.2.2) (M + 6) ((⟨(L : Int), seen⟩ : Fi).f_lies, (⟨(L : Int), seen⟩ : Fi).f_seen, (Ar.rep 4 0).set 0 0) = some (.ret (sq b, true, s1, ⟨L, s1⟩)) := r1
    rw [r1']; rfl
  | none =>
    rw [hf] at r1
    have r1' : rounds (fun s => _spec_l06Finder_first.b0 (M + 6) self (sq (x0, x1, x2, x3)) ((q + 1 : Nat) : Int) s.1 s.2.1 s.2.2) (M + 6) ((⟨(L : Int), seen⟩ : Fi).f_lies, (⟨(L : Int), seen⟩ : Fi).f_seen, (Ar.rep 4 0).set 0 0) = some (.go (s1, (L : Int))) := r1
    rw [r1']; rfl
end Go.Proofs.YtfnfoecocicigaaX
