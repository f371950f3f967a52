/- The reference's finder. -/
import Derived.Test.YtgpdpedpmhonkaaYB
namespace Go.Proofs.YtgpdpedpmhonkaaX
open Go
set_option linter.unusedVariables false
set_option linter.unusedSimpArgs false
abbrev Fi := S_spec_l03Finder
abbrev KS := S_spec_l03Known
abbrev M8 := Ar Int 8
abbrev RS := M8 × Bool × List Int × Fi
def nb (x : Kn) : Nat := if x.n = true then 1 else 0
theorem nb_le (x : Kn) : nb x ≤ 1 := by unfold nb; split <;> omega
/-- What the reference keeps of what is known. -/
def ks (x : Kn) : KS := ⟨x.o, x.h, x.l, (nb x : Int)⟩
theorem cases_spec {N T : Nat} {x : Kn} (h : ok T x) : _spec_l03Known_cases.f N (ks x) = some (x.c : Int) := by
  obtain ⟨h1, h2, h3⟩ := h
  have h4 := nb_le x
  show some (i64w ((i64w ((i64w ((i64w (2 * (x.o : Int))) + (x.h : Int))) + (x.l : Int))) + (nb x : Int))) = _
  rw [idb (x := 2 * (x.o : Int)) (by omega), idb (x := 2 * (x.o : Int) + x.h) (by omega), idb (x := 2 * (x.o : Int) + x.h + x.l) (by omega), idb (by omega)]
  unfold Kn.c nb
  congr 1
/-- Where a piece of knowledge lies, with the weighings that are left. -/
def atI (x : Kn) (q : Nat) : Nat := (((x.o * 14 + x.h) * 14 + x.l) * 2 + nb x) * 6 + q
def atE (a6 : KS) (a7 : Int) : Int := (i64w ((i64w ((i64w ((i64w ((i64w ((i64w ((i64w ((i64w (a6.f_open * 14)) + a6.f_heavy)) * 14)) + a6.f_light)) * 2)) + a6.f_none)) * 6)) + a7))
theorem at_eq {T : Nat} {x : Kn} {q : Nat} (hx : ok T x) (hq : q ≤ 5) : atE (ks x) (q : Int) = ((atI x q : Nat) : Int) := by
  obtain ⟨h1, h2, h3⟩ := hx
  have h4 := nb_le x
  show (i64w ((i64w ((i64w ((i64w ((i64w ((i64w ((i64w ((i64w ((x.o : Int) * 14)) + (x.h : Int))) * 14)) + (x.l : Int))) * 2)) + (nb x : Int))) * 6)) + (q : Int))) = _
  rw [idb (x := (x.o : Int) * 14) (by omega), idb (x := (x.o : Int) * 14 + x.h) (by omega), idb (x := ((x.o : Int) * 14 + x.h) * 14) (by omega), idb (x := ((x.o : Int) * 14 + x.h) * 14 + x.l) (by omega), idb (x := (((x.o : Int) * 14 + x.h) * 14 + x.l) * 2) (by omega), idb (x := (((x.o : Int) * 14 + x.h) * 14 + x.l) * 2 + nb x) (by omega), idb (x := ((((x.o : Int) * 14 + x.h) * 14 + x.l) * 2 + nb x) * 6) (by omega), idb (by omega)]
  unfold atI
  omega
theorem at_lt {T : Nat} {x : Kn} {q : Nat} (hx : ok T x) (hq : q ≤ 5) : atI x q < 32928 := by
  obtain ⟨h1, h2, h3⟩ := hx
  have h4 := nb_le x
  unfold atI; omega
theorem at_inj {T : Nat} {x y : Kn} {q r : Nat} (hx : ok T x) (hy : ok T y) (hq : q ≤ 5) (hr : r ≤ 5) (h : atI x q = atI y r) : x = y ∧ q = r := by
  obtain ⟨h1, _, _⟩ := hx
  obtain ⟨g1, _, _⟩ := hy
  have h4 := nb_le x
  have g4 := nb_le y
  unfold atI at h
  have e1 : q = r ∧ ((x.o * 14 + x.h) * 14 + x.l) * 2 + nb x = ((y.o * 14 + y.h) * 14 + y.l) * 2 + nb y := by
    generalize ((x.o * 14 + x.h) * 14 + x.l) * 2 + nb x = A at h ⊢
    generalize ((y.o * 14 + y.h) * 14 + y.l) * 2 + nb y = B at h ⊢
    omega
  have e2 : nb x = nb y ∧ (x.o * 14 + x.h) * 14 + x.l = (y.o * 14 + y.h) * 14 + y.l := by
    have g := e1.2
    generalize (x.o * 14 + x.h) * 14 + x.l = A at g ⊢
    generalize (y.o * 14 + y.h) * 14 + y.l = B at g ⊢
    omega
  have e3 : x.l = y.l ∧ x.o * 14 + x.h = y.o * 14 + y.h := by
    have g := e2.2
    generalize x.o * 14 + x.h = A at g ⊢
    generalize y.o * 14 + y.h = B at g ⊢
    omega
  have e4 : x.o = y.o ∧ x.h = y.h := by omega
  obtain ⟨a, b, c, d⟩ := x
  obtain ⟨a', b', c', d'⟩ := y
  obtain ⟨e5, e6⟩ := e4
  have e7 := e3.1
  have e8 := e2.1
  simp only at e5 e6 e7
  subst e5 e6 e7
  refine ⟨?_, e1.1⟩
  cases d <;> cases d' <;> simp [nb] at e8 ⊢
theorem getD_set' {l : List Int} {i j : Nat} {v : Int} (hi : i < l.length) : (l.set i v).getD j 0 = if i = j then v else l.getD j 0 := by
  rw [List.getD_eq_getElem?_getD, List.getD_eq_getElem?_getD, List.getElem?_set]
  by_cases h : i = j
  · subst h; simp [hi]
  · simp [h]
def InvS (T q : Nat) (seen : List Int) : Prop := seen.length = 32928 ∧ ∀ (y : Kn) (r : Nat), ok T y → r ≤ q → r ≤ 5 → seen.getD (atI y r) 0 = 0 ∨ (seen.getD (atI y r) 0 = 1 ∧ canB T r y = false) ∨ (seen.getD (atI y r) 0 = 2 ∧ canB T r y = true)
def Frm (T q : Nat) (s s' : List Int) : Prop := ∀ (y : Kn) (r : Nat), ok T y → q < r → r ≤ 5 → s'.getD (atI y r) 0 = s.getD (atI y r) 0
theorem Frm.refl (T q : Nat) (s : List Int) : Frm T q s s := fun _ _ _ _ _ => rfl
theorem Frm.trans {T q : Nat} {a b c : List Int} (h : Frm T q a b) (g : Frm T q b c) : Frm T q a c := fun y r h1 h2 h3 => (g y r h1 h2 h3).trans (h y r h1 h2 h3)
def SelfS (T k : Nat) (self : Fi → KS → Int → Option (Bool × List Int × Fi)) : Prop :=
  ∀ (seen : List Int) (x : Kn), InvS T k seen → ok T x → ∃ seen', self ⟨(T : Int), seen⟩ (ks x) (k : Int) = some (canB T k x, seen', ⟨(T : Int), seen'⟩) ∧ InvS T k seen' ∧ Frm T k seen seen'
def A8 (a b c d e f g h : Int) : M8 := ⟨[a, b, c, d, e, f, g, h], rfl⟩
def mq (m : Mv) (g h : Int) : M8 := A8 m.a m.b m.c m.d m.e m.f g h
theorem ks_mk {x : Kn} {a b c d : Int} (h0 : a = x.o) (h1 : b = x.h) (h2 : c = x.l) (h3 : d = nb x) : (⟨a, b, c, d⟩ : KS) = ks x := by
  subst h0 h1 h2 h3; rfl
theorem after_L {N T : Nat} {x : Kn} {m : Mv} {g h : Int} (hx : ok T x) (hm : fits x m) : _spec_l03Known_after.f N (ks x) (mq m g h) (-1) = some (ks (aftL m)) := by
  obtain ⟨h1, h2, h3⟩ := hx
  obtain ⟨m1, m2, m3⟩ := hm
  show some (⟨0, i64w ((m.a : Int) + (m.c : Int)), i64w ((m.b : Int) + (m.f : Int)), 0⟩ : KS) = _
  rw [idb (x := (m.a : Int) + m.c) (by omega), idb (x := (m.b : Int) + m.f) (by omega)]
  rfl
theorem after_R {N T : Nat} {x : Kn} {m : Mv} {g h : Int} (hx : ok T x) (hm : fits x m) : _spec_l03Known_after.f N (ks x) (mq m g h) 1 = some (ks (aftR m)) := by
  obtain ⟨h1, h2, h3⟩ := hx
  obtain ⟨m1, m2, m3⟩ := hm
  show some (⟨0, i64w ((m.b : Int) + (m.d : Int)), i64w ((m.a : Int) + (m.e : Int)), 0⟩ : KS) = _
  rw [idb (x := (m.b : Int) + m.d) (by omega), idb (x := (m.a : Int) + m.e) (by omega)]
  rfl
theorem after_M {N T : Nat} {x : Kn} {m : Mv} {g h : Int} (hx : ok T x) (hm : fits x m) : _spec_l03Known_after.f N (ks x) (mq m g h) 0 = some (ks (aftM x m)) := by
  obtain ⟨h1, h2, h3⟩ := hx
  obtain ⟨m1, m2, m3⟩ := hm
  show some (⟨i64w ((i64w ((x.o : Int) - m.a)) - m.b), i64w ((i64w ((x.h : Int) - m.c)) - m.d), i64w ((i64w ((x.l : Int) - m.e)) - m.f), (nb x : Int)⟩ : KS) = _
  rw [idb (x := (x.o : Int) - m.a) (by omega), idb (x := (x.o : Int) - m.a - m.b) (by omega), idb (x := (x.h : Int) - m.c) (by omega), idb (x := (x.h : Int) - m.c - m.d) (by omega), idb (x := (x.l : Int) - m.e) (by omega), idb (x := (x.l : Int) - m.e - m.f) (by omega)]
  exact congrArg some (ks_mk (x := aftM x m) (by simp only [aftM]; omega) (by simp only [aftM]; omega) (by simp only [aftM]; omega) rfl)
section
variable {N T k : Nat} {self : Fi → KS → Int → Option (Bool × List Int × Fi)} {x : Kn}
theorem works_b0 (hself : SelfS T k self) (hk : k ≤ 5) {m8 : M8} {r : Int} (hr : -1 ≤ r ∧ r ≤ 1) {y : Kn} (hy : ok T y) (he : _spec_l03Known_after.f N (ks x) m8 r = some (ks y)) {seen : List Int} (hI : InvS T k seen) :
    ∃ seen', _spec_l03Finder_works_at_own.b0 N self (ks x) m8 ((k + 1 : Nat) : Int) (T : Int) seen r = (if canB T k y = true then some (.next ((T : Int), seen', r + 1)) else some (.out (.ret (false, seen', (⟨(T : Int), seen'⟩ : Fi), m8)))) ∧ InvS T k seen' ∧ Frm T k seen seen' := by
  obtain ⟨seen', e, I, F⟩ := hself seen y hI hy
  refine ⟨seen', ?_, I, F⟩
  unfold _spec_l03Finder_works_at_own.b0
  rw [if_pos hr.2, he, Option.bind_some, show i64w (((k + 1 : Nat) : Int) - 1) = (k : Int) by rw [idb (by omega)]; omega, e, Option.bind_some, idb (x := r + 1) (by omega)]
theorem works_eq (hself : SelfS T k self) (hN : 20 ≤ N) (hk : k ≤ 5) {m : Mv} (hx : ok T x) (hm : fits x m) {seen : List Int} (hI : InvS T k seen) {g h : Int} :
    ∃ b seen', _spec_l03Finder_works_at_own.f N self (⟨(T : Int), seen⟩ : Fi) (ks x) (mq m g h) ((k + 1 : Nat) : Int) = some (b, seen', ⟨(T : Int), seen'⟩, mq m g h) ∧ InvS T k seen' ∧ Frm T k seen seen' ∧ (b = true ↔ canP T k (aftL m) ∧ canP T k (aftM x m) ∧ canP T k (aftR m)) := by
  obtain ⟨N, rfl⟩ : ∃ M, N = M + 4 := ⟨N - 4, by omega⟩
  obtain ⟨s1, e1, I1, F1⟩ := works_b0 (N := N + 4) hself hk (r := -1) (by omega) (ok_L hx hm) (after_L (g := g) (h := h) hx hm) hI
  obtain ⟨s2, e2, I2, F2⟩ := works_b0 (N := N + 4) hself hk (r := 0) (by omega) (ok_M hx hm) (after_M (g := g) (h := h) hx hm) I1
  obtain ⟨s3, e3, I3, F3⟩ := works_b0 (N := N + 4) hself hk (r := 1) (by omega) (ok_R hx hm) (after_R (g := g) (h := h) hx hm) I2
  have e4 : _spec_l03Finder_works_at_own.b0 (N + 4) self (ks x) (mq m g h) ((k + 1 : Nat) : Int) (T : Int) s3 2 = some (.out (.go (s3, (T : Int)))) := if_neg (by omega)
  unfold _spec_l03Finder_works_at_own.f
  cases c1 : canB T k (aftL m) with
  | false =>
    rw [c1, if_neg Bool.false_ne_true] at e1
    rw [rounds_out (n := N + 3) (s := ((T : Int), seen, (-1 : Int))) e1]
    exact ⟨false, s1, rfl, I1, F1, by simp [of_canB_f c1]⟩
  | true =>
    rw [c1, if_pos rfl] at e1
    rw [rounds_next (n := N + 3) (s := ((T : Int), seen, (-1 : Int))) e1]
    cases c2 : canB T k (aftM x m) with
    | false =>
      rw [c2, if_neg Bool.false_ne_true] at e2
      rw [rounds_out (n := N + 2) (s := ((T : Int), s1, (-1 : Int) + 1)) e2]
      exact ⟨false, s2, rfl, I2, F1.trans F2, by simp [of_canB_f c2]⟩
    | true =>
      rw [c2, if_pos rfl] at e2
      rw [rounds_next (n := N + 2) (s := ((T : Int), s1, (-1 : Int) + 1)) e2]
      cases c3 : canB T k (aftR m) with
      | false =>
        rw [c3, if_neg Bool.false_ne_true] at e3
        rw [rounds_out (n := N + 1) (s := ((T : Int), s2, (0 : Int) + 1)) e3]
        exact ⟨false, s3, rfl, I3, (F1.trans F2).trans F3, by simp [of_canB_f c3]⟩
      | true =>
        rw [c3, if_pos rfl] at e3
        rw [rounds_next (n := N + 1) (s := ((T : Int), s2, (0 : Int) + 1)) e3, rounds_out (n := N) (s := ((T : Int), s3, (1 : Int) + 1)) e4]
        exact ⟨true, s3, rfl, I3, (F1.trans F2).trans F3, by simp [of_canB c1, of_canB c2, of_canB c3]⟩
theorem max_eq (N : Nat) (v : Int) : spec_l00Max.f N 0 v = some (max 0 v) := by
  unfold spec_l00Max.f
  by_cases c : (0 : Int) > v
  · rw [if_pos c]; congr 1; omega
  · rw [if_neg c]; congr 1; omega
/-- What is kept while it looks. -/
def Kp (T k : Nat) (s0 seen : List Int) : Prop := InvS T k seen ∧ Frm T k s0 seen
/-- What a loop that looks comes to. -/
def Lk (T k : Nat) (s0 : List Int) (o : Option (Ex RS (Int × List Int × M8))) (F : M8 → Prop) (Q : Prop) : Prop :=
  (∃ e, o = some (.go e) ∧ (∃ seen m, e = ((T : Int), seen, m) ∧ Kp T k s0 seen ∧ F m) ∧ ¬ Q) ∨ (∃ r, o = some (.ret r) ∧ (∃ m seen, r = (m, true, seen, (⟨(T : Int), seen⟩ : Fi)) ∧ Kp T k s0 seen) ∧ Q)
/-- What a round that looks comes to. -/
def Lb (T k : Nat) (s0 : List Int) (o : Option (Bd RS (Int × List Int × M8) (Int × List Int × M8))) (F : M8 → Prop) (Q : Prop) : Prop :=
  (∃ s', o = some (.next s') ∧ (∃ seen m, s' = ((T : Int), seen, m) ∧ Kp T k s0 seen ∧ F m) ∧ ¬ Q) ∨ (∃ r, o = some (.out (.ret r)) ∧ (∃ m seen, r = (m, true, seen, (⟨(T : Int), seen⟩ : Fi)) ∧ Kp T k s0 seen) ∧ Q)
theorem lvl {s0 : List Int} {b : Int × List Int × M8 → Option (Bd RS (Int × List Int × M8) (Int × List Int × M8))} {n M : Nat} (hM : n < M) (F : Nat → M8 → Prop) (P : Nat → Prop)
    (step : ∀ i m seen, i < n → F i m → Kp T k s0 seen → Lb T k s0 (b ((T : Int), seen, m)) (F (i + 1)) (P i))
    (done : ∀ m seen, F n m → b ((T : Int), seen, m) = some (.out (.go ((T : Int), seen, m)))) {m : M8} {seen : List Int} (hm : F 0 m) (hs : Kp T k s0 seen) :
    Lk T k s0 (rounds b M ((T : Int), seen, m)) (F n) (∃ j, j < n ∧ P j) := by
  have := loop_find (b := b) (n := n) (fun i s => ∃ seen m, s = ((T : Int), seen, m) ∧ Kp T k s0 seen ∧ F i m) (fun e => ∃ seen m, e = ((T : Int), seen, m) ∧ Kp T k s0 seen ∧ F n m) (fun r => ∃ m seen, r = (m, true, seen, (⟨(T : Int), seen⟩ : Fi)) ∧ Kp T k s0 seen) P (by
    rintro i s hi ⟨seen, m, rfl, h1, h2⟩
    exact step i m seen hi h2 h1) (by
    rintro s ⟨seen, m, rfl, h1, h2⟩
    exact ⟨_, done m seen h2, seen, m, rfl, h1, h2⟩) M 0 _ (Nat.zero_le _) (by omega) ⟨seen, m, rfl, hs, hm⟩
  rcases this with ⟨e, g1, g2, g3⟩ | ⟨r, g1, g2, j, _, g3, g4⟩
  · exact .inl ⟨e, g1, g2, fun ⟨j, h1, h2⟩ => g3 j (by omega) h1 h2⟩
  · exact .inr ⟨r, g1, g2, j, g3, g4⟩
theorem Lk.body {s0 : List Int} {o : Option (Ex RS (Int × List Int × M8))} {F F' : M8 → Prop} {Q Q' : Prop} {a : Int × List Int × M8 → Option (Bd RS (Int × List Int × M8) (Int × List Int × M8))} (h : Lk T k s0 o F Q) (hQ : Q ↔ Q')
    (ha : ∀ seen m, F m → ∃ m', a ((T : Int), seen, m) = some (.next ((T : Int), seen, m')) ∧ F' m') : Lb T k s0 (o.bind (Ex.finB a)) F' Q' := by
  rcases h with ⟨e, rfl, ⟨seen, m, rfl, h1, h2⟩, h3⟩ | ⟨r, rfl, h1, h2⟩
  · obtain ⟨m', e1, e2⟩ := ha seen m h2
    exact .inl ⟨_, e1, ⟨seen, m', rfl, h1, e2⟩, fun h => h3 (hQ.2 h)⟩
  · exact .inr ⟨r, rfl, h1, hQ.1 h2⟩
theorem j12_eq {M : Nat} {m : Mv} {g h : Int} {seen : List Int} (hf : m.f ≤ 13) : _spec_l03Finder_first.j12 M self (T : Int) seen (mq m g h) = some (.next ((T : Int), seen, A8 m.a m.b m.c m.d m.e ((m.f + 1 : Nat) : Int) g h)) := by
  show some (Bd.next ((T : Int), seen, A8 m.a m.b m.c m.d m.e (i64w ((m.f : Int) + 1)) g h)) = _
  rw [idb (by omega)]
  rfl
theorem b10_eq (hself : SelfS T k self) (hN : 20 ≤ N) (hk : k ≤ 5) (hx : ok T x) {s0 seen sx : List Int} {m : Mv} (hm : fits x m) (hs : Kp T k s0 seen) {g h : Int} :
    Lb T k s0 (_spec_l03Finder_first.b10 N self (ks x) (⟨(T : Int), sx⟩ : Fi) ((k + 1 : Nat) : Int) (T : Int) seen (mq m g h)) (fun m' => ∃ g h : Int, m' = A8 m.a m.b m.c m.d m.e ((m.f + 1 : Nat) : Int) g h) (doesP T k x m) := by
  have hx0 := hx
  have hm0 := hm
  obtain ⟨h1, h2, h3⟩ := hx
  obtain ⟨m1, m2, m3⟩ := hm
  have eD : i64w ((i64w ((i64w ((i64w ((i64w ((m.a : Int) + m.c)) + m.e)) - m.b)) - m.d)) - m.f) = (m.a : Int) + m.c + m.e - m.b - m.d - m.f := by
    rw [idb (x := (m.a : Int) + m.c) (by omega), idb (x := (m.a : Int) + m.c + m.e) (by omega), idb (x := (m.a : Int) + m.c + m.e - m.b) (by omega), idb (x := (m.a : Int) + m.c + m.e - m.b - m.d) (by omega), idb (by omega)]
  have eG : i64w ((i64w ((i64w ((T : Int) - x.o)) - x.h)) - x.l) = (T : Int) - x.o - x.h - x.l := by
    rw [idb (x := (T : Int) - x.o) (by omega), idb (x := (T : Int) - x.o - x.h) (by omega), idb (by omega)]
  have hskip : ∀ g h : Int, ¬ doesP T k x m → Lb T k s0 (_spec_l03Finder_first.j12 N self (T : Int) seen (mq m g h)) (fun m' => ∃ g h : Int, m' = A8 m.a m.b m.c m.d m.e ((m.f + 1 : Nat) : Int) g h) (doesP T k x m) := by
    intro g h hn
    rw [j12_eq (by omega)]
    exact .inl ⟨_, rfl, ⟨seen, _, rfl, hs, g, h, rfl⟩, hn⟩
  unfold _spec_l03Finder_first.b10
  rw [if_pos ⟨by decide, by decide⟩, if_pos ⟨by decide, by decide⟩]
  refine cast (congrArg (fun o => Lb T k s0 o _ _) (if_pos (show i64w ((m.e : Int) + m.f) ≤ (x.l : Int) by rw [idb (by omega)]; omega)).symm) ?_
  rw [if_pos ⟨by decide, by decide⟩, if_pos ⟨by decide, by decide⟩, if_pos ⟨by decide, by decide⟩, if_pos ⟨by decide, by decide⟩, if_pos ⟨by decide, by decide⟩, if_pos ⟨by decide, by decide⟩]
  rw [show i64w ((i64w ((i64w ((i64w ((i64w ((mq m g h).get 0 0 + (mq m g h).get 2 0)) + (mq m g h).get 4 0)) - (mq m g h).get 1 0)) - (mq m g h).get 3 0)) - (mq m g h).get 5 0) = (m.a : Int) + m.c + m.e - m.b - m.d - m.f from eD, idb (x := 0 - ((m.a : Int) + m.c + m.e - m.b - m.d - m.f)) (by omega), max_eq, Option.bind_some, if_pos ⟨by decide, by decide⟩, max_eq, Option.bind_some, if_pos ⟨by decide, by decide⟩, if_pos ⟨by decide, by decide⟩]
  generalize hu : max 0 (0 - ((m.a : Int) + m.c + m.e - m.b - m.d - m.f)) = u
  generalize hv : max 0 ((m.a : Int) + m.c + m.e - m.b - m.d - m.f) = v
  rw [show ((mq m g h).set 6 u).set 7 v = mq m u v from rfl]
  show Lb T k s0 (if u > i64w ((i64w ((i64w ((T : Int) - x.o)) - x.h)) - x.l) then _ else _) _ _
  rw [eG]
  by_cases c1 : u > (T : Int) - x.o - x.h - x.l
  · rw [if_pos c1]
    refine hskip u v fun hd => ?_
    have h5 := hd.1.2.2
    omega
  · rw [if_neg c1, if_pos ⟨by decide, by decide⟩]
    show Lb T k s0 (if v > i64w ((i64w ((i64w ((T : Int) - x.o)) - x.h)) - x.l) then _ else _) _ _
    rw [eG]
    by_cases c2 : v > (T : Int) - x.o - x.h - x.l
    · rw [if_pos c2]
      refine hskip u v fun hd => ?_
      have h5 := hd.1.2.1
      omega
    · rw [if_neg c2]
      by_cases c3 : mq m u v = Ar.rep 8 0
      · rw [if_pos c3]
        refine hskip u v fun hd => ?_
        have h5 := hd.1.1
        have h6 := congrArg Ar.l c3
        simp only [mq, A8, Ar.rep, List.replicate, List.cons.injEq] at h6
        omega
      · rw [if_neg c3]
        obtain ⟨b, seen', e, I, F, hb⟩ := works_eq hself hN hk hx0 hm0 hs.1 (g := u) (h := v)
        rw [e, Option.bind_some]
        have hK : Kp T k s0 seen' := ⟨I, hs.2.trans F⟩
        have hd : b = true ↔ doesP T k x m := by
          refine hb.trans ⟨fun h => ⟨⟨?_, by omega, by omega⟩, h⟩, fun h => h.2⟩
          refine Decidable.byContradiction fun hz => c3 ?_
          have z1 : m.a = 0 := by omega
          have z2 : m.b = 0 := by omega
          have z3 : m.c = 0 := by omega
          have z4 : m.d = 0 := by omega
          have z5 : m.e = 0 := by omega
          have z6 : m.f = 0 := by omega
          have z7 : u = 0 := by omega
          have z8 : v = 0 := by omega
          unfold mq
          rw [z1, z2, z3, z4, z5, z6, z7, z8]
          rfl
        cases b with
        | true => exact .inr ⟨_, if_pos rfl, ⟨_, _, rfl, hK⟩, hd.1 rfl⟩
        | false =>
          dsimp only
          rw [if_neg Bool.false_ne_true, j12_eq (by omega)]
          exact .inl ⟨_, rfl, ⟨seen', _, rfl, hK, u, v, rfl⟩, fun h => Bool.false_ne_true (hd.2 h)⟩
theorem first_eq (hself : SelfS T k self) (hN : 20 ≤ N) (hk : k ≤ 5) (hx : ok T x) {seen : List Int} (hI : InvS T k seen) :
    ∃ b m seen', _spec_l03Finder_first.f N self (⟨(T : Int), seen⟩ : Fi) (ks x) ((k + 1 : Nat) : Int) = some (m, b, seen', (⟨(T : Int), seen'⟩ : Fi)) ∧ InvS T k seen' ∧ Frm T k seen seen' ∧ (b = true ↔ ∃ m, fits x m ∧ doesP T k x m) := by
  have hx0 := hx
  obtain ⟨h1, h2, h3⟩ := hx
  have d8 : ∀ i : Int, i = 0 ∨ i = 1 ∨ i = 2 ∨ i = 3 ∨ i = 4 ∨ i = 5 → (0 : Int) ≤ i ∧ i < 8 := by omega
  have l5 : ∀ (a b c d e : Nat) (f g h : Int) (sn : List Int), a + b ≤ x.o → c + d ≤ x.h → e ≤ x.l → Kp T k seen sn →
      Lk T k seen (rounds (fun s => _spec_l03Finder_first.b10 N self (ks x) (⟨(T : Int), seen⟩ : Fi) ((k + 1 : Nat) : Int) s.1 s.2.1 s.2.2) N ((T : Int), sn, A8 a b c d e 0 g h)) (fun m => ∃ f g h : Int, m = A8 a b c d e f g h) (∃ f, f < x.l - e + 1 ∧ doesP T k x ⟨a, b, c, d, e, f⟩) := by
    intro a b c d e f g h sn q1 q2 q3 hs
    have key := lvl (T := T) (k := k) (s0 := seen) (b := fun s : Int × List Int × M8 => _spec_l03Finder_first.b10 N self (ks x) (⟨(T : Int), seen⟩ : Fi) ((k + 1 : Nat) : Int) s.1 s.2.1 s.2.2) (n := x.l - e + 1) (M := N) (by omega) (fun i m => ∃ g h : Int, m = A8 a b c d e (i : Int) g h) (fun f => doesP T k x ⟨a, b, c, d, e, f⟩) ?_ ?_ ⟨g, h, rfl⟩ hs
    rcases key with ⟨z, g1, ⟨s1, m1, g2, g3, g4, g5, g6⟩, g7⟩ | g
    · exact .inl ⟨z, g1, ⟨s1, m1, g2, g3, _, g4, g5, g6⟩, g7⟩
    · exact .inr g
    · rintro i m s hi ⟨g, h, rfl⟩ hs
      exact b10_eq (m := ⟨a, b, c, d, e, i⟩) hself hN hk hx0 ⟨q1, q2, by simp only; omega⟩ hs
    · rintro m s ⟨g, h, rfl⟩
      dsimp only
      unfold _spec_l03Finder_first.b10
      rw [if_pos ⟨by decide, by decide⟩, if_pos ⟨by decide, by decide⟩]
      refine if_neg (show ¬ i64w ((e : Int) + ((x.l - e + 1 : Nat) : Int)) ≤ (x.l : Int) from ?_)
      rw [idb (by omega)]
      omega
  have l4 : ∀ (a b c d : Nat) (e f g h : Int) (sn : List Int), a + b ≤ x.o → c + d ≤ x.h → Kp T k seen sn →
      Lk T k seen (rounds (fun s => _spec_l03Finder_first.b8 N self (ks x) (⟨(T : Int), seen⟩ : Fi) ((k + 1 : Nat) : Int) s.1 s.2.1 s.2.2) N ((T : Int), sn, A8 a b c d 0 f g h)) (fun m => ∃ e f g h : Int, m = A8 a b c d e f g h) (∃ e, e < x.l + 1 ∧ ∃ f, f < x.l - e + 1 ∧ doesP T k x ⟨a, b, c, d, e, f⟩) := by
    intro a b c d e f g h sn q1 q2 hs
    have key := lvl (T := T) (k := k) (s0 := seen) (b := fun s : Int × List Int × M8 => _spec_l03Finder_first.b8 N self (ks x) (⟨(T : Int), seen⟩ : Fi) ((k + 1 : Nat) : Int) s.1 s.2.1 s.2.2) (n := x.l + 1) (M := N) (by omega) (fun i m => ∃ f g h : Int, m = A8 a b c d (i : Int) f g h) (fun e => ∃ f, f < x.l - e + 1 ∧ doesP T k x ⟨a, b, c, d, e, f⟩) ?_ ?_ ⟨f, g, h, rfl⟩ hs
    rcases key with ⟨z, g1, ⟨s1, m1, g2, g3, g4, g5, g6, g8⟩, g7⟩ | g
    · exact .inl ⟨z, g1, ⟨s1, m1, g2, g3, _, g4, g5, g6, g8⟩, g7⟩
    · exact .inr g
    · rintro i m s hi ⟨f, g, h, rfl⟩ hs
      dsimp only
      unfold _spec_l03Finder_first.b8
      rw [if_pos ⟨by decide, by decide⟩]
      refine cast (congrArg (fun o => Lb T k seen o _ _) (if_pos (show ((i : Int)) ≤ (x.l : Int) by omega)).symm) ?_
      rw [if_pos ⟨by decide, by decide⟩]
      refine (l5 a b c d i 0 g h s q1 q2 (by omega) hs).body Iff.rfl ?_
      rintro sn m ⟨f, g, h, rfl⟩
      refine ⟨A8 a b c d ((i + 1 : Nat) : Int) f g h, ?_, f, g, h, rfl⟩
      show some (Bd.next ((T : Int), sn, A8 a b c d (i64w ((i : Int) + 1)) f g h)) = _
      rw [idb (by omega)]
      rfl
    · rintro m s ⟨f, g, h, rfl⟩
      dsimp only
      unfold _spec_l03Finder_first.b8
      rw [if_pos ⟨by decide, by decide⟩]
      exact if_neg (show ¬ ((x.l + 1 : Nat) : Int) ≤ (x.l : Int) by omega)
  have l3 : ∀ (a b c : Nat) (d e f g h : Int) (sn : List Int), a + b ≤ x.o → c ≤ x.h → Kp T k seen sn →
      Lk T k seen (rounds (fun s => _spec_l03Finder_first.b6 N self (ks x) (⟨(T : Int), seen⟩ : Fi) ((k + 1 : Nat) : Int) s.1 s.2.1 s.2.2) N ((T : Int), sn, A8 a b c 0 e f g h)) (fun m => ∃ d e f g h : Int, m = A8 a b c d e f g h) (∃ d, d < x.h - c + 1 ∧ ∃ e, e < x.l + 1 ∧ ∃ f, f < x.l - e + 1 ∧ doesP T k x ⟨a, b, c, d, e, f⟩) := by
    intro a b c d e f g h sn q1 q2 hs
    have key := lvl (T := T) (k := k) (s0 := seen) (b := fun s : Int × List Int × M8 => _spec_l03Finder_first.b6 N self (ks x) (⟨(T : Int), seen⟩ : Fi) ((k + 1 : Nat) : Int) s.1 s.2.1 s.2.2) (n := x.h - c + 1) (M := N) (by omega) (fun i m => ∃ e f g h : Int, m = A8 a b c (i : Int) e f g h) (fun d => ∃ e, e < x.l + 1 ∧ ∃ f, f < x.l - e + 1 ∧ doesP T k x ⟨a, b, c, d, e, f⟩) ?_ ?_ ⟨e, f, g, h, rfl⟩ hs
    rcases key with ⟨z, g1, ⟨s1, m1, g2, g3, g4, g5, g6, g8, g9⟩, g7⟩ | g
    · exact .inl ⟨z, g1, ⟨s1, m1, g2, g3, _, g4, g5, g6, g8, g9⟩, g7⟩
    · exact .inr g
    · rintro i m s hi ⟨e, f, g, h, rfl⟩ hs
      dsimp only
      unfold _spec_l03Finder_first.b6
      rw [if_pos ⟨by decide, by decide⟩, if_pos ⟨by decide, by decide⟩]
      refine cast (congrArg (fun o => Lb T k seen o _ _) (if_pos (show i64w ((c : Int) + (i : Int)) ≤ (x.h : Int) by rw [idb (by omega)]; omega)).symm) ?_
      rw [if_pos ⟨by decide, by decide⟩]
      refine (l4 a b c i 0 f g h s q1 (by omega) hs).body Iff.rfl ?_
      rintro sn m ⟨e, f, g, h, rfl⟩
      refine ⟨A8 a b c ((i + 1 : Nat) : Int) e f g h, ?_, e, f, g, h, rfl⟩
      show some (Bd.next ((T : Int), sn, A8 a b c (i64w ((i : Int) + 1)) e f g h)) = _
      rw [idb (by omega)]
      rfl
    · rintro m s ⟨e, f, g, h, rfl⟩
      dsimp only
      unfold _spec_l03Finder_first.b6
      rw [if_pos ⟨by decide, by decide⟩, if_pos ⟨by decide, by decide⟩]
      refine if_neg (show ¬ i64w ((c : Int) + ((x.h - c + 1 : Nat) : Int)) ≤ (x.h : Int) from ?_)
      rw [idb (by omega)]
      omega
  have l2 : ∀ (a b : Nat) (c d e f g h : Int) (sn : List Int), a + b ≤ x.o → Kp T k seen sn →
      Lk T k seen (rounds (fun s => _spec_l03Finder_first.b4 N self (ks x) (⟨(T : Int), seen⟩ : Fi) ((k + 1 : Nat) : Int) s.1 s.2.1 s.2.2) N ((T : Int), sn, A8 a b 0 d e f g h)) (fun m => ∃ c d e f g h : Int, m = A8 a b c d e f g h) (∃ c, c < x.h + 1 ∧ ∃ d, d < x.h - c + 1 ∧ ∃ e, e < x.l + 1 ∧ ∃ f, f < x.l - e + 1 ∧ doesP T k x ⟨a, b, c, d, e, f⟩) := by
    intro a b c d e f g h sn q1 hs
    have key := lvl (T := T) (k := k) (s0 := seen) (b := fun s : Int × List Int × M8 => _spec_l03Finder_first.b4 N self (ks x) (⟨(T : Int), seen⟩ : Fi) ((k + 1 : Nat) : Int) s.1 s.2.1 s.2.2) (n := x.h + 1) (M := N) (by omega) (fun i m => ∃ d e f g h : Int, m = A8 a b (i : Int) d e f g h) (fun c => ∃ d, d < x.h - c + 1 ∧ ∃ e, e < x.l + 1 ∧ ∃ f, f < x.l - e + 1 ∧ doesP T k x ⟨a, b, c, d, e, f⟩) ?_ ?_ ⟨d, e, f, g, h, rfl⟩ hs
    rcases key with ⟨z, g1, ⟨s1, m1, g2, g3, g4⟩, g7⟩ | g
    · exact .inl ⟨z, g1, ⟨s1, m1, g2, g3, _, g4⟩, g7⟩
    · exact .inr g
    · rintro i m s hi ⟨d, e, f, g, h, rfl⟩ hs
      dsimp only
      unfold _spec_l03Finder_first.b4
      rw [if_pos ⟨by decide, by decide⟩]
      refine cast (congrArg (fun o => Lb T k seen o _ _) (if_pos (show ((i : Int)) ≤ (x.h : Int) by omega)).symm) ?_
      rw [if_pos ⟨by decide, by decide⟩]
      refine (l3 a b i 0 e f g h s q1 (by omega) hs).body Iff.rfl ?_
      rintro sn m ⟨d, e, f, g, h, rfl⟩
      refine ⟨A8 a b ((i + 1 : Nat) : Int) d e f g h, ?_, d, e, f, g, h, rfl⟩
      show some (Bd.next ((T : Int), sn, A8 a b (i64w ((i : Int) + 1)) d e f g h)) = _
      rw [idb (by omega)]
      rfl
    · rintro m s ⟨d, e, f, g, h, rfl⟩
      dsimp only
      unfold _spec_l03Finder_first.b4
      rw [if_pos ⟨by decide, by decide⟩]
      exact if_neg (show ¬ ((x.h + 1 : Nat) : Int) ≤ (x.h : Int) by omega)
  have l1 : ∀ (a : Nat) (b c d e f g h : Int) (sn : List Int), a ≤ x.o → Kp T k seen sn →
      Lk T k seen (rounds (fun s => _spec_l03Finder_first.b2 N self (ks x) (⟨(T : Int), seen⟩ : Fi) ((k + 1 : Nat) : Int) s.1 s.2.1 s.2.2) N ((T : Int), sn, A8 a 0 c d e f g h)) (fun m => ∃ b c d e f g h : Int, m = A8 a b c d e f g h) (∃ b, b < x.o - a + 1 ∧ ∃ c, c < x.h + 1 ∧ ∃ d, d < x.h - c + 1 ∧ ∃ e, e < x.l + 1 ∧ ∃ f, f < x.l - e + 1 ∧ doesP T k x ⟨a, b, c, d, e, f⟩) := by
    intro a b c d e f g h sn q1 hs
    have key := lvl (T := T) (k := k) (s0 := seen) (b := fun s : Int × List Int × M8 => _spec_l03Finder_first.b2 N self (ks x) (⟨(T : Int), seen⟩ : Fi) ((k + 1 : Nat) : Int) s.1 s.2.1 s.2.2) (n := x.o - a + 1) (M := N) (by omega) (fun i m => ∃ c d e f g h : Int, m = A8 a (i : Int) c d e f g h) (fun b => ∃ c, c < x.h + 1 ∧ ∃ d, d < x.h - c + 1 ∧ ∃ e, e < x.l + 1 ∧ ∃ f, f < x.l - e + 1 ∧ doesP T k x ⟨a, b, c, d, e, f⟩) ?_ ?_ ⟨c, d, e, f, g, h, rfl⟩ hs
    rcases key with ⟨z, g1, ⟨s1, m1, g2, g3, g4⟩, g7⟩ | g
    · exact .inl ⟨z, g1, ⟨s1, m1, g2, g3, _, g4⟩, g7⟩
    · exact .inr g
    · rintro i m s hi ⟨c, d, e, f, g, h, rfl⟩ hs
      dsimp only
      unfold _spec_l03Finder_first.b2
      rw [if_pos ⟨by decide, by decide⟩, if_pos ⟨by decide, by decide⟩]
      refine cast (congrArg (fun o => Lb T k seen o _ _) (if_pos (show i64w ((a : Int) + (i : Int)) ≤ (x.o : Int) by rw [idb (by omega)]; omega)).symm) ?_
      rw [if_pos ⟨by decide, by decide⟩]
      refine (l2 a i 0 d e f g h s (by omega) hs).body Iff.rfl ?_
      rintro sn m ⟨c, d, e, f, g, h, rfl⟩
      refine ⟨A8 a ((i + 1 : Nat) : Int) c d e f g h, ?_, c, d, e, f, g, h, rfl⟩
      show some (Bd.next ((T : Int), sn, A8 a (i64w ((i : Int) + 1)) c d e f g h)) = _
      rw [idb (by omega)]
      rfl
    · rintro m s ⟨c, d, e, f, g, h, rfl⟩
      dsimp only
      unfold _spec_l03Finder_first.b2
      rw [if_pos ⟨by decide, by decide⟩, if_pos ⟨by decide, by decide⟩]
      refine if_neg (show ¬ i64w ((a : Int) + ((x.o - a + 1 : Nat) : Int)) ≤ (x.o : Int) from ?_)
      rw [idb (by omega)]
      omega
  have hQ : (∃ a, a < x.o + 1 ∧ ∃ b, b < x.o - a + 1 ∧ ∃ c, c < x.h + 1 ∧ ∃ d, d < x.h - c + 1 ∧ ∃ e, e < x.l + 1 ∧ ∃ f, f < x.l - e + 1 ∧ doesP T k x ⟨a, b, c, d, e, f⟩) ↔ ∃ m, fits x m ∧ doesP T k x m := by
    constructor
    · rintro ⟨a, p1, b, p2, c, p3, d, p4, e, p5, f, p6, p⟩
      exact ⟨_, ⟨by simp only; omega, by simp only; omega, by simp only; omega⟩, p⟩
    · rintro ⟨⟨a, b, c, d, e, f⟩, ⟨p1, p2, p3⟩, p⟩
      simp only at p1 p2 p3
      exact ⟨a, by omega, b, by omega, c, by omega, d, by omega, e, by omega, f, by omega, p⟩
  unfold _spec_l03Finder_first.f
  rw [if_pos ⟨by decide, by decide⟩]
  have key := loop_find (b := fun s : Int × List Int × M8 => _spec_l03Finder_first.b0 N self (ks x) (⟨(T : Int), seen⟩ : Fi) ((k + 1 : Nat) : Int) s.1 s.2.1 s.2.2) (n := x.o + 1) (fun i s => ∃ sn m, s = ((T : Int), sn, m) ∧ Kp T k seen sn ∧ ∃ b c d e f g h : Int, m = A8 (i : Int) b c d e f g h) (fun e => ∃ sn, e = (sn, (T : Int)) ∧ Kp T k seen sn) (fun r => ∃ m sn, r = (m, true, sn, (⟨(T : Int), sn⟩ : Fi)) ∧ Kp T k seen sn) (fun a => ∃ b, b < x.o - a + 1 ∧ ∃ c, c < x.h + 1 ∧ ∃ d, d < x.h - c + 1 ∧ ∃ e, e < x.l + 1 ∧ ∃ f, f < x.l - e + 1 ∧ doesP T k x ⟨a, b, c, d, e, f⟩) ?_ ?_ N 0 ((T : Int), seen, (Ar.rep 8 0).set 0 0) (Nat.zero_le _) (by omega) ⟨seen, _, rfl, ⟨hI, Frm.refl _ _ _⟩, 0, 0, 0, 0, 0, 0, 0, rfl⟩
  rcases key with ⟨e, g1, ⟨sn, rfl, hs⟩, g3⟩ | ⟨r, g1, ⟨m, sn, rfl, hs⟩, j, _, g3, g4⟩
  · rw [g1]
    refine ⟨false, Ar.rep 8 0, sn, rfl, hs.1, hs.2, ?_⟩
    rw [← hQ]
    exact ⟨fun h => absurd h Bool.false_ne_true, fun ⟨a, p1, p⟩ => absurd p (g3 a (Nat.zero_le _) p1)⟩
  · rw [g1]
    refine ⟨true, m, sn, rfl, hs.1, hs.2, ?_⟩
    rw [← hQ]
    exact ⟨fun _ => ⟨j, g3, g4⟩, fun _ => rfl⟩
  · rintro i s hi ⟨sn, m, rfl, hs, b, c, d, e, f, g, h, rfl⟩
    dsimp only
    unfold _spec_l03Finder_first.b0
    rw [if_pos ⟨by decide, by decide⟩, if_pos (show (A8 (i : Int) b c d e f g h).get 0 0 ≤ (ks x).f_open from (show (i : Int) ≤ (x.o : Int) by omega)), if_pos ⟨by decide, by decide⟩]
    refine find_in (S := fun s => ∃ sn m, s = ((T : Int), sn, m) ∧ Kp T k seen sn ∧ ∃ b c d e f g h : Int, m = A8 ((i + 1 : Nat) : Int) b c d e f g h) (l1 i 0 c d e f g h sn (by omega) hs) ?_
    rintro z ⟨sn, m, rfl, hs, b, c, d, e, f, g, h, rfl⟩
    refine ⟨((T : Int), sn, A8 ((i + 1 : Nat) : Int) b c d e f g h), ?_, sn, _, rfl, hs, b, c, d, e, f, g, h, rfl⟩
    show some (Bd.next ((T : Int), sn, A8 (i64w ((i : Int) + 1)) b c d e f g h)) = _
    rw [idb (by omega)]
    rfl
  · rintro s ⟨sn, m, rfl, hs, b, c, d, e, f, g, h, rfl⟩
    dsimp only
    unfold _spec_l03Finder_first.b0
    rw [if_pos ⟨by decide, by decide⟩, if_neg (show ¬ (A8 ((x.o + 1 : Nat) : Int) b c d e f g h).get 0 0 ≤ (ks x).f_open from (show ¬ ((x.o + 1 : Nat) : Int) ≤ (x.o : Int) by omega))]
    exact ⟨_, rfl, sn, rfl, hs⟩
end
theorem pow_spec {N : Nat} (hN : 20 ≤ N) (k : Nat) (hk : k ≤ 5) : spec_l03Power.f N (k : Int) = some ((3 ^ k : Nat) : Int) := by
  have main : ∀ (M i : Nat), i ≤ k → i < M → rounds (fun s => spec_l03Power.b0 N s.1 s.2) M ((i : Int), ((3 ^ (k - i) : Nat) : Int)) = some (.go ((3 ^ k : Nat) : Int)) := by
    intro M
    induction M with
    | zero => intro i _ h; exact absurd h (Nat.not_lt_zero _)
    | succ M ih =>
      intro i hi hM
      cases i with
      | zero =>
        refine rounds_out ?_
        unfold spec_l03Power.b0
        exact if_neg (show ¬ ((0 : Nat) : Int) > 0 by decide)
      | succ i =>
        have h3 : 3 ^ (k - (i + 1)) ≤ 3 ^ 5 := Nat.pow_le_pow_right (by omega) (by omega)
        have e : spec_l03Power.b0 N ((i + 1 : Nat) : Int) ((3 ^ (k - (i + 1)) : Nat) : Int) = some (.next ((i : Int), ((3 ^ (k - i) : Nat) : Int))) := by
          unfold spec_l03Power.b0
          rw [if_pos (by omega), idb (x := ((i + 1 : Nat) : Int) - 1) (by omega), show k - i = k - (i + 1) + 1 by omega, Nat.pow_succ]
          generalize 3 ^ (k - (i + 1)) = q at h3 ⊢
          rw [idb (by omega)]
          congr 3 <;> omega
        exact (rounds_next (n := M) (b := fun s : Int × Int => spec_l03Power.b0 N s.1 s.2) (s := (((i + 1 : Nat) : Int), ((3 ^ (k - (i + 1)) : Nat) : Int))) e).trans (ih i (by omega) (by omega))
  have := main N k (Nat.le_refl _) (by omega)
  rw [Nat.sub_self] at this
  unfold spec_l03Power.f
  rw [show ((k : Int), (1 : Int)) = ((k : Int), ((3 ^ 0 : Nat) : Int)) from rfl, this]
  rfl
theorem rdL_natD {l : List Int} {i : Nat} : rdL l (i : Int) 0 = l.getD i 0 := by unfold rdL; rw [Int.toNat_natCast]
theorem stL_nat' {l : List Int} {i : Nat} {v : Int} : stL l (i : Int) v = l.set i v := by unfold stL; rw [Int.toNat_natCast]
theorem j0_eq {N T : Nat} {self : Fi → KS → Int → Option (Bool × List Int × Fi)} {x : Kn} {q : Nat} {s : List Int} (hx : ok T x) (hq : q ≤ 5) (hs : s.length = 32928) :
    _spec_l03Finder_can.j0 N self (ks x) (q : Int) (T : Int) s = some (s.getD (atI x q) 0 == 2, s, ⟨(T : Int), s⟩) := by
  have he := at_eq hx hq
  have hlt := at_lt hx hq
  unfold atE at he
  unfold _spec_l03Finder_can.j0
  rw [he, if_pos ⟨by omega, by omega⟩, rdL_natD]
theorem InvS.mono {T q r : Nat} {s : List Int} (h : InvS T q s) (hr : r ≤ q) : InvS T r s := ⟨h.1, fun y k h1 h2 h3 => h.2 y k h1 (by omega) h3⟩
theorem inv_start (T : Nat) : InvS T 5 (List.replicate 32928 0) := by
  refine ⟨List.length_replicate .., fun y r hy _ hr => .inl ?_⟩
  rw [List.getD_eq_getElem?_getD, List.getElem?_replicate, if_pos (at_lt hy hr)]
  rfl
theorem can_spec {N T : Nat} (hN : 20 ≤ N) : ∀ (q : Nat), q ≤ 5 → ∀ kf, q < kf → SelfS T q (_spec_l03Finder_can.g N kf) := by
  intro q
  induction q with
  | zero =>
    intro _ kf hk seen x hI hx
    obtain ⟨kf, rfl⟩ : ∃ j, kf = j + 1 := ⟨kf - 1, by omega⟩
    refine ⟨seen, ?_, hI, Frm.refl _ _ _⟩
    show _spec_l03Finder_can.body N (_spec_l03Finder_can.g N kf) ⟨(T : Int), seen⟩ (ks x) ((0 : Nat) : Int) = _
    unfold _spec_l03Finder_can.body
    rw [cases_spec hx, Option.bind_some]
    by_cases c : x.c ≤ 1
    · rw [if_pos (by omega), canB_t (show canP T 0 x from c)]
    · rw [if_neg (by omega), if_pos (by omega), canB_f (show ¬ canP T 0 x from c)]
  | succ q ih =>
    intro hq kf hk seen x hI hx
    obtain ⟨kf, rfl⟩ : ∃ j, kf = j + 1 := ⟨kf - 1, by omega⟩
    have hself := ih (by omega) kf (by omega)
    have hj : ∀ s : List Int, s.length = 32928 → _spec_l03Finder_can.j0 N (_spec_l03Finder_can.g N kf) (ks x) ((q + 1 : Nat) : Int) (T : Int) s = some (s.getD (atI x (q + 1)) 0 == 2, s, ⟨(T : Int), s⟩) := fun s hs => j0_eq hx hq hs
    have he := at_eq hx hq
    have hlt := at_lt hx hq
    unfold atE at he
    show ∃ seen', _spec_l03Finder_can.body N (_spec_l03Finder_can.g N kf) ⟨(T : Int), seen⟩ (ks x) ((q + 1 : Nat) : Int) = some (canB T (q + 1) x, seen', ⟨(T : Int), seen'⟩) ∧ InvS T (q + 1) seen' ∧ Frm T (q + 1) seen seen'
    unfold _spec_l03Finder_can.body
    rw [cases_spec hx, Option.bind_some]
    by_cases c : x.c ≤ 1
    · rw [if_pos (by omega), canB_t (show canP T (q + 1) x from .inl c)]
      exact ⟨seen, rfl, hI, Frm.refl _ _ _⟩
    · rw [if_neg (by omega), if_neg (by omega), Option.bind_some, pow_spec hN (q + 1) hq, Option.bind_some]
      by_cases c2 : x.c ≤ 3 ^ (q + 1)
      · have hlen := hI.1
        rw [if_neg (by omega), he]
        dsimp only
        have hg : (0 : Int) ≤ ((atI x (q + 1) : Nat) : Int) ∧ ((atI x (q + 1) : Nat) : Int) < (seen.length : Int) := ⟨by omega, by omega⟩
        rw [if_pos hg, rdL_natD]
        rcases hI.2 x (q + 1) hx (Nat.le_refl _) hq with hv | ⟨hv, hcv⟩ | ⟨hv, hcv⟩
        · rw [if_pos hv, if_pos hg, stL_nat']
          have hne : ∀ (y : Kn) (r : Nat), ok T y → r ≤ 5 → ¬ (x = y ∧ q + 1 = r) → ∀ (l : List Int) (v : Int), l.length = 32928 → (l.set (atI x (q + 1)) v).getD (atI y r) 0 = l.getD (atI y r) 0 := by
            intro y r hy hr hn l v hl
            rw [getD_set' (by omega), if_neg (fun g => hn (at_inj hx hy hq hr g))]
          have hat : ∀ (l : List Int) (v : Int), l.length = 32928 → (l.set (atI x (q + 1)) v).getD (atI x (q + 1)) 0 = v := by
            intro l v hl
            rw [getD_set' (by omega), if_pos rfl]
          have I0 : InvS T q (seen.set (atI x (q + 1)) 1) := by
            refine ⟨by rw [List.length_set]; exact hlen, fun y r hy hrq hr => ?_⟩
            rw [hne y r hy hr (fun g => by omega) seen 1 hlen]
            exact hI.2 y r hy (by omega) hr
          obtain ⟨b, m, s1, e1, I1, F1, hb⟩ := first_eq hself hN (by omega) hx I0
          have hbc : b = canB T (q + 1) x := by
            cases b with
            | true =>
              obtain ⟨m, h1, h2⟩ := hb.1 rfl
              exact (canB_t (show canP T (q + 1) x from .inr ⟨c2, m, h1, h2⟩)).symm
            | false =>
              refine (canB_f ?_).symm
              rintro (h | ⟨_, m, h1, h2⟩)
              · exact c h
              · exact Bool.false_ne_true (hb.2 ⟨m, h1, h2⟩)
          have hF : ∀ (y : Kn) (r : Nat), ok T y → q < r → r ≤ 5 → ¬ (x = y ∧ q + 1 = r) → s1.getD (atI y r) 0 = seen.getD (atI y r) 0 := by
            intro y r hy hqr hr hn
            rw [F1 y r hy hqr hr, hne y r hy hr hn seen 1 hlen]
          rw [e1, Option.bind_some]
          dsimp only
          rw [hbc]
          cases hcv : canB T (q + 1) x with
          | true =>
            have hg1 : (0 : Int) ≤ ((atI x (q + 1) : Nat) : Int) ∧ ((atI x (q + 1) : Nat) : Int) < (s1.length : Int) := ⟨by omega, by have := I1.1; omega⟩
            rw [if_pos rfl, if_pos hg1, stL_nat', hj _ (by rw [List.length_set]; exact I1.1), hat s1 2 I1.1]
            refine ⟨_, rfl, ⟨by rw [List.length_set]; exact I1.1, fun y r hy hrq hr => ?_⟩, fun y r hy hqr hr => ?_⟩
            · by_cases hn : x = y ∧ q + 1 = r
              · obtain ⟨rfl, rfl⟩ := hn
                exact .inr (.inr ⟨hat s1 2 I1.1, hcv⟩)
              · rw [hne y r hy hr hn s1 2 I1.1]
                by_cases hrq' : r ≤ q
                · exact I1.2 y r hy hrq' hr
                · rw [hF y r hy (by omega) hr hn]
                  exact hI.2 y r hy hrq hr
            · rw [hne y r hy hr (fun g => by omega) s1 2 I1.1, hF y r hy (by omega) hr (fun g => by omega)]
          | false =>
            have h1 : s1.getD (atI x (q + 1)) 0 = 1 := by rw [F1 x (q + 1) hx (by omega) hq, hat seen 1 hlen]
            rw [if_neg Bool.false_ne_true, hj _ I1.1, h1]
            refine ⟨s1, rfl, ⟨I1.1, fun y r hy hrq hr => ?_⟩, fun y r hy hqr hr => hF y r hy (by omega) hr (fun g => by omega)⟩
            by_cases hn : x = y ∧ q + 1 = r
            · obtain ⟨rfl, rfl⟩ := hn
              exact .inr (.inl ⟨h1, hcv⟩)
            · by_cases hrq' : r ≤ q
              · exact I1.2 y r hy hrq' hr
              · rw [hF y r hy (by omega) hr hn]
                exact hI.2 y r hy hrq hr
        · rw [if_neg (by omega), hj seen hlen, hv, hcv]
          exact ⟨seen, rfl, hI, Frm.refl _ _ _⟩
        · rw [if_neg (by omega), hj seen hlen, hv, hcv]
          exact ⟨seen, rfl, hI, Frm.refl _ _ _⟩
      · rw [if_pos (by omega)]
        refine ⟨seen, ?_, hI, Frm.refl _ _ _⟩
        rw [canB_f (fun h => ?_)]
        exact c2 (canP_le h)
end Go.Proofs.YtgpdpedpmhonkaaX
