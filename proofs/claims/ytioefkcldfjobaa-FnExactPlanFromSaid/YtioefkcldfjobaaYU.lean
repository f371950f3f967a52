/- Plain laws: a turn of the glasses, and the wait for the next glass, are the same in the specification and in the code. -/
import Derived.Test.YtioefkcldfjobaaYT
namespace Go.Proofs.YtioefkcldfjobaaX
open Go
set_option linter.unusedVariables false

theorem okT_len {a : List Int} {c : Ar Int 4} (h : okT a c) : 1 ≤ a.length ∧ a.length ≤ 4 ∧ okG a := by
  by_cases hk : 1 ≤ a.length ∧ a.length ≤ 4 ∧ okG a
  · exact hk
  · have := h.1
    rw [st_bad hk] at this
    omega
theorem getD_le {a : List Int} (h : okG a) (i : Nat) : 0 ≤ a.getD i 0 ∧ a.getD i 0 ≤ 40 := by
  by_cases hi : i < a.length
  · rw [getD_in hi]
    have := h _ (List.getElem_mem hi)
    omega
  · rw [getD_out hi]; omega

theorem get_set_same {c : Ar Int 4} {i : Nat} {v : Int} (hi : i < 4) : (c.set (i : Int) v).l.getD i 0 = v := by
  have := c.h
  simp [Ar.set, List.getD, show i < c.l.length by omega]
theorem get_set_other {c : Ar Int 4} {i j : Nat} {v : Int} (h : ¬ i = j) : (c.set (i : Int) v).l.getD j 0 = c.l.getD j 0 := by
  simp [Ar.set, List.getD, List.getElem?_set_ne h]
theorem fits_set {a : List Int} {c : Ar Int 4} {i : Nat} {v : Int} (hf : fits a c) (hi : i < 4) (hv : 0 ≤ v ∧ v ≤ a.getD i 0) : fits a (c.set (i : Int) v) := by
  intro j hj
  by_cases h : i = j
  · subst h; rw [get_set_same hi]; exact hv
  · rw [get_set_other h]; exact hf j hj
theorem set_same {c : Ar Int 4} {i : Nat} {v : Int} (hi : i < 4) (h : c.l.getD i 0 = v) : c.set (i : Int) v = c := by
  apply Ar.ext'
  have hl := c.h
  have hi' : i < c.l.length := by omega
  have : c.l[i] = v := by rw [← h]; simp [List.getD, hi']
  simp [Ar.set, ← this]

theorem bit_all : ∀ n : Nat, n < 256 → ∀ i : Nat, i < 4 → ((shrI .u8 (n : Int) (i : Int)).tmod 2 = 1 ↔ bAnd .u8 (shrI .u8 (n : Int) (i : Int)) 1 = 1) := by decide +kernel
theorem bit_eq {x : Int} (h0 : 0 ≤ x) (h1 : x ≤ 255) {i : Nat} (hi : i < 4) : ((shrI .u8 x (i : Int)).tmod 2 = 1 ↔ bAnd .u8 (shrI .u8 x (i : Int)) 1 = 1) := by
  have := bit_all x.toNat (by omega) i hi
  rwa [Int.toNat_of_nonneg h0] at this

/-- A turn of the glasses. -/
theorem turn_eq {N : Nat} {a : List Int} {c : Ar Int 4} {x : Int} (ho : okG a) (hl : a.length ≤ 4) (hf : fits a c) (h0 : 0 ≤ x) (h1 : x ≤ 255) (hN : 5 < N) :
    ∃ r, spec_l07Turn.f N a c x = some r ∧ _impl_Glasses_turned.f N a c x = some r ∧ fits a r := by
  obtain ⟨e, e', he, he', r, hr, hr', hfr⟩ := rounds_both (b := fun s => spec_l07Turn.b0 N a x s.1 s.2) (b' := fun s => _impl_Glasses_turned.b0 N a x s.1 s.2)
    (R := fun s t => s = t ∧ fits a s.1 ∧ ∃ i : Nat, s.2 = i ∧ i ≤ a.length) (m := fun s => a.length - s.2.toNat)
    (Q := fun e e' => ∃ r, e = .go r ∧ e' = .go r ∧ fits a r)
    (by
      rintro ⟨c, _⟩ _ ⟨rfl, hf, i, rfl, hi⟩
      simp only at hf
      by_cases hl' : i < a.length
      · right
        have g1 : (i : Int) < a.length := by omega
        have g2 : (0 : Int) ≤ i := by omega
        have g4 : (i : Int) < 4 := by omega
        have ui : u64w (i : Int) = i := u64w_id (by omega) (by omega)
        have bx := bit_eq h0 h1 (show i < 4 by omega)
        have hc := hf i (by omega)
        have ha := getD_le ho i
        rw [getD_in hl'] at hc ha
        have hv : 0 ≤ a[i] - c.l.getD i 0 ∧ a[i] - c.l.getD i 0 ≤ a[i] := by omega
        have hw : i16w (a[i] - c.l.getD i 0) = a[i] - c.l.getD i 0 := i16w_id (by omega) (by omega)
        by_cases hb : bAnd .u8 (shrI .u8 x (i : Int)) 1 = 1
        · refine ⟨(c.set (i : Int) (a[i] - c.l.getD i 0), ((i + 1 : Nat) : Int)), _, ?_, ?_, ⟨rfl, fits_set hf (by omega) (by rw [getD_in hl']; exact hv), i + 1, rfl, by omega⟩, ?_⟩
          · simp only [spec_l07Turn.b0, spec_l07Turn.j2, g1, g2, g4, ui, and_self, if_true, bx.2 hb, rdL_nat hl', ar_get, hw, i64w_succ (show i < 4 by omega) (by decide)]
          · simp only [_impl_Glasses_turned.b0, _impl_Glasses_turned.j2, g1, g2, g4, and_self, if_true, hb, rdL_nat hl', ar_get, hw, i64w_succ (show i < 4 by omega) (by decide)]
          · simp only [Int.toNat_natCast]; omega
        · refine ⟨(c, ((i + 1 : Nat) : Int)), _, ?_, ?_, ⟨rfl, hf, i + 1, rfl, by omega⟩, ?_⟩
          · simp only [spec_l07Turn.b0, spec_l07Turn.j2, g1, g2, ui, and_self, if_true, if_false, mt bx.1 hb, i64w_succ (show i < 4 by omega) (by decide)]
          · simp only [_impl_Glasses_turned.b0, _impl_Glasses_turned.j2, g1, g2, and_self, if_true, if_false, hb, i64w_succ (show i < 4 by omega) (by decide)]
          · simp only [Int.toNat_natCast]; omega
      · left
        have g1 : ¬ (i : Int) < a.length := by omega
        exact ⟨.go c, .go c, by simp only [spec_l07Turn.b0, if_neg g1], by simp only [_impl_Glasses_turned.b0, if_neg g1], c, rfl, rfl, hf⟩)
    N N (c, 0) (c, 0) ⟨rfl, hf, 0, rfl, Nat.zero_le _⟩ (by simp only [Int.toNat_zero]; omega) (by simp only [Int.toNat_zero]; omega)
  subst hr hr'
  refine ⟨r, ?_, ?_, hfr⟩
  · simp only [spec_l07Turn.f, he]; rfl
  · simp only [_impl_Glasses_turned.f, he']; rfl

/-- The shortest wait. -/
theorem least_eq {N : Nat} {a : List Int} {c : Ar Int 4} (ho : okG a) (hf : fits a c) (hN : 5 < N) :
    ∃ m : Int, rounds (fun s => spec_l07Wait.b0 N c s.1 s.2) N (0, 0) = some (.go m) ∧ rounds (fun s => impl_wait.b0 N c s.1 s.2) N (0, 0) = some (.go m) ∧
      0 ≤ m ∧ m ≤ 40 ∧ ∀ j : Nat, j < 4 → 0 < c.l.getD j 0 → 0 < m ∧ m ≤ c.l.getD j 0 := by
  obtain ⟨e, e', he, he', m, hr, hr', hm⟩ := rounds_both (b := fun s => spec_l07Wait.b0 N c s.1 s.2) (b' := fun s => impl_wait.b0 N c s.1 s.2)
    (R := fun s t => s = t ∧ (0 ≤ s.1 ∧ s.1 ≤ 40) ∧ ∃ i : Nat, s.2 = i ∧ i ≤ 4 ∧ ∀ j : Nat, j < i → 0 < c.l.getD j 0 → 0 < s.1 ∧ s.1 ≤ c.l.getD j 0) (m := fun s => 4 - s.2.toNat)
    (Q := fun e e' => ∃ m, e = .go m ∧ e' = .go m ∧ 0 ≤ m ∧ m ≤ 40 ∧ ∀ j : Nat, j < 4 → 0 < c.l.getD j 0 → 0 < m ∧ m ≤ c.l.getD j 0)
    (by
      rintro ⟨m, _⟩ _ ⟨rfl, hm, i, rfl, hi, hh⟩
      simp only at hm hh
      by_cases hl' : i < 4
      · right
        have g1 : (i : Int) < 4 := by omega
        have g2 : (0 : Int) ≤ i := by omega
        have hc := hf i hl'
        have ha := getD_le ho i
        have key : ∀ m' : Int, (m' = m ∧ (c.l.getD i 0 > 0 → 0 < m ∧ m ≤ c.l.getD i 0)) ∨ (m' = c.l.getD i 0 ∧ c.l.getD i 0 > 0 ∧ (m = 0 ∨ c.l.getD i 0 < m)) →
            ((m', ((i + 1 : Nat) : Int)) : Int × Int) = (m', ((i + 1 : Nat) : Int)) ∧ (0 ≤ m' ∧ m' ≤ 40) ∧ ∃ k : Nat, ((i + 1 : Nat) : Int) = k ∧ k ≤ 4 ∧ ∀ j : Nat, j < k → 0 < c.l.getD j 0 → 0 < m' ∧ m' ≤ c.l.getD j 0 := by
          intro m' hq
          refine ⟨rfl, by omega, i + 1, rfl, by omega, fun j hj hp => ?_⟩
          by_cases e : j = i
          · subst e; omega
          · have := hh j (by omega) hp
            omega
        have ms : ∀ x : Int, 4 - Int.toNat ((i + 1 : Nat) : Int) < 4 - Int.toNat (i : Int) := by intro _; simp only [Int.toNat_natCast]; omega
        by_cases h1 : c.l.getD i 0 > 0
        · by_cases h2 : m = 0
          · refine ⟨(c.l.getD i 0, ((i + 1 : Nat) : Int)), _, ?_, ?_, key _ (.inr ⟨rfl, h1, .inl h2⟩), ms 0⟩
            · simp only [spec_l07Wait.b0, spec_l07Wait.j5, g1, g2, and_self, if_true, ar_get, h1, h2, i64w_succ hl' (by decide)]
            · simp only [impl_wait.b0, impl_wait.j4, g1, g2, and_self, if_true, ar_get, h1, h2, i64w_succ hl' (by decide)]
          · by_cases h3 : c.l.getD i 0 < m
            · refine ⟨(c.l.getD i 0, ((i + 1 : Nat) : Int)), _, ?_, ?_, key _ (.inr ⟨rfl, h1, .inr h3⟩), ms 0⟩
              · simp only [spec_l07Wait.b0, spec_l07Wait.j5, g1, g2, and_self, if_true, if_false, ar_get, h1, h2, h3, i64w_succ hl' (by decide)]
              · simp only [impl_wait.b0, impl_wait.j4, g1, g2, and_self, if_true, if_false, ar_get, h1, h2, h3, i64w_succ hl' (by decide)]
            · refine ⟨(m, ((i + 1 : Nat) : Int)), _, ?_, ?_, key _ (.inl ⟨rfl, fun _ => by omega⟩), ms 0⟩
              · simp only [spec_l07Wait.b0, spec_l07Wait.j5, g1, g2, and_self, if_true, if_false, ar_get, h1, h2, h3, i64w_succ hl' (by decide)]
              · simp only [impl_wait.b0, impl_wait.j4, g1, g2, and_self, if_true, if_false, ar_get, h1, h2, h3, i64w_succ hl' (by decide)]
        · refine ⟨(m, ((i + 1 : Nat) : Int)), _, ?_, ?_, key _ (.inl ⟨rfl, fun h => absurd h h1⟩), ms 0⟩
          · simp only [spec_l07Wait.b0, spec_l07Wait.j5, g1, g2, and_self, if_true, if_false, ar_get, h1, i64w_succ hl' (by decide)]
          · simp only [impl_wait.b0, impl_wait.j4, g1, g2, and_self, if_true, if_false, ar_get, h1, i64w_succ hl' (by decide)]
      · left
        obtain rfl : i = 4 := by omega
        exact ⟨.go m, .go m, rfl, rfl, m, rfl, rfl, hm.1, hm.2, hh⟩)
    N N (0, 0) (0, 0) ⟨rfl, by decide, 0, rfl, Nat.zero_le _, fun j h => absurd h (Nat.not_lt_zero _)⟩ (by simp only [Int.toNat_zero]; omega) (by simp only [Int.toNat_zero]; omega)
  subst hr hr'
  exact ⟨m, he, he', hm⟩

/-- The wait. -/
theorem wait_eq {N : Nat} {a : List Int} {c : Ar Int 4} (ho : okG a) (hf : fits a c) (hN : 5 < N) :
    ∃ r : Ar Int 4 × Int, spec_l07Wait.f N c = some r ∧ impl_wait.f N c = some r ∧ fits a r.1 ∧ 0 ≤ r.2 ∧ r.2 ≤ 40 := by
  obtain ⟨m, hs, hi, h0, h40, hm⟩ := least_eq ho hf hN
  obtain ⟨e, e', he, he', r, hr, hr', hfr⟩ := rounds_both (b := fun s => spec_l07Wait.b2 N m s.1 s.2) (b' := fun s => impl_wait.b2 N m s.1 s.2)
    (R := fun s t => s = t ∧ fits a s.1 ∧ ∃ i : Nat, s.2 = i ∧ i ≤ 4 ∧ ∀ j : Nat, i ≤ j → j < 4 → s.1.l.getD j 0 = c.l.getD j 0) (m := fun s => 4 - s.2.toNat)
    (Q := fun e e' => ∃ r, e = .go r ∧ e' = .go r ∧ fits a r)
    (by
      rintro ⟨d, _⟩ _ ⟨rfl, hf, i, rfl, hi, hh⟩
      simp only at hf hh
      by_cases hl' : i < 4
      · right
        have g1 : (i : Int) < 4 := by omega
        have g2 : (0 : Int) ≤ i := by omega
        have hc := hf i hl'
        have ha := getD_le ho i
        have hd := hh i (Nat.le_refl _) hl'
        have hmi := hm i hl'
        have hw : i16w (d.l.getD i 0 - m) = d.l.getD i 0 - m := i16w_id (by omega) (by omega)
        have ms : 4 - Int.toNat ((i + 1 : Nat) : Int) < 4 - Int.toNat (i : Int) := by simp only [Int.toNat_natCast]; omega
        by_cases h1 : d.l.getD i 0 > 0
        · have hmx : mxI (d.l.getD i 0 - m) 0 = d.l.getD i 0 - m := by
            unfold mxI
            rw [if_neg (by omega)]
          refine ⟨(d.set (i : Int) (d.l.getD i 0 - m), ((i + 1 : Nat) : Int)), _, ?_, ?_, ⟨rfl, fits_set hf hl' (by omega), i + 1, rfl, by omega, fun j h1 h2 => by rw [get_set_other (by omega)]; exact hh j (by omega) h2⟩, ms⟩
          · simp only [spec_l07Wait.b2, spec_l07Wait.j4, g1, g2, and_self, if_true, ar_get, h1, hw, i64w_succ hl' (by decide)]
          · simp only [impl_wait.b2, g1, g2, and_self, if_true, ar_get, hw, hmx, i64w_succ hl' (by decide)]
        · have hz : d.l.getD i 0 = 0 := by omega
          have hmx : mxI (i16w (d.l.getD i 0 - m)) 0 = 0 := by
            rw [hw]
            unfold mxI
            split <;> omega
          refine ⟨(d, ((i + 1 : Nat) : Int)), _, ?_, ?_, ⟨rfl, hf, i + 1, rfl, by omega, fun j h1 h2 => hh j (by omega) h2⟩, ms⟩
          · simp only [spec_l07Wait.b2, spec_l07Wait.j4, g1, g2, and_self, if_true, if_false, ar_get, h1, i64w_succ hl' (by decide)]
          · simp only [impl_wait.b2, g1, g2, and_self, if_true, ar_get, hmx, set_same hl' hz, i64w_succ hl' (by decide)]
      · left
        obtain rfl : i = 4 := by omega
        exact ⟨.go d, .go d, rfl, rfl, d, rfl, rfl, hf⟩)
    N N (c, 0) (c, 0) ⟨rfl, hf, 0, rfl, Nat.zero_le _, fun j _ _ => rfl⟩ (by simp only [Int.toNat_zero]; omega) (by simp only [Int.toNat_zero]; omega)
  subst hr hr'
  refine ⟨(r, m), ?_, ?_, hfr, h0, h40⟩
  · simp only [spec_l07Wait.f, hs, Option.bind_some, Ex.fin, spec_l07Wait.a0, he, spec_l07Wait.a2, i64w_id (x := m) (by omega) (by omega)]
  · simp only [impl_wait.f, hi, Option.bind_some, Ex.fin, impl_wait.a0, he', impl_wait.a2, i64w_id (x := m) (by omega) (by omega)]

theorem sets_all : ∀ n : Nat, n ≤ 4 → shlI .i64 1 (n : Int) = 2 ^ n := by decide +kernel
theorem sets_eq {N : Nat} {a : List Int} (h : a.length ≤ 4) : spec_l07Sets.f N a = some (2 ^ a.length) := by
  simp only [spec_l07Sets.f]
  rw [u64w_id (by omega) (by omega), if_pos (by omega), sets_all _ h]
end Go.Proofs.YtioefkcldfjobaaX
