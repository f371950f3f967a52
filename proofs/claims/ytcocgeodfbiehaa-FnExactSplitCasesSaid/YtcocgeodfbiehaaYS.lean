/- False coins, plainly: tasks, weighings, cases. -/
import Derived.Test.YtcocgeodfbiehaaXR
import Derived.Test.YtcocgeodfbiehaaXWalk
namespace Go.Proofs.YtcocgeodfbiehaaX
open Go
set_option linter.unusedVariables false
set_option linter.unusedSimpArgs false
abbrev Tk := S_laws_Task
abbrev Cs := S_impl_Case
abbrev We := Ar Int 14
/-- A loop that ends at the first element with p. -/
theorem rounds_any {α ρ : Type} {b : Int → Option (Bd ρ Unit Int)} (a : List α) (p : α → Bool) (r : Nat → ρ) {N : Nat} (hN : a.length < N)
    (h : ∀ i (hi : i < a.length), b (i : Int) = if p a[i] = true then some (.out (.ret (r i))) else some (.next ((i + 1 : Nat) : Int)))
    (he : b (a.length : Int) = some (.out (.go ()))) : ∃ e, rounds b N 0 = some e ∧ (if a.any p = true then ∃ i, e = .ret (r i) else e = .go ()) := by
  have main : ∀ (n k : Nat), k ≤ a.length → a.length - k < n → ∃ e, rounds b n (k : Int) = some e ∧ (if (a.drop k).any p = true then ∃ i, e = .ret (r i) else e = .go ()) := by
    intro n
    induction n with
    | zero => intro k _ hk; omega
    | succ n ih =>
      intro k hk hn
      by_cases hl : k < a.length
      · have hb := h k hl
        by_cases hp : p a[k] = true
        · rw [if_pos hp] at hb
          have e1 : (a.drop k).any p = true := by rw [List.drop_eq_getElem_cons hl, List.any_cons, hp]; rfl
          exact ⟨_, rounds_out hb, by rw [if_pos e1]; exact ⟨_, rfl⟩⟩
        · rw [if_neg hp] at hb
          obtain ⟨e, h1, h2⟩ := ih (k + 1) hl (by omega)
          have e1 : (a.drop k).any p = (a.drop (k + 1)).any p := by rw [List.drop_eq_getElem_cons hl, List.any_cons, (Bool.not_eq_true _).mp hp, Bool.false_or]
          exact ⟨e, (rounds_next hb).trans h1, by rw [e1]; exact h2⟩
      · obtain rfl : k = a.length := by omega
        exact ⟨_, rounds_out he, by simp⟩
  exact main N 0 (Nat.zero_le _) (by omega)
/-- A loop that goes on while all is well. -/
theorem rounds_all {α ρ : Type} {b : Bool × Int → Option (Bd ρ Bool (Bool × Int))} (a : List α) (p : α → Bool) {N : Nat} (hN : a.length + 1 < N)
    (h : ∀ i (hi : i < a.length), b (true, (i : Int)) = some (.next (p a[i], ((i + 1 : Nat) : Int))))
    (hf : ∀ i, b (false, i) = some (.out (.go false))) (he : b (true, (a.length : Int)) = some (.out (.go true))) : rounds b N (true, 0) = some (.go (a.all p)) := by
  have main : ∀ (n k : Nat), k ≤ a.length → a.length - k + 1 < n → rounds b n (true, (k : Int)) = some (.go ((a.drop k).all p)) := by
    intro n
    induction n with
    | zero => intro k _ hk; omega
    | succ n ih =>
      intro k hk hn
      by_cases hl : k < a.length
      · rw [rounds_next (h k hl), List.drop_eq_getElem_cons hl, List.all_cons]
        cases hp : p a[k] with
        | true => rw [ih (k + 1) hl (by omega), Bool.true_and]
        | false =>
          obtain ⟨m, rfl⟩ : ∃ m, n = m + 1 := ⟨n - 1, by omega⟩
          rw [rounds_out (hf _), Bool.false_and]
      · obtain rfl : k = a.length := by omega
        rw [rounds_out he]
        simp
  exact main N 0 (Nat.zero_le _) (by omega)

/- tasks -/
def okT (t : Tk) : Bool := decide (1 ≤ t.f_Coins ∧ t.f_Coins ≤ 13) && decide (0 ≤ t.f_Kind ∧ t.f_Kind ≤ 2)
def InT (t : Tk) : Prop := (-128 ≤ t.f_Coins ∧ t.f_Coins ≤ 127) ∧ (-128 ≤ t.f_Kind ∧ t.f_Kind ≤ 127)
theorem okT_at {t : Tk} (h : okT t = true) : (1 ≤ t.f_Coins ∧ t.f_Coins ≤ 13) ∧ (0 ≤ t.f_Kind ∧ t.f_Kind ≤ 2) := by
  unfold okT at h
  simpa using h
theorem in_dec (a b c : Int) : spec_l00In.f 0 a b c = some (decide (b ≤ a ∧ a ≤ c)) ∧ impl_within.f 0 a b c = some (decide (b ≤ a ∧ a ≤ c)) := by
  unfold spec_l00In.f impl_within.f
  by_cases h : b ≤ a
  · rw [if_pos h]
    simp [h]
  · rw [if_neg h]
    simp [h]
theorem l00In_eq (N : Nat) (a b c : Int) : spec_l00In.f N a b c = some (decide (b ≤ a ∧ a ≤ c)) := (in_dec a b c).1
theorem within_eq (N : Nat) (a b c : Int) : impl_within.f N a b c = some (decide (b ≤ a ∧ a ≤ c)) := (in_dec a b c).2
theorem okT_spec (N : Nat) {t : Tk} (h : InT t) : spec_l03Ok.f N t = some (okT t) := by
  obtain ⟨h1, h2⟩ := h
  simp only [spec_l03Ok.f, l00In_eq, i64w_id (x := t.f_Coins) (by omega) (by omega), i64w_id (x := t.f_Kind) (by omega) (by omega), Option.bind_some, okT]
  by_cases c : 1 ≤ t.f_Coins ∧ t.f_Coins ≤ 13
  · simp [c]
  · simp [c]
theorem okT_impl (N : Nat) {t : Tk} (h : InT t) : impl_ValidTask.f N t = some (okT t) := by
  obtain ⟨h1, h2⟩ := h
  simp only [impl_ValidTask.f, impl_isKind.f, within_eq, i64w_id (x := t.f_Coins) (by omega) (by omega), i64w_id (x := t.f_Kind) (by omega) (by omega), Option.bind_some, okT]
  by_cases c : 1 ≤ t.f_Coins ∧ t.f_Coins ≤ 13
  · simp [c]
  · simp [c]

/- weighings -/
def side (w : We) (j : Int) : Prop := -1 ≤ w.get j 0 ∧ w.get j 0 ≤ 1
theorem weigh_both {N : Nat} (hN : 40 < N) {t : Tk} (ht : InT t) (hk : okT t = true) (w : We) : ∃ b, spec_l03Weighing.f N t w = some b ∧ impl_ValidWeighing.f N t w = some b ∧ (b = true → ∀ j : Nat, j < 14 → side w j) := by
  obtain ⟨⟨c1, c2⟩, _⟩ := okT_at hk
  obtain ⟨e, e', h1, h2, h3⟩ := rounds_both (b := fun s => spec_l03Weighing.b0 N w t s.1 s.2) (b' := fun s => impl_ValidWeighing.b0 N w t s.1 s.2)
    (fun s s' => s = s' ∧ 0 ≤ s.2 ∧ s.2 ≤ 14 ∧ -s.2 ≤ s.1 ∧ s.1 ≤ s.2 ∧ ∀ j : Nat, (j : Int) < s.2 → side w j) (fun s => (14 - s.2).toNat)
    (fun e e' => (e = .ret false ∧ e' = .ret false) ∨ ∃ x, e = .go x ∧ e' = .go x ∧ ∀ j : Nat, j < 14 → side w j) (by
    rintro ⟨x, i⟩ ⟨x', i'⟩ ⟨r1, r2, r3, r4, r5, r6⟩
    obtain ⟨rfl, rfl⟩ := Prod.mk.inj r1
    simp only at r2 r3 r4 r5 r6
    obtain ⟨i, rfl⟩ := Int.eq_ofNat_of_zero_le r2
    by_cases hi : i < 14
    · have g1 : ((i : Nat) : Int) < 14 := by omega
      have g2 : (0 : Int) ≤ (i : Int) := by omega
      have hn : i64w ((i : Int) + 1) = ((i + 1 : Nat) : Int) := by rw [i64w_id (by omega) (by omega)]; omega
      simp only [spec_l03Weighing.b0, impl_ValidWeighing.b0, g1, g2, and_self, if_true, spec_l03There.f, _impl_Task_places.f, spec_l03Weighing.j2, impl_ValidWeighing.j2, hn, i64w_id (x := t.f_Coins) (by omega) (by omega), i64w_id (x := t.f_Coins + 1) (by omega) (by omega)]
      by_cases d1 : w.get (i : Int) 0 < -1
      · left; simp only [if_pos d1]; exact ⟨_, _, rfl, rfl, .inl ⟨rfl, rfl⟩⟩
      · by_cases d2 : w.get (i : Int) 0 > 1
        · left; simp only [if_neg d1, if_pos d2]; exact ⟨_, _, rfl, rfl, .inl ⟨rfl, rfl⟩⟩
        · have hw1 := i64w_id (x := w.get (i : Int) 0) (by omega) (by omega)
          have hw2 := i64w_id (x := x + w.get (i : Int) 0) (by omega) (by omega)
          have hnext : ∀ j : Nat, (j : Int) < ((i + 1 : Nat) : Int) → side w j := by
            intro j hj
            by_cases e : j = i
            · subst e; exact ⟨by omega, by omega⟩
            · exact r6 j (by omega)
          simp only [if_neg d1, if_neg d2, hw1, hw2]
          by_cases d3 : w.get (i : Int) 0 = 0
          · right; simp only [if_pos d3]
            exact ⟨_, _, rfl, rfl, ⟨rfl, by dsimp only; omega, by dsimp only; omega, by dsimp only; omega, by dsimp only; omega, hnext⟩, by dsimp only; omega⟩
          · simp only [if_neg d3]
            by_cases d4 : (i : Int) < t.f_Coins
            · right
              have d5 : ¬ ((i : Int) ≥ (if t.f_Good = true then t.f_Coins + 1 else t.f_Coins)) := by split <;> omega
              refine ⟨(x + w.get (i : Int) 0, ((i + 1 : Nat) : Int)), (x + w.get (i : Int) 0, ((i + 1 : Nat) : Int)), by simp only [if_pos d4, Option.bind_some, if_true], ?_, ⟨rfl, by dsimp only; omega, by dsimp only; omega, by dsimp only; omega, by dsimp only; omega, hnext⟩, by dsimp only; omega⟩
              cases hg : t.f_Good with
              | true => rw [hg] at d5; simp only [if_true] at d5 ⊢; simp only [Option.bind_some, if_neg d5]
              | false => rw [hg] at d5; simp only [Bool.false_eq_true, if_false] at d5 ⊢; simp only [Option.bind_some, if_neg d5]
            · by_cases d5 : (i : Int) = t.f_Coins
              · cases hg : t.f_Good with
                | true =>
                  right
                  have d6 : ¬ ((i : Int) ≥ t.f_Coins + 1) := by omega
                  exact ⟨(x + w.get (i : Int) 0, ((i + 1 : Nat) : Int)), (x + w.get (i : Int) 0, ((i + 1 : Nat) : Int)), by simp only [if_neg d4, if_pos d5, Option.bind_some, if_true], by simp only [if_true, Option.bind_some, if_neg d6], ⟨rfl, by dsimp only; omega, by dsimp only; omega, by dsimp only; omega, by dsimp only; omega, hnext⟩, by dsimp only; omega⟩
                | false =>
                  left
                  have d6 : (i : Int) ≥ t.f_Coins := by omega
                  exact ⟨.ret false, .ret false, by simp only [if_neg d4, if_pos d5, Option.bind_some, Bool.false_eq_true, if_false], by simp only [Bool.false_eq_true, if_false, Option.bind_some, if_pos d6], .inl ⟨rfl, rfl⟩⟩
              · left
                have d6 : (i : Int) ≥ t.f_Coins + 1 := by omega
                have d7 : (i : Int) ≥ t.f_Coins := by omega
                refine ⟨.ret false, .ret false, by simp only [if_neg d4, if_neg d5, Option.bind_some, Bool.false_eq_true, if_false], ?_, .inl ⟨rfl, rfl⟩⟩
                cases t.f_Good with
                | true => simp only [if_true, Option.bind_some, if_pos d6]
                | false => simp only [Bool.false_eq_true, if_false, Option.bind_some, if_pos d7]
    · left
      have g1 : ¬ ((i : Nat) : Int) < 14 := by omega
      simp only [spec_l03Weighing.b0, impl_ValidWeighing.b0, g1, if_false]
      exact ⟨_, _, rfl, rfl, .inr ⟨_, rfl, rfl, fun j hj => r6 j (by omega)⟩⟩) N N (0, 0) (0, 0) ⟨rfl, by decide, by decide, by decide, by decide, fun j hj => by dsimp only at hj; omega⟩ (by simp; omega) (by simp; omega)
  simp only [spec_l03Weighing.f, impl_ValidWeighing.f, okT_impl N ht, hk, Option.bind_some, if_true, h1, h2]
  rcases h3 with ⟨rfl, rfl⟩ | ⟨x, rfl, rfl, hs⟩
  · exact ⟨_, rfl, rfl, fun h => by cases h⟩
  · exact ⟨_, rfl, rfl, fun _ => hs⟩
def wv (N : Nat) (t : Tk) (w : We) : Bool := (spec_l03Weighing.f N t w).getD false
theorem wv_spec {N : Nat} (hN : 40 < N) {t : Tk} (ht : InT t) (hk : okT t = true) (w : We) : spec_l03Weighing.f N t w = some (wv N t w) ∧ impl_ValidWeighing.f N t w = some (wv N t w) ∧ (wv N t w = true → ∀ j : Nat, j < 14 → side w j) := by
  obtain ⟨b, h1, h2, h3⟩ := weigh_both hN ht hk w
  have e : wv N t w = b := by unfold wv; rw [h1]; rfl
  rw [e]
  exact ⟨h1, h2, h3⟩

/- cases -/
def csL (t : Tk) : List Cs := (impl_casesOf.f 20 t.f_Coins t.f_Kind t.f_None).getD []
theorem cases_tab : ∀ c : Nat, c < 14 → ∀ k : Nat, k < 3 → ∀ n g : Bool, spec_l03Cases.f 20 ⟨(c : Int), (k : Int), n, g⟩ = impl_casesOf.f 20 (c : Int) (k : Int) n ∧ impl_casesOf.f 20 (c : Int) (k : Int) n = some (csL ⟨(c : Int), (k : Int), n, g⟩) ∧ (csL ⟨(c : Int), (k : Int), n, g⟩).length ≤ 27 ∧ ∀ x ∈ csL ⟨(c : Int), (k : Int), n, g⟩, -1 ≤ x.f_Coin ∧ x.f_Coin ≤ 12 := by decide +kernel
theorem cases_at {t : Tk} (hk : okT t = true) : spec_l03Cases.f 20 t = some (csL t) ∧ impl_casesOf.f 20 t.f_Coins t.f_Kind t.f_None = some (csL t) ∧ (csL t).length ≤ 27 ∧ ∀ x ∈ csL t, -1 ≤ x.f_Coin ∧ x.f_Coin ≤ 12 := by
  obtain ⟨⟨c1, c2⟩, k1, k2⟩ := okT_at hk
  obtain ⟨c, k, n, g⟩ := t
  simp only at c1 c2 k1 k2
  have := cases_tab c.toNat (by omega) k.toNat (by omega) n g
  rw [Int.toNat_of_nonneg (by omega), Int.toNat_of_nonneg k1] at this
  obtain ⟨q1, q2, q3, q4⟩ := this
  exact ⟨q1.trans q2, q2, q3, q4⟩
theorem cases_spec {N : Nat} (hN : 40 < N) {t : Tk} (hk : okT t = true) : spec_l03Cases.f N t = some (csL t) := by
  have q := (cases_at hk).1
  have e : ∀ M, (fun s : List Cs × Int => spec_l03Cases.b1 M t s.1 s.2) = (fun s => spec_l03Cases.b1 20 t s.1 s.2) := fun M => rfl
  unfold spec_l03Cases.f spec_l03Cases.j0 at q ⊢
  by_cases hn : t.f_None = true
  · rw [if_pos hn] at q ⊢
    rw [if_pos (by simp)] at q ⊢
    obtain ⟨x, hx, hf⟩ := bind_get q
    rw [e N, rounds_mono hx (by omega)]; exact hf
  · rw [if_neg hn] at q ⊢
    obtain ⟨x, hx, hf⟩ := bind_get q
    rw [e N, rounds_mono hx (by omega)]; exact hf
theorem cases_impl {N : Nat} (hN : 40 < N) {t : Tk} (hk : okT t = true) : _impl_Task_cases.f N t = some (csL t) := by
  have q := (cases_at hk).2.1
  obtain ⟨⟨c1, c2⟩, _⟩ := okT_at hk
  have e : ∀ M, (fun s : List Cs × Int => impl_casesOf.b1 M t.f_Coins t.f_Kind s.1 s.2) = (fun s => impl_casesOf.b1 20 t.f_Coins t.f_Kind s.1 s.2) := fun M => rfl
  simp only [_impl_Task_cases.f, i64w_id (x := t.f_Coins) (by omega) (by omega)]
  have : impl_casesOf.f N t.f_Coins t.f_Kind t.f_None = some (csL t) := by
    unfold impl_casesOf.f impl_casesOf.j0 at q ⊢
    by_cases hn : t.f_None = true
    · rw [if_pos hn] at q ⊢
      rw [if_pos (by simp)] at q ⊢
      obtain ⟨x, hx, hf⟩ := bind_get q
      rw [e N, rounds_mono hx (by omega)]; exact hf
    · rw [if_neg hn] at q ⊢
      obtain ⟨x, hx, hf⟩ := bind_get q
      rw [e N, rounds_mono hx (by omega)]; exact hf
  rw [this]; rfl
/-- Whether a list has a case. -/
def has (L : List Cs) (c : Cs) : Bool := L.any fun x => decide (x = c)
theorem find_spec {N : Nat} (hN : 40 < N) {t : Tk} (hk : okT t = true) (c : Cs) : ∃ r, spec_l03Find.f N t c = some r ∧ (decide (r < 0)) = !has (csL t) c := by
  have hl := (cases_at hk).2.2.1
  obtain ⟨e, he, hq⟩ := rounds_any (b := fun s => spec_l03Find.b0 N (csL t) c s) (csL t) (fun x => decide (x = c)) (fun i => (i : Int)) (N := N) (by omega) (by
    intro i hi
    have g1 : (i : Int) < (csL t).length := by omega
    have g2 : (0 : Int) ≤ i := by omega
    simp only [spec_l03Find.b0, g1, g2, and_self, if_true, rdL_nat hi, i64w_succ hi (show (csL t).length ≤ 9223372036854775807 by omega), decide_eq_true_eq]) (by
    simp only [spec_l03Find.b0]
    rw [if_neg (by omega)])
  simp only [spec_l03Find.f, cases_spec hN hk, Option.bind_some, he, has]
  by_cases c4 : ((csL t).any fun x => decide (x = c)) = true
  · rw [if_pos c4] at hq
    obtain ⟨i, rfl⟩ := hq
    exact ⟨_, rfl, by rw [c4]; simp⟩
  · rw [if_neg c4] at hq
    subst hq
    rw [Bool.not_eq_true] at c4
    exact ⟨-1, rfl, by rw [c4]; rfl⟩
theorem contains_impl {N : Nat} {L : List Cs} (hL : L.length ≤ 27) (hN : 40 < N) (c : Cs) : slices_Contains_impl_Case_impl_Case.f N L c = some (has L c) := by
  obtain ⟨e, he, hq⟩ := rounds_any (b := fun s => slices_Index_impl_Case_impl_Case.b0 N L c s) L (fun x => decide (x = c)) (fun i => (i : Int)) (N := N) (by omega) (by
    intro i hi
    have g1 : (i : Int) < L.length := by omega
    have g2 : (0 : Int) ≤ i := by omega
    by_cases e : L[i] = c
    · simp only [slices_Index_impl_Case_impl_Case.b0, g1, g2, and_self, if_true, rdL_nat hi, i64w_succ hi (show L.length ≤ 9223372036854775807 by omega), e, decide_true]
    · have e' : ¬ c = L[i] := fun h => e h.symm
      simp only [slices_Index_impl_Case_impl_Case.b0, g1, g2, and_self, if_true, rdL_nat hi, i64w_succ hi (show L.length ≤ 9223372036854775807 by omega), decide_eq_true_eq]
      first | rw [if_neg e, if_neg e] | rw [if_neg e', if_neg e]) (by
    simp only [slices_Index_impl_Case_impl_Case.b0]
    rw [if_neg (by omega)])
  simp only [slices_Contains_impl_Case_impl_Case.f, slices_Index_impl_Case_impl_Case.f, he, has]
  by_cases c4 : (L.any fun x => decide (x = c)) = true
  · rw [if_pos c4] at hq
    obtain ⟨i, rfl⟩ := hq
    simp only [Option.bind_some, Ex.fin, c4, decide_eq_true (show (i : Int) ≥ 0 by omega)]
  · rw [if_neg c4] at hq
    subst hq
    rw [Bool.not_eq_true] at c4
    simp only [Option.bind_some, Ex.fin, c4, slices_Index_impl_Case_impl_Case.a0]
    rfl
end Go.Proofs.YtcocgeodfbiehaaX
