/- Games of questions and lies, plainly. -/
import Derived.Test.YtpbkenbmjgchkaaXR
import Derived.Test.YtpbkenbmjgchkaaXWalk
namespace Go.Proofs.YtpbkenbmjgchkaaX
open Go
set_option linter.unusedVariables false
set_option linter.unusedSimpArgs false
abbrev Ga := S_impl_Game
abbrev As_ := S_impl_Ask
theorem G_eta (G : Ga) : (⟨G.f_Numbers, G.f_Lies, G.f_Asked⟩ : Ga) = G := rfl
theorem L_eta (G : S_laws_Game) : (⟨G.f_Numbers, G.f_Lies, G.f_Asked⟩ : S_laws_Game) = G := rfl
def idx (n : Nat) : List Int := (List.range n).map fun (i : Nat) => (i : Int)
theorem idx_succ (n : Nat) : idx (n + 1) = idx n ++ [(n : Int)] := by simp [idx, List.range_succ]
theorem idx_len (n : Nat) : (idx n).length = n := by simp [idx]
theorem idx_mem {n : Nat} {x : Int} (h : x ∈ idx n) : 0 ≤ x ∧ x < n := by
  obtain ⟨i, hi, rfl⟩ := List.mem_map.1 h
  have := List.mem_range.1 hi
  omega
/-- A loop that ends at the first element with p. -/
theorem rounds_any {α ρ : Type} {b : Int → Option (Bd ρ Unit Int)} (a : List α) (p : α → Bool) (r : Nat → ρ) {N : Nat} (hN : a.length < N)
    (h : ∀ i (hi : i < a.length), b (i : Int) = if p a[i] = true then some (.out (.ret (r i))) else some (.next ((i + 1 : Nat) : Int)))
    (he : b (a.length : Int) = some (.out (.go ()))) : ∃ e, rounds b N 0 = some e ∧ (if a.any p = true then ∃ i, e = .ret (r i) else e = .go ()) := by
  have main : ∀ (n k : Nat), k ≤ a.length → a.length - k < n → ∃ e, rounds b n (k : Int) = some e ∧ (if (a.drop k).any p = true then ∃ i, e = .ret (r i) else e = .go ()) := by
    intro n
    induction n with
    | zero => intro k _ hk; omega
    | succ n ih =>
      intro k hk hn
      by_cases hl : k < a.length
      · have hb := h k hl
        by_cases hp : p a[k] = true
        · rw [if_pos hp] at hb
          have e1 : (a.drop k).any p = true := by rw [List.drop_eq_getElem_cons hl, List.any_cons, hp]; rfl
          exact ⟨_, rounds_out hb, by rw [if_pos e1]; exact ⟨_, rfl⟩⟩
        · rw [if_neg hp] at hb
          obtain ⟨e, h1, h2⟩ := ih (k + 1) hl (by omega)
          have e1 : (a.drop k).any p = (a.drop (k + 1)).any p := by rw [List.drop_eq_getElem_cons hl, List.any_cons, (Bool.not_eq_true _).mp hp, Bool.false_or]
          exact ⟨e, (rounds_next hb).trans h1, by rw [e1]; exact h2⟩
      · obtain rfl : k = a.length := by omega
        exact ⟨_, rounds_out he, by simp⟩
  exact main N 0 (Nat.zero_le _) (by omega)

/- games that can be one -/
def allN (n : Int) : Int := 2 ^ n.toNat - 1
theorem full_tab : ∀ n : Nat, n < 61 → 1 ≤ n → spec_l06Full.f 0 (n : Int) = some ((2 : Int) ^ n - 1) ∧ (if (0 : Int) ≤ (n : Int) then (some (u64w ((shlI .u64 1 (n : Int)) - 1))) else none) = some ((2 : Int) ^ n - 1) := by decide +kernel
def B60 (n : Int) : Prop := 1 ≤ n ∧ n ≤ 60
instance (n : Int) : Decidable (B60 n) := by unfold B60; infer_instance
theorem full_spec (N : Nat) {n : Int} (h : B60 n) : spec_l06Full.f N n = some (allN n) := by
  have := (full_tab n.toNat (by have := h.2; omega) (by have := h.1; omega)).1
  rwa [Int.toNat_of_nonneg (by have := h.1; omega)] at this
theorem full_impl (N : Nat) {G : Ga} (h : B60 G.f_Numbers) : _impl_Game_all.f N G = some (allN G.f_Numbers) := by
  have := (full_tab G.f_Numbers.toNat (by have := h.2; omega) (by have := h.1; omega)).2
  rwa [Int.toNat_of_nonneg (by have := h.1; omega)] at this
def bad (n : Int) (a : As_) : Bool := !(bAndNot .u64 a.f_Set (allN n) == 0)
def okG (G : Ga) : Bool := decide (B60 G.f_Numbers) && (decide (0 ≤ G.f_Lies ∧ G.f_Lies ≤ 3) && (decide (G.f_Asked.length ≤ 60) && !(G.f_Asked.any (bad G.f_Numbers))))
structure OkG (G : Ga) : Prop where
  n60 : B60 G.f_Numbers
  l3 : 0 ≤ G.f_Lies ∧ G.f_Lies ≤ 3
  len : G.f_Asked.length ≤ 60
theorem okG_iff {G : Ga} (h : okG G = true) : OkG G := by
  unfold okG at h
  simp only [Bool.and_eq_true, decide_eq_true_eq] at h
  exact ⟨h.1, h.2.1, h.2.2.1⟩
/-- What a Go value of the type is. -/
def InG (G : Ga) : Prop := (-128 ≤ G.f_Numbers ∧ G.f_Numbers ≤ 127) ∧ (-128 ≤ G.f_Lies ∧ G.f_Lies ≤ 127)
theorem okG_spec {N : Nat} {G : Ga} (hG : InG G) (hN : 70 < N) : spec_l06Ok.f N G = some (okG G) := by
  obtain ⟨h1, h2⟩ := hG
  unfold spec_l06Ok.f spec_l06Begin.f spec_l00In.f okG
  rw [i64w_id (by omega) (by omega), i64w_id (by omega) (by omega)]
  by_cases c1 : B60 G.f_Numbers
  · rw [if_pos c1.1]
    simp only [Option.bind_some, decide_eq_true c1.2, if_true, decide_eq_true c1, Bool.true_and]
    by_cases c2 : 0 ≤ G.f_Lies ∧ G.f_Lies ≤ 3
    · rw [if_pos c2.1]
      simp only [Option.bind_some, decide_eq_true c2.2, if_true, decide_eq_true c2, Bool.true_and]
      by_cases c3 : G.f_Asked.length ≤ 60
      · rw [if_neg (by omega)]
        simp only [decide_eq_true c3, Bool.true_and]
        obtain ⟨e, he, hq⟩ := rounds_any (b := fun s => spec_l06Ok.b0 N G s) G.f_Asked (bad G.f_Numbers) (fun _ => false) (N := N) (by omega) (by
          intro i hi
          have g1 : (i : Int) < G.f_Asked.length := by omega
          have g2 : (0 : Int) ≤ i := by omega
          simp only [spec_l06Ok.b0, g1, g2, and_self, if_true, rdL_nat hi, i64w_succ hi (show G.f_Asked.length ≤ 9223372036854775807 by omega), i64w_id (x := G.f_Numbers) (by omega) (by omega), full_spec N c1, Option.bind_some, bad]
          by_cases c4 : bAndNot .u64 G.f_Asked[i].f_Set (allN G.f_Numbers) = 0
          · simp [c4]
          · simp [c4]) (by
          simp only [spec_l06Ok.b0]
          rw [if_neg (by omega)])
        rw [he]
        by_cases c4 : G.f_Asked.any (bad G.f_Numbers) = true
        · rw [if_pos c4] at hq
          obtain ⟨i, rfl⟩ := hq
          simp only [Option.bind_some, Ex.fin, c4, Bool.not_true]
        · rw [if_neg c4] at hq
          subst hq
          rw [Bool.not_eq_true] at c4
          simp only [Option.bind_some, Ex.fin, c4, Bool.not_false, spec_l06Ok.a0]
      · rw [if_pos (by omega)]
        simp [c3]
    · simp only [decide_eq_false c2, Bool.false_and]
      by_cases c3 : G.f_Lies ≥ 0
      · rw [if_pos c3]
        have : ¬ G.f_Lies ≤ 3 := fun h => c2 ⟨c3, h⟩
        simp [this]
      · rw [if_neg c3]; rfl
  · simp only [decide_eq_false c1, Bool.false_and]
    by_cases c3 : G.f_Numbers ≥ 1
    · rw [if_pos c3]
      have : ¬ G.f_Numbers ≤ 60 := fun h => c1 ⟨c3, h⟩
      simp [this]
    · rw [if_neg c3]; rfl
theorem okG_impl {N : Nat} {G : Ga} (hG : InG G) (hN : 70 < N) : impl_ValidGame.f N G = some (okG G) := by
  obtain ⟨h1, h2⟩ := hG
  unfold impl_ValidGame.f impl_isGame.f impl_within.f okG
  rw [i64w_id (by omega) (by omega), i64w_id (by omega) (by omega)]
  by_cases c1 : B60 G.f_Numbers
  · rw [if_pos c1.1]
    simp only [Option.bind_some, decide_eq_true c1.2, if_true, decide_eq_true c1, Bool.true_and]
    by_cases c2 : 0 ≤ G.f_Lies ∧ G.f_Lies ≤ 3
    · rw [if_pos c2.1]
      simp only [Option.bind_some, decide_eq_true c2.2, if_true, decide_eq_true c2, Bool.true_and]
      by_cases c3 : G.f_Asked.length ≤ 60
      · rw [if_pos (by omega)]
        simp only [decide_eq_true c3, Bool.true_and]
        obtain ⟨e, he, hq⟩ := rounds_any (b := fun s => slices_IndexFunc_impl_Ask_impl_Ask_at_impl_ValidGame_1.b0 N G.f_Asked G s) G.f_Asked (bad G.f_Numbers) (fun i => (i : Int)) (N := N) (by omega) (by
          intro i hi
          have g1 : (i : Int) < G.f_Asked.length := by omega
          have g2 : (0 : Int) ≤ i := by omega
          simp only [slices_IndexFunc_impl_Ask_impl_Ask_at_impl_ValidGame_1.b0, impl_ValidGame_1.f, g1, g2, and_self, if_true, rdL_nat hi, i64w_succ hi (show G.f_Asked.length ≤ 9223372036854775807 by omega), G_eta, full_impl N c1, Option.bind_some, bad]
          by_cases c4 : bAndNot .u64 G.f_Asked[i].f_Set (allN G.f_Numbers) = 0
          · simp [c4]
          · simp [c4]) (by
          simp only [slices_IndexFunc_impl_Ask_impl_Ask_at_impl_ValidGame_1.b0]
          rw [if_neg (by omega)])
        simp only [slices_ContainsFunc_impl_Ask_impl_Ask_at_impl_ValidGame_1.f, slices_IndexFunc_impl_Ask_impl_Ask_at_impl_ValidGame_1.f, G_eta, he]
        by_cases c4 : G.f_Asked.any (bad G.f_Numbers) = true
        · rw [if_pos c4] at hq
          obtain ⟨i, rfl⟩ := hq
          simp only [Option.bind_some, Ex.fin, c4, Bool.not_true, decide_eq_true (show (i : Int) ≥ 0 by omega)]
        · rw [if_neg c4] at hq
          subst hq
          rw [Bool.not_eq_true] at c4
          simp only [Option.bind_some, Ex.fin, c4, Bool.not_false, slices_IndexFunc_impl_Ask_impl_Ask_at_impl_ValidGame_1.a0]
          rfl
      · rw [if_neg (by omega)]
        simp [c3]
    · simp only [decide_eq_false c2, Bool.false_and]
      by_cases c3 : 0 ≤ G.f_Lies
      · rw [if_pos c3]
        have : ¬ G.f_Lies ≤ 3 := fun h => c2 ⟨c3, h⟩
        simp [this]
      · rw [if_neg c3]; rfl
  · simp only [decide_eq_false c1, Bool.false_and]
    by_cases c3 : 1 ≤ G.f_Numbers
    · rw [if_pos c3]
      have : ¬ G.f_Numbers ≤ 60 := fun h => c1 ⟨c3, h⟩
      simp [this]
    · rw [if_neg c3]; rfl

/- how many answers are wrong -/
def wrongB (a : As_) (m : Int) : Bool := ((bAnd .u64 (shrI .u64 a.f_Set m) 1) == 1) != a.f_Yes
/-- The questions below k that are answered wrong for m. -/
def wr (G : Ga) (m : Int) (k : Nat) : List Int := (idx k).filter fun i => wrongB (rdL G.f_Asked i z_S_impl_Ask) m
theorem wr_succ (G : Ga) (m : Int) (k : Nat) : wr G m (k + 1) = if wrongB (rdL G.f_Asked (k : Int) z_S_impl_Ask) m = true then wr G m k ++ [(k : Int)] else wr G m k := by
  unfold wr
  rw [idx_succ, List.filter_append]
  by_cases c : wrongB (rdL G.f_Asked (k : Int) z_S_impl_Ask) m = true
  · rw [if_pos c]; simp [c]
  · rw [if_neg c]; simp [c]
theorem wr_len (G : Ga) (m : Int) (k : Nat) : (wr G m k).length ≤ k := by
  unfold wr
  exact Nat.le_trans (List.length_filter_le _ _) (by rw [idx_len]; exact Nat.le_refl _)
def W (G : Ga) (m : Int) : Int := ((wr G m G.f_Asked.length).length : Int)
theorem W_nonneg (G : Ga) (m : Int) : 0 ≤ W G m := by unfold W; omega
theorem lies_spec {N : Nat} {G : Ga} (hl : G.f_Asked.length ≤ 60) (hN : 70 < N) {m : Int} (hm : 0 ≤ m ∧ m ≤ 63) : spec_l06Lies.f N G m = some (W G m) := by
  have q := rounds_for (b := fun s => spec_l06Lies.b0 N G m s.1 s.2) (e := .go (W G m)) (fun k => (((wr G m k).length : Int), (k : Int))) G.f_Asked.length 0 N (by omega) (by omega) (by
    intro i _ hi
    have g1 : (i : Int) < G.f_Asked.length := by omega
    have g2 : (0 : Int) ≤ i := by omega
    have hw := wr_len G m i
    simp only [spec_l06Lies.b0, spec_l06Wrong.f, spec_l06Lies.j2, g1, g2, and_self, if_true, u64w_id (x := m) (by omega) (by omega), hm.1, Option.bind_some, i64w_succ hi (show G.f_Asked.length ≤ 9223372036854775807 by omega), wr_succ]
    by_cases c : wrongB (rdL G.f_Asked (i : Int) z_S_impl_Ask) m = true
    · have c' := c
      unfold wrongB at c'
      rw [if_pos c, if_pos c', i64w_id (by omega) (by omega)]
      simp
    · have c' := c
      unfold wrongB at c'
      rw [if_neg c, if_neg c']) (by
    simp only [spec_l06Lies.b0]
    rw [if_neg (by omega)]
    rfl)
  have q' : rounds (fun s => spec_l06Lies.b0 N G m s.1 s.2) N (0, 0) = some (.go (W G m)) := q
  unfold spec_l06Lies.f
  rw [q']; rfl
theorem wrong_impl {N : Nat} {G : Ga} (hl : G.f_Asked.length ≤ 60) (hN : 70 < N) {m : Int} (hm : 0 ≤ m ∧ m ≤ 63) : _impl_Game_wrongFor.f N G m = some (wr G m G.f_Asked.length) := by
  have hmx : mxI m 0 = m := by unfold mxI; rw [if_neg (by omega)]
  have q := rounds_for (b := fun s => _impl_Game_wrongFor.b0 N G m s.1 s.2) (e := .go (wr G m G.f_Asked.length)) (fun k => (wr G m k, (k : Int))) G.f_Asked.length 0 N (by omega) (by omega) (by
    intro i _ hi
    have g1 : (i : Int) < G.f_Asked.length := by omega
    have g2 : (0 : Int) ≤ i := by omega
    have hw := wr_len G m i
    simp only [_impl_Game_wrongFor.b0, impl_AnswerTo.f, impl_within.f, _impl_Game_wrongFor.j2, g1, g2, and_self, if_true, hmx, hm.1, decide_eq_true hm.2, Option.bind_some, i64w_succ hi (show G.f_Asked.length ≤ 9223372036854775807 by omega), wr_succ, Bool.bne_false]
    by_cases c : wrongB (rdL G.f_Asked (i : Int) z_S_impl_Ask) m = true
    · have c' := c
      unfold wrongB at c'
      rw [if_pos c, if_neg (by simpa using c'), if_pos (by simp; omega)]
    · have c' := c
      unfold wrongB at c'
      rw [if_neg c, if_pos (by simpa using c')]) (by
    simp only [_impl_Game_wrongFor.b0]
    rw [if_neg (by omega)])
  have q' : rounds (fun s => _impl_Game_wrongFor.b0 N G m s.1 s.2) N (([] : List Int), 0) = some (.go (wr G m G.f_Asked.length)) := q
  unfold _impl_Game_wrongFor.f
  rw [q']; rfl

/-- The numbers below k for which j answers are wrong, and no more than may be. -/
def sl (G : Ga) (k : Nat) (j : Int) : List Int := (idx k).filter fun m => decide (W G m = j ∧ W G m ≤ G.f_Lies)
theorem sl_succ (G : Ga) (k : Nat) (j : Int) : sl G (k + 1) j = if W G (k : Int) = j ∧ W G (k : Int) ≤ G.f_Lies then sl G k j ++ [(k : Int)] else sl G k j := by
  unfold sl
  rw [idx_succ, List.filter_append]
  by_cases c : W G (k : Int) = j ∧ W G (k : Int) ≤ G.f_Lies
  · rw [if_pos c, List.filter_cons_of_pos (by simpa using c)]; rfl
  · rw [if_neg c]
    have : ([(k : Int)].filter fun m => decide (W G m = j ∧ W G m ≤ G.f_Lies)) = [] := by
      rw [List.filter_cons_of_neg (by simpa using c)]; rfl
    rw [this, List.append_nil]
theorem sl_len (G : Ga) (k : Nat) (j : Int) : (sl G k j).length ≤ k := by
  unfold sl
  exact Nat.le_trans (List.length_filter_le _ _) (by rw [idx_len]; exact Nat.le_refl _)
theorem sl_mem {G : Ga} {k : Nat} {j x : Int} (h : x ∈ sl G k j) : 0 ≤ x ∧ x < k := idx_mem (List.mem_filter.1 h).1
def nG (G : Ga) : Nat := G.f_Numbers.toNat
def arS (G : Ga) (k : Nat) : Ar Int 4 := ⟨[((sl G k 0).length : Int), ((sl G k 1).length : Int), ((sl G k 2).length : Int), ((sl G k 3).length : Int)], rfl⟩
theorem W_four {G : Ga} (h : OkG G) {m : Int} (hm : W G m ≤ G.f_Lies) : W G m = 0 ∨ W G m = 1 ∨ W G m = 2 ∨ W G m = 3 := by
  have := W_nonneg G m
  have := h.l3
  omega
theorem state_spec {N : Nat} {G : Ga} (h : OkG G) (hN : 70 < N) : spec_l06State.f N G = some (arS G (nG G)) := by
  have hn := h.n60
  have hl := h.l3
  have hlen := h.len
  unfold B60 at hn
  have q := rounds_for (b := fun s => spec_l06State.b0 N G s.1 s.2) (e := .go (arS G (nG G))) (fun k => (arS G k, (k : Int))) (nG G) 0 N (by omega) (by unfold nG; omega) (by
    intro i _ hi
    unfold nG at hi
    simp only [spec_l06State.b0, spec_l06State.j2, i64w_id (x := G.f_Numbers) (by omega) (by omega), i64w_id (x := G.f_Lies) (by omega) (by omega), G_eta, lies_spec hlen hN (m := (i : Int)) ⟨by omega, by omega⟩, Option.bind_some]
    rw [if_pos (by omega), i64w_id (x := (i : Int) + 1) (by omega) (by omega), show (i : Int) + 1 = ((i + 1 : Nat) : Int) by omega]
    by_cases c : W G (i : Int) ≤ G.f_Lies
    · have h0 := sl_len G i 0
      have h1 := sl_len G i 1
      have h2 := sl_len G i 2
      have h3 := sl_len G i 3
      rcases W_four h c with e | e | e | e <;>
      · rw [e] at c
        simp only [e, if_pos c, arS, sl_succ, Ar.get, Ar.set]
        simp [c]
        first | (rw [i64w_id (by omega) (by omega)]; done) | (simp; rw [i64w_id (by omega) (by omega)]) | skip
    · rw [if_neg c]
      simp only [arS, sl_succ, show ∀ j, ¬ (W G (i : Int) = j ∧ W G (i : Int) ≤ G.f_Lies) from fun j hj => c hj.2, if_false]) (by
    simp only [spec_l06State.b0, i64w_id (x := G.f_Numbers) (by omega) (by omega)]
    unfold nG
    rw [if_neg (by omega)])
  have q' : rounds (fun s => spec_l06State.b0 N G s.1 s.2) N (Ar.rep 4 0, 0) = some (.go (arS G (nG G))) := q
  unfold spec_l06State.f
  rw [q']; rfl
end Go.Proofs.YtpbkenbmjgchkaaX
