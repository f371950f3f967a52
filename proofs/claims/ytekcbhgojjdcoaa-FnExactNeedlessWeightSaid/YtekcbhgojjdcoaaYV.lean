/- Weights that are valid, plainly. -/
import Derived.Test.YtekcbhgojjdcoaaXR
import Derived.Test.YtekcbhgojjdcoaaXWalk
namespace Go.Proofs.YtekcbhgojjdcoaaX
open Go
set_option linter.unusedVariables false
set_option linter.unusedSimpArgs false
theorem eqWeights_same {N : Nat} {a : List Int} (h : a.length ≤ 1048576) (hN : a.length < N) : laws_eqWeights.f N a a = some true := by
  unfold laws_eqWeights.f
  rw [if_pos rfl, rounds_same a a rfl hN ?_ ?_]
  · simp [Ex.fin, laws_eqWeights.a0]
  · intro i hi
    have g1 : (i : Int) < a.length := by omega
    have g2 : (0 : Int) ≤ i := by omega
    simp only [laws_eqWeights.b0, g1, g2, and_self, if_true, i64w_succ hi (show a.length ≤ 9223372036854775807 by omega)]
  · simp only [laws_eqWeights.b0]
    rw [if_neg (by omega)]
open Classical in
theorem rounds_all {ρ : Type} {b : Int → Option (Bd ρ Unit Int)} {p : Nat → Prop} {n : Nat} {r : ρ} (hs : ∀ i : Nat, i < n → b (i : Int) = if p i then some (.next ((i + 1 : Nat) : Int)) else some (.out (.ret r))) (he : b (n : Int) = some (.out (.go ()))) {N : Nat} (hN : n < N) :
    rounds b N 0 = some (if ∀ i, i < n → p i then .go () else .ret r) := by
  have main : ∀ (m k : Nat), k ≤ n → n - k < m → rounds b m (k : Int) = some (if ∀ i, k ≤ i → i < n → p i then .go () else .ret r) := by
    intro m
    induction m with
    | zero => intro k _ h; exact absurd h (Nat.not_lt_zero _)
    | succ m ih =>
      intro k hk hm
      by_cases hl : k < n
      · by_cases hp : p k
        · rw [rounds_next ((hs k hl).trans (if_pos hp)), ih (k + 1) (by omega) (by omega)]
          have : (∀ i, k + 1 ≤ i → i < n → p i) ↔ (∀ i, k ≤ i → i < n → p i) := ⟨fun h i h1 h2 => by
            by_cases e : i = k
            · subst e; exact hp
            · exact h i (by omega) h2, fun h i h1 h2 => h i (by omega) h2⟩
          simp only [this]
        · rw [rounds_out ((hs k hl).trans (if_neg hp)), if_neg (fun h => hp (h k (Nat.le_refl _) hl))]
      · obtain rfl : k = n := by omega
        rw [rounds_out he, if_pos (fun i h1 h2 => absurd h2 (by omega))]
  have := main N 0 (Nat.zero_le _) (by omega)
  simpa using this
open Classical in
theorem rounds_dn {ρ : Type} {b : Int → Option (Bd ρ Unit Int)} {p : Nat → Prop} {r : ρ} {M : Nat} (hs : ∀ i : Nat, 0 < i → i ≤ M → b (i : Int) = if p i then some (.next ((i - 1 : Nat) : Int)) else some (.out (.ret r))) (he : b 0 = some (.out (.go ()))) :
    ∀ (n N : Nat), n ≤ M → n < N → rounds b N (n : Int) = some (if ∀ i, 0 < i → i ≤ n → p i then .go () else .ret r) := by
  intro n
  induction n with
  | zero =>
    intro N _ hN
    obtain ⟨N, rfl⟩ : ∃ K, N = K + 1 := ⟨N - 1, by omega⟩
    rw [if_pos (fun i h1 h2 => absurd h2 (by omega))]
    exact rounds_out he
  | succ n ih =>
    intro N hM hN
    obtain ⟨N, rfl⟩ : ∃ K, N = K + 1 := ⟨N - 1, by omega⟩
    have h := hs (n + 1) (by omega) hM
    by_cases hp : p (n + 1)
    · rw [rounds_next (h.trans (if_pos hp)), show n + 1 - 1 = n by omega, ih N (by omega) (by omega)]
      have : (∀ i, 0 < i → i ≤ n → p i) ↔ (∀ i, 0 < i → i ≤ n + 1 → p i) := ⟨fun h i h1 h2 => by
        by_cases e : i = n + 1
        · subst e; exact hp
        · exact h i h1 (by omega), fun h i h1 h2 => h i h1 (by omega)⟩
      simp only [this]
    · rw [rounds_out (h.trans (if_neg hp)), if_neg (fun h => hp (h _ (by omega) (Nat.le_refl _)))]
theorem getD_in {a : List Int} {i : Nat} (h : i < a.length) : a.getD i 0 = a[i] := by simp [List.getD, h]
def upP (a : List Int) : Prop := ∀ i, 0 < i → i ≤ a.length - 1 → ¬ a.getD i 0 < a.getD (i - 1) 0
def allP (a : List Int) : Prop := ∀ i, i < a.length → ¬ a.getD i 0 < 1 ∧ (0 < i → ¬ a.getD i 0 < a.getD (i - 1) 0)
theorem allP_iff {a : List Int} (h : 1 ≤ a.length) : allP a ↔ upP a ∧ a.getD 0 0 ≥ 1 := by
  constructor
  · intro g
    exact ⟨fun i h1 h2 => (g i (by omega)).2 h1, by have := (g 0 (by omega)).1; omega⟩
  · rintro ⟨g, g0⟩ i
    induction i with
    | zero => intro _; exact ⟨by omega, fun h => absurd h (by omega)⟩
    | succ i ih =>
      intro hi
      have h1 := (ih (by omega)).1
      have h2 := g (i + 1) (by omega) (by omega)
      rw [show i + 1 - 1 = i by omega] at h2 ⊢
      exact ⟨by omega, fun _ => h2⟩
theorem pred_w {i : Nat} (h : 0 < i) (h' : i ≤ 1000) : i64w ((i : Int) - 1) = ((i - 1 : Nat) : Int) := by rw [i64w_id (by omega) (by omega)]; omega
open Classical in
theorem rounds_all2 {ρ : Type} {b : Int → Option (Bd ρ Unit Int)} {p : Nat → Prop} {n : Nat} {r : ρ} (hs : ∀ i : Nat, i < n → b (i : Int) = if p i then some (.next ((i + 1 : Nat) : Int)) else some (.out (.ret r))) (he : b (n : Int) = some (.out (.go ()))) {N : Nat} (hN : n < N) :
    ∃ e, rounds b N 0 = some e ∧ ((∀ i, i < n → p i) → e = .go ()) ∧ ((¬ ∀ i, i < n → p i) → e = .ret r) := by
  have q := rounds_all hs he hN
  by_cases c : ∀ i, i < n → p i
  · exact ⟨.go (), by rw [q, if_pos c], fun _ => rfl, fun h => absurd c h⟩
  · exact ⟨.ret r, by rw [q, if_neg c], fun h => absurd h c, fun _ => rfl⟩
open Classical in
theorem rounds_dn2 {ρ : Type} {b : Int → Option (Bd ρ Unit Int)} {p : Nat → Prop} {r : ρ} {M : Nat} (hs : ∀ i : Nat, 0 < i → i ≤ M → b (i : Int) = if p i then some (.next ((i - 1 : Nat) : Int)) else some (.out (.ret r))) (he : b 0 = some (.out (.go ()))) {N : Nat} (hN : M < N) :
    ∃ e, rounds b N (M : Int) = some e ∧ ((∀ i, 0 < i → i ≤ M → p i) → e = .go ()) ∧ ((¬ ∀ i, 0 < i → i ≤ M → p i) → e = .ret r) := by
  have q := rounds_dn hs he M N (Nat.le_refl _) hN
  by_cases c : ∀ i, 0 < i → i ≤ M → p i
  · exact ⟨.go (), by rw [q, if_pos c], fun _ => rfl, fun h => absurd c h⟩
  · exact ⟨.ret r, by rw [q, if_neg c], fun h => absurd h c, fun _ => rfl⟩
open Classical in
theorem spec_loop {N : Nat} {a : List Int} (h : a.length ≤ 16) (hN : a.length < N) : rounds (fun s => spec_l01Ok.b0 N a s) N 0 = some (if allP a then .go () else .ret false) := by
  have main : ∃ e, rounds (fun s => spec_l01Ok.b0 N a s) N 0 = some e ∧ (allP a → e = .go ()) ∧ (¬ allP a → e = .ret false) := by
   refine rounds_all2 (p := fun i => ¬ a.getD i 0 < 1 ∧ (0 < i → ¬ a.getD i 0 < a.getD (i - 1) 0)) (n := a.length) ?_ ?_ hN
   · intro i hi
     have g1 : (i : Int) < a.length := by omega
     have g2 : (0 : Int) ≤ i := by omega
     show spec_l01Ok.b0 N a (i : Int) = _
     unfold spec_l01Ok.b0 spec_l01Ok.j2
     rw [if_pos g1, if_pos ⟨g2, g1⟩, i64w_succ hi (by omega), rdL_nat hi]
     by_cases c1 : a[i] < 1
     · rw [if_pos c1, if_neg (fun g => g.1 (by rw [getD_in hi]; exact c1))]
     · rw [if_neg c1]
       by_cases c2 : 0 < i
       · have hp : i - 1 < a.length := by omega
         rw [if_pos (by omega), if_pos ⟨g2, g1⟩, pred_w c2 (by omega), if_pos ⟨by omega, by omega⟩, rdL_nat hp]
         by_cases c3 : a[i] < a[i - 1]
         · rw [if_pos c3, if_neg (fun g => g.2 c2 (by rw [getD_in hi, getD_in hp]; exact c3))]
         · rw [if_neg c3, if_pos ⟨by rw [getD_in hi]; exact c1, fun _ => by rw [getD_in hi, getD_in hp]; exact c3⟩]
       · rw [if_neg (by omega), if_pos ⟨by rw [getD_in hi]; exact c1, fun g => absurd g c2⟩]
   · show spec_l01Ok.b0 N a (a.length : Int) = _
     unfold spec_l01Ok.b0
     rw [if_neg (by omega)]
  obtain ⟨e, he, g1, g2⟩ := main
  rw [he]
  by_cases c : allP a
  · rw [if_pos c, g1 c]
  · rw [if_neg c, g2 c]
open Classical in
theorem sorted_eq {N : Nat} {a : List Int} (h1 : 1 ≤ a.length) (h : a.length ≤ 16) (hN : a.length < N) : slices_IsSorted_impl_Weights_int16.f N a = some (decide (upP a)) := by
  have hl : i64w ((a.length : Int) - 1) = ((a.length - 1 : Nat) : Int) := pred_w (by omega) (by omega)
  obtain ⟨e, q, z1, z2⟩ := rounds_dn2 (N := N) (b := fun s => slices_IsSorted_impl_Weights_int16.b0 N a s) (p := fun i => ¬ a.getD i 0 < a.getD (i - 1) 0) (r := false) (M := a.length - 1) (by
    intro i h0 hM
    have hi : i < a.length := by omega
    have hp : i - 1 < a.length := by omega
    show slices_IsSorted_impl_Weights_int16.b0 N a (i : Int) = _
    unfold slices_IsSorted_impl_Weights_int16.b0 cmp_Less_int16.f cmp_isNaN_int16.f
    rw [if_pos (by omega), if_pos ⟨by omega, by omega⟩, pred_w h0 (by omega), if_pos ⟨by omega, by omega⟩, rdL_nat hi, rdL_nat hp]
    simp only [Option.bind_some, bne_self_eq_false, Bool.false_eq_true, if_false, decide_eq_true_eq]
    by_cases c : a[i] < a[i - 1]
    · rw [if_pos c, if_neg (fun g => g (by rw [getD_in hi, getD_in hp]; exact c))]
    · rw [if_neg c, if_pos (by rw [getD_in hi, getD_in hp]; exact c)]) (by
    show slices_IsSorted_impl_Weights_int16.b0 N a 0 = _
    unfold slices_IsSorted_impl_Weights_int16.b0
    rw [if_neg (by omega)]) (by omega)
  unfold slices_IsSorted_impl_Weights_int16.f
  rw [hl, q]
  by_cases c : upP a
  · rw [z1 c, decide_eq_true c]; rfl
  · rw [z2 c, decide_eq_false c]; rfl
abbrev suS (acc x : Int) : Ex (Ex Int Int) Int := .go (i64w (acc + i64w x))
abbrev suF (acc : Int) : Ex Int Int := .go acc
theorem su_walk : ∀ (a : List Int) (acc : Int), ∃ s, walk suS suF acc a = .go s
  | [], acc => ⟨acc, rfl⟩
  | x :: a, acc => by simp only [walk]; exact su_walk a _
theorem sum_some {N : Nat} {a : List Int} (h : a.length ≤ 16) (hN : a.length < N) : ∃ s, spec_l01Sum.f N a = some s := by
  have q : rounds (fun s => spec_l01Sum.b0 N a s.1 s.2) N (0, 0) = some (walk suS suF 0 a) := by
    refine rounds_walk0 (fun acc i => (acc, i)) a suS suF (fun _ _ => True) hN trivial ?_ ?_
    · intro acc i hi _
      refine ⟨trivial, ?_⟩
      simp only [spec_l01Sum.b0]
      rw [if_pos (by omega), if_pos ⟨by omega, by omega⟩, rdL_nat hi, i64w_succ hi (by omega)]
    · intro acc _
      simp only [spec_l01Sum.b0]
      rw [if_neg (by omega)]
  obtain ⟨s, hs⟩ := su_walk a 0
  unfold spec_l01Sum.f
  rw [q, hs]
  exact ⟨s, rfl⟩
theorem sum_same (N : Nat) (a : List Int) : _impl_Weights_sum.f N a = spec_l01Sum.f N a := rfl
theorem valid_same {N : Nat} {a : List Int} (hN : a.length < N) : ∃ b, spec_l01Ok.f N a = some b ∧ impl_ValidWeights.f N a = some b ∧ (b = true → 1 ≤ a.length ∧ a.length ≤ 16 ∧ allP a) := by
  classical
  simp only [spec_l01Ok.f, spec_l00In.f, impl_ValidWeights.f, impl_size_int16.f, impl_within.f, Option.bind_some]
  by_cases h1 : 1 ≤ a.length
  · rw [if_pos (by omega), if_pos (by omega)]
    simp only [Option.bind_some, decide_eq_true_eq]
    by_cases h16 : a.length ≤ 16
    · rw [if_pos (by omega), if_pos (by omega), spec_loop h16 hN, sorted_eq h1 h16 hN]
      simp only [Option.bind_some, decide_eq_true_eq]
      have e0 : rdL a 0 0 = a.getD 0 0 := rfl
      obtain ⟨s, hs⟩ := sum_some h16 hN
      by_cases c : allP a
      · have := (allP_iff h1).1 c
        rw [if_pos c, if_pos this.1, e0, if_pos this.2]
        simp only [Option.bind_some, Ex.fin, spec_l01Ok.a0, sum_same, hs]
        exact ⟨_, rfl, rfl, fun _ => ⟨h1, h16, c⟩⟩
      · rw [if_neg c]
        refine ⟨false, rfl, ?_, fun h => by cases h⟩
        by_cases c1 : upP a
        · rw [if_pos c1, e0, if_neg (fun g => c ((allP_iff h1).2 ⟨c1, g⟩))]
        · rw [if_neg c1]
    · rw [if_neg (by omega), if_neg (by omega)]
      exact ⟨false, rfl, rfl, fun h => by cases h⟩
  · rw [if_neg (by omega), if_neg (by omega)]
    exact ⟨false, rfl, rfl, fun h => by cases h⟩
end Go.Proofs.YtekcbhgojjdcoaaX
