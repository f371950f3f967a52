/- Plain laws that several rows share: copies and comparisons of glasses and tops, what a list of glasses is worth, the check of the tops. -/
import Derived.Test.YtmnaclghakalmaaXR
import Derived.Test.YtmnaclghakalmaaXWalk
namespace Go.Proofs.YtmnaclghakalmaaX
open Go
set_option linter.unusedVariables false

theorem toGlasses_eq {N : Nat} {a : List Int} (h : a.length ≤ 1048576) (hN : a.length < N) : laws_toGlasses.f N a = some a := by
  unfold laws_toGlasses.f
  rw [if_pos ⟨by omega, by omega⟩, Int.toNat_natCast, rounds_copy a 0 hN ?_ ?_]
  · rfl
  · intro x i hi hx
    simp only [laws_toGlasses.b0]
    rw [if_pos (by omega), if_pos ⟨by omega, by omega⟩, if_pos ⟨by omega, by omega⟩, rdL_nat hi, stL_nat, i64w_succ hi (by omega)]
  · intro x hx
    simp only [laws_toGlasses.b0]
    rw [if_neg (by omega)]

theorem eqGlasses_eq {N : Nat} {a c : List Int} (h : a.length ≤ 1048576) (hN : a.length < N) : laws_eqGlasses.f N a c = some (decide (a = c)) := by
  unfold laws_eqGlasses.f
  by_cases hl : a.length = c.length
  · rw [if_pos (by omega), rounds_same a c hl hN ?_ ?_]
    · by_cases e : a = c
      · subst e; simp [Ex.fin, laws_eqGlasses.a0]
      · simp [e, Ex.fin]
    · intro i hi
      simp only [laws_eqGlasses.b0]
      rw [if_pos (by omega), if_pos ⟨by omega, by omega⟩, if_pos ⟨by omega, by omega⟩, rdL_nat hi, rdL_nat (hl ▸ hi), i64w_succ hi (by omega)]
    · simp only [laws_eqGlasses.b0]
      rw [if_neg (by omega)]
  · rw [if_neg (by omega)]
    have : ¬ a = c := fun e => hl (by rw [e])
    simp [this]

theorem four {α : Type} (a : Ar α 4) : ∃ x y z t, a = ⟨[x, y, z, t], rfl⟩ := by
  obtain ⟨l, h⟩ := a
  match l, h with
  | [x, y, z, t], _ => exact ⟨x, y, z, t, rfl⟩

theorem toTops_eq {N : Nat} (a : Ar Int 4) (hN : 4 < N) : laws_toTops.f N a = some a := by
  obtain ⟨x, y, z, t, rfl⟩ := four a
  obtain ⟨N, rfl⟩ : ∃ M, N = M + 5 := ⟨N - 5, by omega⟩
  rfl

/-- The glasses are in range. -/
def okG (a : List Int) : Prop := ∀ x ∈ a, 1 ≤ x ∧ x ≤ 40
instance (a : List Int) : Decidable (okG a) := inferInstanceAs (Decidable (∀ x ∈ a, 1 ≤ x ∧ x ≤ 40))
/-- How many states they have. -/
def prodG (a : List Int) : Int := a.foldl (fun m x => m * (x + 1)) 1
/-- The same, or 0 where the glasses are not valid. -/
def st (a : List Int) : Int := if 1 ≤ a.length ∧ a.length ≤ 4 ∧ okG a then (if prodG a > 3000 then 0 else prodG a) else 0

abbrev muS (acc x : Int) : Ex (Ex Int Int) Int := .go (acc * (x + 1))
abbrev muF (acc : Int) : Ex Int Int := .go acc
abbrev stS (acc x : Int) : Ex (Ex Int Int) Int := if x < 1 then .ret (.ret 0) else if x > 40 then .ret (.ret 0) else .go (acc * (x + 1))

theorem mul_walk : ∀ (a : List Int) (acc : Int), walk muS muF acc a = .go (a.foldl (fun m x => m * (x + 1)) acc)
  | [], acc => rfl
  | x :: a, acc => by simp only [walk, List.foldl_cons]; exact mul_walk a _
theorem st_walk_ok : ∀ (a : List Int) (acc : Int), okG a → walk stS muF acc a = .go (a.foldl (fun m x => m * (x + 1)) acc)
  | [], acc, _ => rfl
  | x :: a, acc, h => by
    have hx := h x (by simp)
    simp only [walk, stS, if_neg (show ¬ x < 1 by omega), if_neg (show ¬ x > 40 by omega), List.foldl_cons]
    exact st_walk_ok a _ fun y hy => h y (by simp [hy])
theorem st_walk_bad : ∀ (a : List Int) (acc : Int), ¬ okG a → walk stS muF acc a = .ret 0
  | [], acc, h => absurd (by simp [okG]) h
  | x :: a, acc, h => by
    by_cases h1 : x < 1
    · simp only [walk, stS, if_pos h1]
    · by_cases h2 : x > 40
      · simp only [walk, stS, if_neg h1, if_pos h2]
      · simp only [walk, stS, if_neg h1, if_neg h2]
        exact st_walk_bad a _ fun g => h (by
          intro y hy
          rcases List.mem_cons.1 hy with rfl | hy
          · omega
          · exact g y hy)

theorem mul_bound {acc x : Int} {i : Nat} (hi : i < 4) (h : 1 ≤ acc ∧ acc ≤ 41 ^ i) (hx : 1 ≤ x ∧ x ≤ 40) : (1 ≤ acc * (x + 1) ∧ acc * (x + 1) ≤ 41 ^ (i + 1)) ∧ (acc * (x + 1) ≤ 2825761) := by
  have h1 : acc * (x + 1) ≤ acc * 41 := Int.mul_le_mul_of_nonneg_left (by omega) (by omega)
  have h0 : acc * 1 ≤ acc * (x + 1) := Int.mul_le_mul_of_nonneg_left (by omega) (by omega)
  have h3 : (41 : Int) ^ (i + 1) = 41 ^ i * 41 := by rw [Int.pow_succ]
  have h4 : (41 : Int) ^ i ≤ 68921 := by
    rcases i with _ | _ | _ | _ | i
    · decide
    · decide
    · decide
    · decide
    · omega
  generalize acc * (x + 1) = m at *
  omega

theorem states_loop {N : Nat} {a : List Int} (hb : ∀ x ∈ a, -32768 ≤ x ∧ x ≤ 32767) (h : a.length ≤ 4) (hN : a.length < N) : rounds (fun s => spec_l07States.b0 N a s.1 s.2) N (1, 0) = some (walk stS muF 1 a) := by
  refine rounds_walk0 (fun acc i => (acc, i)) a stS muF (fun i acc => 1 ≤ acc ∧ acc ≤ 41 ^ i) hN (by decide) ?_ ?_
  · intro acc i hi hI
    have hx := hb _ (List.getElem_mem hi)
    have hq : spec_l07States.b0 N a acc (i : Int) = if a[i] < 1 then some (.out (.ret 0)) else if a[i] > 40 then some (.out (.ret 0)) else some (.next (i64w (acc * i64w (a[i] + 1)), ((i + 1 : Nat) : Int))) := by
      have g1 : (i : Int) < a.length := by omega
      have g2 : (0 : Int) ≤ i := by omega
      simp only [spec_l07States.b0, g1, g2, and_self, if_true, rdL_nat hi, i64w_succ hi (show a.length ≤ 9223372036854775807 by omega), i64w_id (x := a[i]) (by omega) (by omega)]
    rw [hq]
    by_cases h1 : a[i] < 1
    · simp only [stS, if_pos h1]
    · by_cases h2 : a[i] > 40
      · simp only [stS, if_neg h1, if_pos h2]
      · have hm := mul_bound (show i < 4 by omega) hI (show 1 ≤ a[i] ∧ a[i] ≤ 40 by omega)
        simp only [stS, if_neg h1, if_neg h2]
        refine ⟨hm.1, ?_⟩
        rw [i64w_id (x := a[i] + 1) (by omega) (by omega), i64w_id (by omega) (by omega)]
  · intro acc _
    simp only [spec_l07States.b0]
    rw [if_neg (by omega)]

theorem states_eq {N : Nat} {a : List Int} (hb : ∀ x ∈ a, -32768 ≤ x ∧ x ≤ 32767) (hN : 5 < N) : spec_l07States.f N a = some (st a) := by
  simp only [spec_l07States.f, spec_l00In.f, st]
  by_cases h1 : 1 ≤ a.length
  · rw [if_pos (by omega)]
    simp only [Option.bind_some, decide_eq_true_eq]
    by_cases h4 : a.length ≤ 4
    · rw [if_pos (by omega), states_loop hb h4 (by omega)]
      by_cases hk : okG a
      · rw [st_walk_ok a 1 hk, if_pos ⟨h1, h4, hk⟩]
        simp only [Option.bind_some, Ex.fin, spec_l07States.a0]
        show (if prodG a > 3000 then some 0 else some (prodG a)) = _
        by_cases hp : prodG a > 3000 <;> simp [hp]
      · rw [st_walk_bad a 1 hk, if_neg (fun h => hk h.2.2)]
        rfl
    · rw [if_neg (by omega), if_neg (fun h => h4 h.2.1)]
  · rw [if_neg (by omega), if_neg (fun h => h1 h.1)]
    rfl

theorem many_loop {N : Nat} {a : List Int} (hk : okG a) (h : a.length ≤ 4) (hN : a.length < N) : rounds (fun s => _impl_Glasses_many.b0 N a s.1 s.2) N (1, 0) = some (walk muS muF 1 a) := by
  refine rounds_walk0 (fun acc i => (acc, i)) a muS muF (fun i acc => 1 ≤ acc ∧ acc ≤ 41 ^ i) hN (by decide) ?_ ?_
  · intro acc i hi hI
    have hx := hk _ (List.getElem_mem hi)
    have hm := mul_bound (show i < 4 by omega) hI hx
    refine ⟨hm.1, ?_⟩
    simp only [_impl_Glasses_many.b0]
    rw [if_pos (by omega), if_pos ⟨by omega, by omega⟩, rdL_nat hi, i64w_succ hi (by omega), i64w_id (x := a[i]) (by omega) (by omega), i64w_id (x := a[i] + 1) (by omega) (by omega), i64w_id (by omega) (by omega)]
  · intro acc _
    simp only [_impl_Glasses_many.b0]
    rw [if_neg (by omega)]
theorem many_eq {N : Nat} {a : List Int} (hk : okG a) (h : a.length ≤ 4) (hN : a.length < N) : _impl_Glasses_many.f N a = some (prodG a) := by
  simp only [_impl_Glasses_many.f]
  rw [many_loop hk h hN, mul_walk]
  rfl

/-- The search for a glass that is not in range. -/
theorem search_eq {N : Nat} {a : List Int} (h : a.length ≤ 1048576) (hN : a.length < N) : slices_ContainsFunc_impl_Glasses_int16_at_impl_ValidGlasses_1.f N a = some (decide (¬ okG a)) := by
  have main : ∀ (n k : Nat), k ≤ a.length → a.length - k < n → ∃ e, rounds (fun s => slices_IndexFunc_impl_Glasses_int16_at_impl_ValidGlasses_1.b0 N a s) n (k : Int) = some e ∧
      ((okG (a.drop k) ∧ e = .go ()) ∨ (¬ okG (a.drop k) ∧ ∃ j, 0 ≤ j ∧ e = .ret j)) := by
    intro n
    induction n with
    | zero => intro k _ h; exact absurd h (Nat.not_lt_zero _)
    | succ n ih =>
      intro k hk hn
      by_cases hkn : k = a.length
      · subst hkn
        refine ⟨.go (), rounds_out (by simp only [slices_IndexFunc_impl_Glasses_int16_at_impl_ValidGlasses_1.b0]; rw [if_neg (by omega)]), .inl ⟨by simp [okG], rfl⟩⟩
      · have hi : k < a.length := by omega
        have hq : slices_IndexFunc_impl_Glasses_int16_at_impl_ValidGlasses_1.b0 N a (k : Int) = if a[k] < 1 ∨ a[k] > 40 then some (.out (.ret (k : Int))) else some (.next ((k + 1 : Nat) : Int)) := by
          simp only [slices_IndexFunc_impl_Glasses_int16_at_impl_ValidGlasses_1.b0, impl_ValidGlasses_1.f]
          rw [if_pos (by omega), if_pos ⟨by omega, by omega⟩, rdL_nat hi, i64w_succ hi (by omega)]
          by_cases h1 : a[k] < 1
          · simp [h1]
          · by_cases h2 : a[k] > 40
            · simp [h1, h2]
            · simp [h1, h2]
        rw [List.drop_eq_getElem_cons hi]
        by_cases h1 : a[k] < 1 ∨ a[k] > 40
        · refine ⟨.ret (k : Int), rounds_out (by rw [hq, if_pos h1]), .inr ⟨fun g => ?_, k, by omega, rfl⟩⟩
          have := g a[k] List.mem_cons_self
          omega
        · obtain ⟨e, he, hh⟩ := ih (k + 1) (by omega) (by omega)
          refine ⟨e, by rw [rounds_next (by rw [hq, if_neg h1])]; exact he, ?_⟩
          rcases hh with ⟨g, he⟩ | ⟨g, j, hj, he⟩
          · refine .inl ⟨?_, he⟩
            intro y hy
            rcases List.mem_cons.1 hy with rfl | hy
            · omega
            · exact g y hy
          · exact .inr ⟨fun f => g fun y hy => f y (List.mem_cons_of_mem _ hy), j, hj, he⟩
  obtain ⟨e, he, hh⟩ := main N 0 (Nat.zero_le _) (by simpa using hN)
  simp only [slices_ContainsFunc_impl_Glasses_int16_at_impl_ValidGlasses_1.f, slices_IndexFunc_impl_Glasses_int16_at_impl_ValidGlasses_1.f]
  rw [show ((0 : Nat) : Int) = 0 from rfl] at he
  rw [he]
  rw [List.drop_zero] at hh
  rcases hh with ⟨g, rfl⟩ | ⟨g, j, hj, rfl⟩
  · simp [Ex.fin, slices_IndexFunc_impl_Glasses_int16_at_impl_ValidGlasses_1.a0, g]
  · simp [Ex.fin, g, hj]

theorem st_ok {a : List Int} (h : 1 ≤ a.length ∧ a.length ≤ 4 ∧ okG a) : st a = if prodG a > 3000 then 0 else prodG a := by rw [st, if_pos h]
theorem st_bad {a : List Int} (h : ¬ (1 ≤ a.length ∧ a.length ≤ 4 ∧ okG a)) : st a = 0 := by rw [st, if_neg h]
theorem prod_pos {a : List Int} (hk : okG a) : 1 ≤ prodG a := by
  have : ∀ (a : List Int) (acc : Int), okG a → 1 ≤ acc → 1 ≤ a.foldl (fun m x => m * (x + 1)) acc := by
    intro a
    induction a with
    | nil => intro acc _ h; exact h
    | cons x a ih =>
      intro acc hk h
      have hx := hk x (by simp)
      refine ih _ (fun y hy => hk y (by simp [hy])) ?_
      have h0 : acc * 1 ≤ acc * (x + 1) := Int.mul_le_mul_of_nonneg_left (by omega) (by omega)
      show 1 ≤ acc * (x + 1)
      omega
  exact this a 1 hk (by decide)

theorem validG_eq {N : Nat} {a : List Int} (hb : ∀ x ∈ a, -32768 ≤ x ∧ x ≤ 32767) (h : a.length ≤ 1048576) (hN : a.length + 5 < N) : impl_ValidGlasses.f N a = some (decide (st a > 0)) := by
  simp only [impl_ValidGlasses.f, impl_size_int16.f, impl_within.f, Option.bind_some]
  by_cases h1 : 1 ≤ a.length
  · rw [if_pos (by omega)]
    simp only [Option.bind_some, decide_eq_true_eq]
    by_cases h4 : a.length ≤ 4
    · rw [if_pos (by omega), search_eq h (by omega)]
      by_cases hk : okG a
      · have hp := prod_pos hk
        simp only [hk, not_true, decide_false, Option.bind_some, Bool.false_eq_true, if_false]
        rw [many_eq hk h4 (by omega)]
        simp only [Option.bind_some, Option.some.injEq, decide_eq_decide]
        rw [st_ok ⟨h1, h4, hk⟩]
        split <;> omega
      · simp [hk, st_bad (fun h => hk h.2.2)]
    · rw [if_neg (by omega)]
      simp [st_bad (a := a) (fun h => h4 h.2.1)]
  · rw [if_neg (by omega)]
    simp [st_bad (a := a) (fun h => h1 h.1)]
end Go.Proofs.YtmnaclghakalmaaX

/- Plain laws of the tops: the check of the tops, in the specification and in the code. -/
namespace Go.Proofs.YtmnaclghakalmaaX
open Go
set_option linter.unusedVariables false
/-- The tops fit the glasses. -/
def fits (a : List Int) (c : Ar Int 4) : Prop := ∀ i : Nat, i < 4 → 0 ≤ c.l.getD i 0 ∧ c.l.getD i 0 ≤ a.getD i 0
/-- Valid glasses and tops that fit. -/
def okT (a : List Int) (c : Ar Int 4) : Prop := st a > 0 ∧ fits a c

theorem ar_get {c : Ar Int 4} (i : Nat) : c.get (i : Int) 0 = c.l.getD i 0 := by simp [Ar.get]
theorem getD_in {a : List Int} {i : Nat} (h : i < a.length) : a.getD i 0 = a[i] := by simp [List.getD, h]
theorem getD_out {a : List Int} {i : Nat} (h : ¬ i < a.length) : a.getD i 0 = 0 := by simp [List.getD, h]

theorem tops_loop {b : Int → Option (Bd Bool Unit Int)} {a : List Int} {c : Ar Int 4} {N : Nat} (hN : 4 < N)
    (hs : ∀ i : Nat, i < 4 → b (i : Int) = if c.l.getD i 0 < 0 then some (.out (.ret false)) else if c.l.getD i 0 > a.getD i 0 then some (.out (.ret false)) else some (.next ((i + 1 : Nat) : Int)))
    (he : b 4 = some (.out (.go ()))) : ∃ e, rounds b N 0 = some e ∧ ((fits a c ∧ e = .go ()) ∨ (¬ fits a c ∧ e = .ret false)) := by
  have main : ∀ (n k : Nat), k ≤ 4 → 4 - k < n → (∀ i, i < k → 0 ≤ c.l.getD i 0 ∧ c.l.getD i 0 ≤ a.getD i 0) → ∃ e, rounds b n (k : Int) = some e ∧ ((fits a c ∧ e = .go ()) ∨ (¬ fits a c ∧ e = .ret false)) := by
    intro n
    induction n with
    | zero => intro k _ h; exact absurd h (Nat.not_lt_zero _)
    | succ n ih =>
      intro k hk hn hb
      by_cases hkn : k = 4
      · subst hkn
        exact ⟨_, rounds_out he, .inl ⟨hb, rfl⟩⟩
      · have hi : k < 4 := by omega
        by_cases h1 : c.l.getD k 0 < 0
        · refine ⟨_, rounds_out (by rw [hs k hi, if_pos h1]), .inr ⟨fun f => ?_, rfl⟩⟩
          have := f k hi
          omega
        · by_cases h2 : c.l.getD k 0 > a.getD k 0
          · refine ⟨_, rounds_out (by rw [hs k hi, if_neg h1, if_pos h2]), .inr ⟨fun f => ?_, rfl⟩⟩
            have := f k hi
            omega
          · rw [rounds_next (by rw [hs k hi, if_neg h1, if_neg h2])]
            refine ih (k + 1) (by omega) (by omega) fun i h => ?_
            by_cases e : i = k
            · subst e; omega
            · exact hb i (by omega)
  exact main N 0 (by omega) (by omega) (fun i h => absurd h (Nat.not_lt_zero _))

open Classical in
theorem okT_spec {N : Nat} {a : List Int} {c : Ar Int 4} (hb : ∀ x ∈ a, -32768 ≤ x ∧ x ≤ 32767) (hN : 5 < N) : spec_l07Ok.f N a c = some (decide (okT a c)) := by
  simp only [spec_l07Ok.f, states_eq hb hN, Option.bind_some]
  by_cases h : st a = 0
  · rw [if_pos h, decide_eq_false (fun f => by have := f.1; omega)]
  · rw [if_neg h]
    have hp : st a > 0 := by
      have : 0 ≤ st a := by
        by_cases hk : 1 ≤ a.length ∧ a.length ≤ 4 ∧ okG a
        · rw [st_ok hk]
          have := prod_pos hk.2.2
          split <;> omega
        · rw [st_bad hk]; omega
      omega
    obtain ⟨e, he, hh⟩ := tops_loop (b := fun s => spec_l07Ok.b0 N a c s) (a := a) (c := c) (N := N) (by omega)
      (by
        intro i hi
        have g1 : (i : Int) < 4 := by omega
        have g2 : (0 : Int) ≤ i := by omega
        by_cases hl : i < a.length
        · have g3 : (i : Int) < a.length := by omega
          simp only [spec_l07Ok.b0, spec_l07Ok.j2, g1, g2, g3, and_self, if_true, rdL_nat hl, ar_get, i64w_succ hi (by decide), getD_in hl]
        · have g3 : ¬ (i : Int) < a.length := by omega
          simp only [spec_l07Ok.b0, spec_l07Ok.j2, g1, g2, g3, and_self, if_true, if_false, ar_get, i64w_succ hi (by decide), getD_out hl])
      (by simp only [spec_l07Ok.b0]; rfl)
    rw [he]
    rcases hh with ⟨f, rfl⟩ | ⟨f, rfl⟩
    · rw [decide_eq_true ⟨hp, f⟩]; rfl
    · rw [decide_eq_false (fun g => f g.2)]; rfl

open Classical in
theorem okT_impl {N : Nat} {a : List Int} {c : Ar Int 4} (hb : ∀ x ∈ a, -32768 ≤ x ∧ x ≤ 32767) (h : a.length ≤ 1048576) (hN : a.length + 5 < N) : impl_ValidTops.f N a c = some (decide (okT a c)) := by
  simp only [impl_ValidTops.f, validG_eq hb h hN, Option.bind_some, decide_eq_true_eq]
  by_cases hp : st a > 0
  · rw [if_pos hp]
    obtain ⟨e, he, hh⟩ := tops_loop (b := fun s => _impl_Puzzle_holds.b0 N (⟨a, (Ar.rep 4 0), false⟩ : S_impl_Puzzle) c s) (a := a) (c := c) (N := N) (by omega)
      (by
        intro i hi
        have g1 : (i : Int) < 4 := by omega
        have g2 : (0 : Int) ≤ i := by omega
        by_cases hl : i < a.length
        · have g3 : (i : Int) < a.length := by omega
          simp only [_impl_Puzzle_holds.b0, _impl_Puzzle_holds.j2, g1, g2, g3, and_self, if_true, rdL_nat hl, ar_get, i64w_succ hi (by decide), getD_in hl]
        · have g3 : ¬ (i : Int) < a.length := by omega
          simp only [_impl_Puzzle_holds.b0, _impl_Puzzle_holds.j2, g1, g2, g3, and_self, if_true, if_false, ar_get, i64w_succ hi (by decide), getD_out hl])
      (by simp only [_impl_Puzzle_holds.b0]; rfl)
    simp only [_impl_Puzzle_holds.f, he]
    rcases hh with ⟨f, rfl⟩ | ⟨f, rfl⟩
    · rw [decide_eq_true ⟨hp, f⟩]; rfl
    · rw [decide_eq_false (fun g => f g.2)]; rfl
  · rw [if_neg hp, decide_eq_false (fun g => hp g.1)]
end Go.Proofs.YtmnaclghakalmaaX

/- Plain laws: a turn of the glasses, and the wait for the next glass, are the same in the specification and in the code. -/
namespace Go.Proofs.YtmnaclghakalmaaX
open Go
set_option linter.unusedVariables false

theorem okT_len {a : List Int} {c : Ar Int 4} (h : okT a c) : 1 ≤ a.length ∧ a.length ≤ 4 ∧ okG a := by
  by_cases hk : 1 ≤ a.length ∧ a.length ≤ 4 ∧ okG a
  · exact hk
  · have := h.1
    rw [st_bad hk] at this
    omega
theorem getD_le {a : List Int} (h : okG a) (i : Nat) : 0 ≤ a.getD i 0 ∧ a.getD i 0 ≤ 40 := by
  by_cases hi : i < a.length
  · rw [getD_in hi]
    have := h _ (List.getElem_mem hi)
    omega
  · rw [getD_out hi]; omega

theorem get_set_same {c : Ar Int 4} {i : Nat} {v : Int} (hi : i < 4) : (c.set (i : Int) v).l.getD i 0 = v := by
  have := c.h
  simp [Ar.set, List.getD, show i < c.l.length by omega]
theorem get_set_other {c : Ar Int 4} {i j : Nat} {v : Int} (h : ¬ i = j) : (c.set (i : Int) v).l.getD j 0 = c.l.getD j 0 := by
  simp [Ar.set, List.getD, List.getElem?_set_ne h]
theorem fits_set {a : List Int} {c : Ar Int 4} {i : Nat} {v : Int} (hf : fits a c) (hi : i < 4) (hv : 0 ≤ v ∧ v ≤ a.getD i 0) : fits a (c.set (i : Int) v) := by
  intro j hj
  by_cases h : i = j
  · subst h; rw [get_set_same hi]; exact hv
  · rw [get_set_other h]; exact hf j hj
theorem set_same {c : Ar Int 4} {i : Nat} {v : Int} (hi : i < 4) (h : c.l.getD i 0 = v) : c.set (i : Int) v = c := by
  apply Ar.ext'
  have hl := c.h
  have hi' : i < c.l.length := by omega
  have : c.l[i] = v := by rw [← h]; simp [List.getD, hi']
  simp [Ar.set, ← this]

theorem bit_all : ∀ n : Nat, n < 256 → ∀ i : Nat, i < 4 → ((shrI .u8 (n : Int) (i : Int)).tmod 2 = 1 ↔ bAnd .u8 (shrI .u8 (n : Int) (i : Int)) 1 = 1) := by decide +kernel
theorem bit_eq {x : Int} (h0 : 0 ≤ x) (h1 : x ≤ 255) {i : Nat} (hi : i < 4) : ((shrI .u8 x (i : Int)).tmod 2 = 1 ↔ bAnd .u8 (shrI .u8 x (i : Int)) 1 = 1) := by
  have := bit_all x.toNat (by omega) i hi
  rwa [Int.toNat_of_nonneg h0] at this

/-- A turn of the glasses. -/
theorem turn_eq {N : Nat} {a : List Int} {c : Ar Int 4} {x : Int} (ho : okG a) (hl : a.length ≤ 4) (hf : fits a c) (h0 : 0 ≤ x) (h1 : x ≤ 255) (hN : 5 < N) :
    ∃ r, spec_l07Turn.f N a c x = some r ∧ _impl_Glasses_turned.f N a c x = some r ∧ fits a r := by
  obtain ⟨e, e', he, he', r, hr, hr', hfr⟩ := rounds_both (b := fun s => spec_l07Turn.b0 N a x s.1 s.2) (b' := fun s => _impl_Glasses_turned.b0 N a x s.1 s.2)
    (R := fun s t => s = t ∧ fits a s.1 ∧ ∃ i : Nat, s.2 = i ∧ i ≤ a.length) (m := fun s => a.length - s.2.toNat)
    (Q := fun e e' => ∃ r, e = .go r ∧ e' = .go r ∧ fits a r)
    (by
      rintro ⟨c, _⟩ _ ⟨rfl, hf, i, rfl, hi⟩
      simp only at hf
      by_cases hl' : i < a.length
      · right
        have g1 : (i : Int) < a.length := by omega
        have g2 : (0 : Int) ≤ i := by omega
        have g4 : (i : Int) < 4 := by omega
        have ui : u64w (i : Int) = i := u64w_id (by omega) (by omega)
        have bx := bit_eq h0 h1 (show i < 4 by omega)
        have hc := hf i (by omega)
        have ha := getD_le ho i
        rw [getD_in hl'] at hc ha
        have hv : 0 ≤ a[i] - c.l.getD i 0 ∧ a[i] - c.l.getD i 0 ≤ a[i] := by omega
        have hw : i16w (a[i] - c.l.getD i 0) = a[i] - c.l.getD i 0 := i16w_id (by omega) (by omega)
        by_cases hb : bAnd .u8 (shrI .u8 x (i : Int)) 1 = 1
        · refine ⟨(c.set (i : Int) (a[i] - c.l.getD i 0), ((i + 1 : Nat) : Int)), _, ?_, ?_, ⟨rfl, fits_set hf (by omega) (by rw [getD_in hl']; exact hv), i + 1, rfl, by omega⟩, ?_⟩
          · simp only [spec_l07Turn.b0, spec_l07Turn.j2, g1, g2, g4, ui, and_self, if_true, bx.2 hb, rdL_nat hl', ar_get, hw, i64w_succ (show i < 4 by omega) (by decide)]
          · simp only [_impl_Glasses_turned.b0, _impl_Glasses_turned.j2, g1, g2, g4, and_self, if_true, hb, rdL_nat hl', ar_get, hw, i64w_succ (show i < 4 by omega) (by decide)]
          · simp only [Int.toNat_natCast]; omega
        · refine ⟨(c, ((i + 1 : Nat) : Int)), _, ?_, ?_, ⟨rfl, hf, i + 1, rfl, by omega⟩, ?_⟩
          · simp only [spec_l07Turn.b0, spec_l07Turn.j2, g1, g2, ui, and_self, if_true, if_false, mt bx.1 hb, i64w_succ (show i < 4 by omega) (by decide)]
          · simp only [_impl_Glasses_turned.b0, _impl_Glasses_turned.j2, g1, g2, and_self, if_true, if_false, hb, i64w_succ (show i < 4 by omega) (by decide)]
          · simp only [Int.toNat_natCast]; omega
      · left
        have g1 : ¬ (i : Int) < a.length := by omega
        exact ⟨.go c, .go c, by simp only [spec_l07Turn.b0, if_neg g1], by simp only [_impl_Glasses_turned.b0, if_neg g1], c, rfl, rfl, hf⟩)
    N N (c, 0) (c, 0) ⟨rfl, hf, 0, rfl, Nat.zero_le _⟩ (by simp only [Int.toNat_zero]; omega) (by simp only [Int.toNat_zero]; omega)
  subst hr hr'
  refine ⟨r, ?_, ?_, hfr⟩
  · simp only [spec_l07Turn.f, he]; rfl
  · simp only [_impl_Glasses_turned.f, he']; rfl

/-- The shortest wait. -/
theorem least_eq {N : Nat} {a : List Int} {c : Ar Int 4} (ho : okG a) (hf : fits a c) (hN : 5 < N) :
    ∃ m : Int, rounds (fun s => spec_l07Wait.b0 N c s.1 s.2) N (0, 0) = some (.go m) ∧ rounds (fun s => impl_wait.b0 N c s.1 s.2) N (0, 0) = some (.go m) ∧
      0 ≤ m ∧ m ≤ 40 ∧ ∀ j : Nat, j < 4 → 0 < c.l.getD j 0 → 0 < m ∧ m ≤ c.l.getD j 0 := by
  obtain ⟨e, e', he, he', m, hr, hr', hm⟩ := rounds_both (b := fun s => spec_l07Wait.b0 N c s.1 s.2) (b' := fun s => impl_wait.b0 N c s.1 s.2)
    (R := fun s t => s = t ∧ (0 ≤ s.1 ∧ s.1 ≤ 40) ∧ ∃ i : Nat, s.2 = i ∧ i ≤ 4 ∧ ∀ j : Nat, j < i → 0 < c.l.getD j 0 → 0 < s.1 ∧ s.1 ≤ c.l.getD j 0) (m := fun s => 4 - s.2.toNat)
    (Q := fun e e' => ∃ m, e = .go m ∧ e' = .go m ∧ 0 ≤ m ∧ m ≤ 40 ∧ ∀ j : Nat, j < 4 → 0 < c.l.getD j 0 → 0 < m ∧ m ≤ c.l.getD j 0)
    (by
      rintro ⟨m, _⟩ _ ⟨rfl, hm, i, rfl, hi, hh⟩
      simp only at hm hh
      by_cases hl' : i < 4
      · right
        have g1 : (i : Int) < 4 := by omega
        have g2 : (0 : Int) ≤ i := by omega
        have hc := hf i hl'
        have ha := getD_le ho i
        have key : ∀ m' : Int, (m' = m ∧ (c.l.getD i 0 > 0 → 0 < m ∧ m ≤ c.l.getD i 0)) ∨ (m' = c.l.getD i 0 ∧ c.l.getD i 0 > 0 ∧ (m = 0 ∨ c.l.getD i 0 < m)) →
            ((m', ((i + 1 : Nat) : Int)) : Int × Int) = (m', ((i + 1 : Nat) : Int)) ∧ (0 ≤ m' ∧ m' ≤ 40) ∧ ∃ k : Nat, ((i + 1 : Nat) : Int) = k ∧ k ≤ 4 ∧ ∀ j : Nat, j < k → 0 < c.l.getD j 0 → 0 < m' ∧ m' ≤ c.l.getD j 0 := by
          intro m' hq
          refine ⟨rfl, by omega, i + 1, rfl, by omega, fun j hj hp => ?_⟩
          by_cases e : j = i
          · subst e; omega
          · have := hh j (by omega) hp
            omega
        have ms : ∀ x : Int, 4 - Int.toNat ((i + 1 : Nat) : Int) < 4 - Int.toNat (i : Int) := by intro _; simp only [Int.toNat_natCast]; omega
        by_cases h1 : c.l.getD i 0 > 0
        · by_cases h2 : m = 0
          · refine ⟨(c.l.getD i 0, ((i + 1 : Nat) : Int)), _, ?_, ?_, key _ (.inr ⟨rfl, h1, .inl h2⟩), ms 0⟩
            · simp only [spec_l07Wait.b0, spec_l07Wait.j5, g1, g2, and_self, if_true, ar_get, h1, h2, i64w_succ hl' (by decide)]
            · simp only [impl_wait.b0, impl_wait.j4, g1, g2, and_self, if_true, ar_get, h1, h2, i64w_succ hl' (by decide)]
          · by_cases h3 : c.l.getD i 0 < m
            · refine ⟨(c.l.getD i 0, ((i + 1 : Nat) : Int)), _, ?_, ?_, key _ (.inr ⟨rfl, h1, .inr h3⟩), ms 0⟩
              · simp only [spec_l07Wait.b0, spec_l07Wait.j5, g1, g2, and_self, if_true, if_false, ar_get, h1, h2, h3, i64w_succ hl' (by decide)]
              · simp only [impl_wait.b0, impl_wait.j4, g1, g2, and_self, if_true, if_false, ar_get, h1, h2, h3, i64w_succ hl' (by decide)]
            · refine ⟨(m, ((i + 1 : Nat) : Int)), _, ?_, ?_, key _ (.inl ⟨rfl, fun _ => by omega⟩), ms 0⟩
              · simp only [spec_l07Wait.b0, spec_l07Wait.j5, g1, g2, and_self, if_true, if_false, ar_get, h1, h2, h3, i64w_succ hl' (by decide)]
              · simp only [impl_wait.b0, impl_wait.j4, g1, g2, and_self, if_true, if_false, ar_get, h1, h2, h3, i64w_succ hl' (by decide)]
        · refine ⟨(m, ((i + 1 : Nat) : Int)), _, ?_, ?_, key _ (.inl ⟨rfl, fun h => absurd h h1⟩), ms 0⟩
          · simp only [spec_l07Wait.b0, spec_l07Wait.j5, g1, g2, and_self, if_true, if_false, ar_get, h1, i64w_succ hl' (by decide)]
          · simp only [impl_wait.b0, impl_wait.j4, g1, g2, and_self, if_true, if_false, ar_get, h1, i64w_succ hl' (by decide)]
      · left
        obtain rfl : i = 4 := by omega
        exact ⟨.go m, .go m, rfl, rfl, m, rfl, rfl, hm.1, hm.2, hh⟩)
    N N (0, 0) (0, 0) ⟨rfl, by decide, 0, rfl, Nat.zero_le _, fun j h => absurd h (Nat.not_lt_zero _)⟩ (by simp only [Int.toNat_zero]; omega) (by simp only [Int.toNat_zero]; omega)
  subst hr hr'
  exact ⟨m, he, he', hm⟩

/-- The wait. -/
theorem wait_eq {N : Nat} {a : List Int} {c : Ar Int 4} (ho : okG a) (hf : fits a c) (hN : 5 < N) :
    ∃ r : Ar Int 4 × Int, spec_l07Wait.f N c = some r ∧ impl_wait.f N c = some r ∧ fits a r.1 ∧ 0 ≤ r.2 ∧ r.2 ≤ 40 := by
  obtain ⟨m, hs, hi, h0, h40, hm⟩ := least_eq ho hf hN
  obtain ⟨e, e', he, he', r, hr, hr', hfr⟩ := rounds_both (b := fun s => spec_l07Wait.b2 N m s.1 s.2) (b' := fun s => impl_wait.b2 N m s.1 s.2)
    (R := fun s t => s = t ∧ fits a s.1 ∧ ∃ i : Nat, s.2 = i ∧ i ≤ 4 ∧ ∀ j : Nat, i ≤ j → j < 4 → s.1.l.getD j 0 = c.l.getD j 0) (m := fun s => 4 - s.2.toNat)
    (Q := fun e e' => ∃ r, e = .go r ∧ e' = .go r ∧ fits a r)
    (by
      rintro ⟨d, _⟩ _ ⟨rfl, hf, i, rfl, hi, hh⟩
      simp only at hf hh
      by_cases hl' : i < 4
      · right
        have g1 : (i : Int) < 4 := by omega
        have g2 : (0 : Int) ≤ i := by omega
        have hc := hf i hl'
        have ha := getD_le ho i
        have hd := hh i (Nat.le_refl _) hl'
        have hmi := hm i hl'
        have hw : i16w (d.l.getD i 0 - m) = d.l.getD i 0 - m := i16w_id (by omega) (by omega)
        have ms : 4 - Int.toNat ((i + 1 : Nat) : Int) < 4 - Int.toNat (i : Int) := by simp only [Int.toNat_natCast]; omega
        by_cases h1 : d.l.getD i 0 > 0
        · have hmx : mxI (d.l.getD i 0 - m) 0 = d.l.getD i 0 - m := by
            unfold mxI
            rw [if_neg (by omega)]
          refine ⟨(d.set (i : Int) (d.l.getD i 0 - m), ((i + 1 : Nat) : Int)), _, ?_, ?_, ⟨rfl, fits_set hf hl' (by omega), i + 1, rfl, by omega, fun j h1 h2 => by rw [get_set_other (by omega)]; exact hh j (by omega) h2⟩, ms⟩
          · simp only [spec_l07Wait.b2, spec_l07Wait.j4, g1, g2, and_self, if_true, ar_get, h1, hw, i64w_succ hl' (by decide)]
          · simp only [impl_wait.b2, g1, g2, and_self, if_true, ar_get, hw, hmx, i64w_succ hl' (by decide)]
        · have hz : d.l.getD i 0 = 0 := by omega
          have hmx : mxI (i16w (d.l.getD i 0 - m)) 0 = 0 := by
            rw [hw]
            unfold mxI
            split <;> omega
          refine ⟨(d, ((i + 1 : Nat) : Int)), _, ?_, ?_, ⟨rfl, hf, i + 1, rfl, by omega, fun j h1 h2 => hh j (by omega) h2⟩, ms⟩
          · simp only [spec_l07Wait.b2, spec_l07Wait.j4, g1, g2, and_self, if_true, if_false, ar_get, h1, i64w_succ hl' (by decide)]
          · simp only [impl_wait.b2, g1, g2, and_self, if_true, ar_get, hmx, set_same hl' hz, i64w_succ hl' (by decide)]
      · left
        obtain rfl : i = 4 := by omega
        exact ⟨.go d, .go d, rfl, rfl, d, rfl, rfl, hf⟩)
    N N (c, 0) (c, 0) ⟨rfl, hf, 0, rfl, Nat.zero_le _, fun j _ _ => rfl⟩ (by simp only [Int.toNat_zero]; omega) (by simp only [Int.toNat_zero]; omega)
  subst hr hr'
  refine ⟨(r, m), ?_, ?_, hfr, h0, h40⟩
  · simp only [spec_l07Wait.f, hs, Option.bind_some, Ex.fin, spec_l07Wait.a0, he, spec_l07Wait.a2, i64w_id (x := m) (by omega) (by omega)]
  · simp only [impl_wait.f, hi, Option.bind_some, Ex.fin, impl_wait.a0, he', impl_wait.a2, i64w_id (x := m) (by omega) (by omega)]

theorem sets_all : ∀ n : Nat, n ≤ 4 → shlI .i64 1 (n : Int) = 2 ^ n := by decide +kernel
theorem sets_eq {N : Nat} {a : List Int} (h : a.length ≤ 4) : spec_l07Sets.f N a = some (2 ^ a.length) := by
  simp only [spec_l07Sets.f]
  rw [u64w_id (by omega) (by omega), if_pos (by omega), sets_all _ h]
end Go.Proofs.YtmnaclghakalmaaX

/- Tops by their numbers. -/
namespace Go.Proofs.YtmnaclghakalmaaX
open Go
set_option linter.unusedVariables false
set_option linter.unusedSimpArgs false
/-- How many tops there are. -/
def prodR : List Int → Int
  | [] => 1
  | g :: gs => (g + 1) * prodR gs
/-- The number of tops. -/
def hor : List Int → List Int → Int
  | [], _ => 0
  | _ :: _, [] => 0
  | g :: gs, t :: ts => t + (g + 1) * hor gs ts
/-- The tops with a number. -/
def dig : List Int → Int → List Int
  | [], _ => []
  | g :: gs, k => k % (g + 1) :: dig gs (k / (g + 1))
theorem prodR_eq : ∀ (a : List Int) (m : Int), a.foldl (fun m x => m * (x + 1)) m = m * prodR a
  | [], m => by simp [prodR]
  | g :: gs, m => by rw [List.foldl_cons, prodR_eq gs, prodR, Int.mul_assoc]
theorem prodG_R (a : List Int) : prodG a = prodR a := by unfold prodG; rw [prodR_eq]; omega
theorem okG_tail {g : Int} {gs : List Int} (h : okG (g :: gs)) : (1 ≤ g ∧ g ≤ 40) ∧ okG gs := ⟨h g List.mem_cons_self, fun x hx => h x (List.mem_cons_of_mem _ hx)⟩
theorem prodR_pos : ∀ {a : List Int}, okG a → 1 ≤ prodR a
  | [], _ => by simp [prodR]
  | g :: gs, h => by
    obtain ⟨h1, h2⟩ := okG_tail h
    have := prodR_pos h2
    have := Int.mul_le_mul (show (2 : Int) ≤ g + 1 by omega) this (by omega) (by omega)
    simp only [prodR]; omega
/-- The digits are in range. -/
def inR : List Int → List Int → Prop
  | [], _ => True
  | _ :: _, [] => False
  | g :: gs, t :: ts => (0 ≤ t ∧ t ≤ g) ∧ inR gs ts
theorem hor_range : ∀ {a t : List Int}, okG a → inR a t → 0 ≤ hor a t ∧ hor a t < prodR a
  | [], _, _, _ => by simp [hor, prodR]
  | _ :: _, [], _, h => h.elim
  | g :: gs, t :: ts, h, ⟨h1, h2⟩ => by
    obtain ⟨g1, g2⟩ := okG_tail h
    obtain ⟨i1, i2⟩ := hor_range g2 h2
    have m1 := Int.mul_nonneg (show 0 ≤ g + 1 by omega) i1
    have m2 := Int.mul_le_mul_of_nonneg_left (show hor gs ts ≤ prodR gs - 1 by omega) (show 0 ≤ g + 1 by omega)
    rw [Int.mul_sub, Int.mul_one] at m2
    simp only [hor, prodR]
    omega
theorem dig_hor : ∀ {a t : List Int}, okG a → inR a t → dig a (hor a t) = t.take a.length
  | [], _, _, _ => by simp [dig]
  | _ :: _, [], _, h => h.elim
  | g :: gs, t :: ts, h, ⟨h1, h2⟩ => by
    obtain ⟨g1, g2⟩ := okG_tail h
    have e1 : (t + (g + 1) * hor gs ts) % (g + 1) = t := by rw [Int.add_mul_emod_self_left]; exact Int.emod_eq_of_lt h1.1 (by omega)
    have e2 : (t + (g + 1) * hor gs ts) / (g + 1) = hor gs ts := by rw [Int.add_mul_ediv_left _ _ (by omega)]; rw [Int.ediv_eq_zero_of_lt h1.1 (by omega)]; omega
    simp only [hor, dig, e1, e2, dig_hor g2 h2, List.length_cons, List.take_succ_cons]
theorem dig_len : ∀ (a : List Int) (k : Int), (dig a k).length = a.length
  | [], _ => rfl
  | g :: gs, k => by simp [dig, dig_len gs]
theorem dig_in : ∀ {a : List Int} {k : Int}, okG a → 0 ≤ k → inR a (dig a k)
  | [], _, _, _ => trivial
  | g :: gs, k, h, hk => by
    obtain ⟨g1, g2⟩ := okG_tail h
    have m1 := Int.emod_nonneg k (show g + 1 ≠ 0 by omega)
    have m2 := Int.emod_lt_of_pos k (show 0 < g + 1 by omega)
    exact ⟨⟨m1, by omega⟩, dig_in g2 (Int.ediv_nonneg hk (by omega))⟩
theorem hor_dig : ∀ {a : List Int} {k : Int} (ts : List Int), okG a → 0 ≤ k → k < prodR a → hor a (dig a k ++ ts) = k
  | [], k, ts, _, h0, h1 => by simp [prodR] at h1; simp [hor]; omega
  | g :: gs, k, ts, h, h0, h1 => by
    obtain ⟨g1, g2⟩ := okG_tail h
    have hq : k / (g + 1) < prodR gs := by
      refine Int.ediv_lt_of_lt_mul (by omega) ?_
      simp only [prodR] at h1
      rw [Int.mul_comm]; exact h1
    have ih := hor_dig ts g2 (Int.ediv_nonneg h0 (show 0 ≤ g + 1 by omega)) hq
    show k % (g + 1) + (g + 1) * hor gs (dig gs (k / (g + 1)) ++ ts) = k
    rw [ih]
    have := Int.emod_add_mul_ediv k (g + 1)
    omega
theorem inR_fits : ∀ {a l : List Int}, a.length ≤ l.length → (inR a l ↔ ∀ i : Nat, i < a.length → 0 ≤ l.getD i 0 ∧ l.getD i 0 ≤ a.getD i 0)
  | [], _, _ => by simp [inR]
  | _ :: _, [], h => by simp at h
  | g :: gs, t :: ts, h => by
    have ih := inR_fits (a := gs) (l := ts) (by simpa using h)
    constructor
    · rintro ⟨h1, h2⟩ i hi
      cases i with
      | zero => simpa using h1
      | succ i => simpa using (ih.1 h2) i (by simpa using hi)
    · intro hh
      refine ⟨by simpa using hh 0 (by simp), ih.2 fun i hi => ?_⟩
      simpa using hh (i + 1) (by simpa using hi)
theorem fits_in {a : List Int} {c : Ar Int 4} (hl : a.length ≤ 4) (h : fits a c) : inR a c.l := (inR_fits (by rw [c.h]; exact hl)).2 fun i hi => h i (by omega)
/-- The tops with a number, as the reference lays them. -/
def atT (a : List Int) (k : Int) : Ar Int 4 := ⟨(dig a k ++ List.replicate 4 0).take 4, by simp⟩
theorem atT_get {a : List Int} (hl : a.length ≤ 4) (k : Int) {i : Nat} (hi : i < 4) : (atT a k).l.getD i 0 = (dig a k).getD i 0 := by
  unfold atT
  rw [List.getD_eq_getElem?_getD, List.getD_eq_getElem?_getD, List.getElem?_take, if_pos hi]
  by_cases c : i < (dig a k).length
  · rw [List.getElem?_append_left c]
  · rw [List.getElem?_append_right (by omega), List.getElem?_eq_none (l := dig a k) (by omega), List.getElem?_replicate]
    split <;> rfl
theorem atT_fits {a : List Int} (hl : a.length ≤ 4) (ho : okG a) {k : Int} (h0 : 0 ≤ k) : fits a (atT a k) := by
  intro i hi
  rw [atT_get hl k hi]
  by_cases c : i < a.length
  · exact (inR_fits (by rw [dig_len]; exact Nat.le_refl _)).1 (dig_in ho h0) i c
  · have e1 : (dig a k).getD i 0 = 0 := by rw [List.getD_eq_getElem?_getD, List.getElem?_eq_none (by rw [dig_len]; omega)]; rfl
    rw [e1, getD_out c]; omega
theorem atT_hor {a : List Int} (hl : a.length ≤ 4) (ho : okG a) {c : Ar Int 4} (h : fits a c) : atT a (hor a c.l) = c := by
  have e := dig_hor ho (fits_in hl h)
  refine Ar.ext' ?_
  unfold atT
  simp only [e]
  refine List.ext_getElem (by simp [c.h]) fun i h1 h2 => ?_
  have hi : i < 4 := by rw [c.h] at h2; exact h2
  rw [List.getElem_take]
  by_cases hc : i < a.length
  · rw [List.getElem_append_left (by rw [List.length_take, c.h]; omega), List.getElem_take]
  · rw [List.getElem_append_right (by rw [List.length_take, c.h]; omega), List.getElem_replicate]
    have := h i hi
    rw [getD_out hc, getD_in h2] at this
    omega
theorem hor_atT {a : List Int} (hl : a.length ≤ 4) (ho : okG a) {k : Int} (h0 : 0 ≤ k) (h1 : k < prodR a) : hor a (atT a k).l = k := by
  have e : (atT a k).l = dig a k ++ List.replicate (4 - a.length) 0 := by
    unfold atT
    simp only
    rw [List.take_append, List.take_of_length_le (by rw [dig_len]; exact hl), dig_len, List.take_replicate]
    congr 2
    omega
  rw [e]
  exact hor_dig _ ho h0 h1
theorem drop_cons {l : List Int} {i : Nat} (h : i < l.length) : l.drop i = l.getD i 0 :: l.drop (i + 1) := by
  rw [List.drop_eq_getElem_cons h, getD_in h]
theorem okG_drop {a : List Int} (h : okG a) (i : Nat) : okG (a.drop i) := fun x hx => h x (List.mem_of_mem_drop hx)
theorem inR_drop : ∀ {a l : List Int} (i : Nat), inR a l → inR (a.drop i) (l.drop i)
  | a, l, 0, h => h
  | [], l, i + 1, h => by simp [inR]
  | _ :: _, [], _ + 1, h => h.elim
  | g :: gs, t :: ts, i + 1, h => by simpa using inR_drop i h.2
theorem prod_drop : ∀ {a : List Int} (i : Nat), okG a → prodR (a.drop i) ≤ prodR a
  | a, 0, h => Int.le_refl _
  | [], _ + 1, h => Int.le_refl _
  | g :: gs, i + 1, h => by
    obtain ⟨g1, g2⟩ := okG_tail h
    have ih := prod_drop i g2
    have p := prodR_pos g2
    have := Int.mul_le_mul (show (1 : Int) ≤ g + 1 by omega) (Int.le_refl (prodR gs)) (by omega) (by omega)
    simp only [List.drop_succ_cons, prodR]; omega
theorem index_eq {N : Nat} {a : List Int} {c : Ar Int 4} (ho : okG a) (hl : a.length ≤ 4) (hp : prodR a ≤ 3000) (hf : fits a c) (hN : 5 < N) : spec_l07Index.f N a c = some (hor a c.l) := by
  have hin := fits_in hl hf
  have main : ∀ (i m : Nat), i ≤ a.length → i < m → rounds (fun s => spec_l07Index.b0 N a c s.1 s.2) m (hor (a.drop i) (c.l.drop i), (i : Int) - 1) = some (.go (hor a c.l)) := by
    intro i
    induction i with
    | zero =>
      intro m _ hm
      obtain ⟨m, rfl⟩ : ∃ j, m = j + 1 := ⟨m - 1, by omega⟩
      refine rounds_out ?_
      show spec_l07Index.b0 N a c (hor a c.l) (((0 : Nat) : Int) - 1) = _
      unfold spec_l07Index.b0
      rw [if_neg (by omega)]
    | succ i ih =>
      intro m hi hm
      obtain ⟨m, rfl⟩ : ∃ j, m = j + 1 := ⟨m - 1, by omega⟩
      have hr := hor_range (okG_drop ho (i + 1)) (inR_drop (i + 1) hin)
      have hr2 := hor_range (okG_drop ho i) (inR_drop i hin)
      have hpd := prod_drop (a := a) (i + 1) ho
      have hpd2 := prod_drop (a := a) i ho
      have hil : i < c.l.length := by rw [c.h]; omega
      have ea : a.drop i = a.getD i 0 :: a.drop (i + 1) := drop_cons (by omega)
      have ec : c.l.drop i = c.l.getD i 0 :: c.l.drop (i + 1) := drop_cons hil
      have hg := getD_le ho i
      have hc := hf i (by omega)
      have eh : hor (a.drop i) (c.l.drop i) = c.l.getD i 0 + (a.getD i 0 + 1) * hor (a.drop (i + 1)) (c.l.drop (i + 1)) := by rw [ea, ec]; rfl
      have hm1 := Int.mul_nonneg (show 0 ≤ a.getD i 0 + 1 by omega) hr.1
      have hb : spec_l07Index.b0 N a c (hor (a.drop (i + 1)) (c.l.drop (i + 1))) (((i + 1 : Nat) : Int) - 1) = some (.next (hor (a.drop i) (c.l.drop i), (i : Int) - 1)) := by
        have ei : ((i + 1 : Nat) : Int) - 1 = (i : Int) := by omega
        rw [ei]
        unfold spec_l07Index.b0
        rw [if_pos (by omega), if_pos ⟨by omega, by omega⟩, if_pos ⟨by omega, by omega⟩]
        have er : rdL a (i : Int) 0 = a.getD i 0 := by unfold rdL; rw [Int.toNat_natCast]
        rw [er, ar_get]
        rw [i64w_id (x := a.getD i 0) (by omega) (by omega), i64w_id (x := a.getD i 0 + 1) (by omega) (by omega), i64w_id (x := c.l.getD i 0) (by omega) (by omega), Int.mul_comm, i64w_id (x := (a.getD i 0 + 1) * hor (a.drop (i + 1)) (c.l.drop (i + 1))) (by omega) (by omega), i64w_id (x := (a.getD i 0 + 1) * hor (a.drop (i + 1)) (c.l.drop (i + 1)) + c.l.getD i 0) (by omega) (by omega), i64w_id (x := (i : Int) - 1) (by omega) (by omega), eh, Int.add_comm (c.l.getD i 0)]
      exact (rounds_next (n := m) (b := fun s => spec_l07Index.b0 N a c s.1 s.2) (s := (hor (a.drop (i + 1)) (c.l.drop (i + 1)), ((i + 1 : Nat) : Int) - 1)) hb).trans (ih m (by omega) (by omega))
  have h := main a.length N (Nat.le_refl _) (by omega)
  rw [List.drop_length] at h
  unfold spec_l07Index.f
  rw [i64w_id (x := (a.length : Int) - 1) (by omega) (by omega), show rounds (fun s => spec_l07Index.b0 N a c s.1 s.2) N ((0 : Int), (a.length : Int) - 1) = _ from h]
  rfl
/-- What is left of a number behind so many digits. -/
def quo : List Int → Int → Nat → Int
  | _, k, 0 => k
  | [], k, _ + 1 => k
  | g :: gs, k, i + 1 => quo gs (k / (g + 1)) i
theorem quo_zero (a : List Int) (k : Int) : quo a k 0 = k := by cases a <;> rfl
theorem quo_dig : ∀ {a : List Int} {k : Int} {i : Nat}, i < a.length → (dig a k).getD i 0 = quo a k i % (a.getD i 0 + 1) ∧ quo a k (i + 1) = quo a k i / (a.getD i 0 + 1)
  | [], _, _, h => by simp at h
  | g :: gs, k, 0, _ => by cases gs <;> simp [dig, quo]
  | g :: gs, k, i + 1, h => by
    have ih := quo_dig (a := gs) (k := k / (g + 1)) (i := i) (by simpa using h)
    exact ih
theorem quo_range : ∀ {a : List Int} {k : Int} (i : Nat), okG a → 0 ≤ k → 0 ≤ quo a k i ∧ quo a k i ≤ k
  | a, k, 0, _, h => by rw [quo_zero]; exact ⟨h, Int.le_refl _⟩
  | [], k, _ + 1, _, h => ⟨h, Int.le_refl _⟩
  | g :: gs, k, i + 1, ho, h => by
    obtain ⟨g1, g2⟩ := okG_tail ho
    have q := quo_range (a := gs) (k := k / (g + 1)) i g2 (Int.ediv_nonneg h (by omega))
    have := Int.ediv_le_self (g + 1) h
    simp only [quo]
    omega
theorem at_eq {N : Nat} {a : List Int} {k : Int} (ho : okG a) (hl : a.length ≤ 4) (h0 : 0 ≤ k) (h1 : k ≤ 3000) (hN : 5 < N) : spec_l07At.f N a k = some (atT a k) := by
  have main : ∀ (m i : Nat) (c : Ar Int 4), i ≤ a.length → a.length - i < m → (∀ j, j < 4 → c.l.getD j 0 = if j < i then (dig a k).getD j 0 else 0) → rounds (fun s => spec_l07At.b0 N a s.1 s.2.1 s.2.2) m (quo a k i, c, (i : Int)) = some (.go (atT a k)) := by
    intro m
    induction m with
    | zero => intro i c _ h; exact absurd h (Nat.not_lt_zero _)
    | succ m ih =>
      intro i c hi hm hc
      by_cases cl : i < a.length
      · obtain ⟨q1, q2⟩ := quo_dig (k := k) cl
        have qr := quo_range (a := a) i ho h0
        have hg := getD_le ho i
        have er : rdL a (i : Int) 0 = a.getD i 0 := by unfold rdL; rw [Int.toNat_natCast]
        have hb : spec_l07At.b0 N a (quo a k i) c (i : Int) = some (.next (quo a k (i + 1), c.set (i : Int) ((dig a k).getD i 0), ((i + 1 : Nat) : Int))) := by
          have hm1 := Int.emod_nonneg (quo a k i) (show a.getD i 0 + 1 ≠ 0 by omega)
          have hm2 := Int.emod_lt_of_pos (quo a k i) (show 0 < a.getD i 0 + 1 by omega)
          have hd := Int.ediv_nonneg qr.1 (show 0 ≤ a.getD i 0 + 1 by omega)
          have hd2 := Int.ediv_le_self (a.getD i 0 + 1) qr.1
          unfold spec_l07At.b0
          rw [if_pos (by omega), if_pos ⟨by omega, by omega⟩, er, i64w_id (x := a.getD i 0) (by omega) (by omega), i64w_id (x := a.getD i 0 + 1) (by omega) (by omega), if_pos (by omega), if_pos ⟨by omega, by omega⟩, if_pos (by omega), Int.tmod_eq_emod_of_nonneg qr.1, Int.tdiv_eq_ediv_of_nonneg qr.1, i64w_id (x := quo a k i / (a.getD i 0 + 1)) (by omega) (by omega), i64w_id (x := (i : Int) + 1) (by omega) (by omega), q1, q2, show i16w (quo a k i % (a.getD i 0 + 1)) = quo a k i % (a.getD i 0 + 1) from i16w_id (by omega) (by omega)]
          rfl
        refine (rounds_next (n := m) (b := fun s => spec_l07At.b0 N a s.1 s.2.1 s.2.2) (s := (quo a k i, c, (i : Int))) hb).trans (ih (i + 1) _ (by omega) (by omega) fun j hj => ?_)
        by_cases e : i = j
        · subst e; rw [get_set_same hj, if_pos (by omega)]
        · rw [get_set_other e, hc j hj]
          by_cases hji : j < i
          · rw [if_pos hji, if_pos (by omega)]
          · rw [if_neg hji, if_neg (by omega)]
      · have : i = a.length := by omega
        subst this
        have e : c = atT a k := by
          refine Ar.ext' (List.ext_getElem (by rw [c.h, (atT a k).h]) fun j h1 h2 => ?_)
          have hj : j < 4 := by rw [c.h] at h1; exact h1
          have g1 := hc j hj
          rw [← getD_in h1, ← getD_in h2, g1, atT_get hl k hj]
          by_cases hja : j < a.length
          · rw [if_pos hja]
          · rw [if_neg hja, List.getD_eq_getElem?_getD, List.getElem?_eq_none (by rw [dig_len]; omega)]; rfl
        rw [e]
        refine rounds_out ?_
        show spec_l07At.b0 N a (quo a k a.length) (atT a k) (a.length : Int) = _
        unfold spec_l07At.b0
        rw [if_neg (by omega)]
  have h := main N 0 (Ar.rep 4 0) (by omega) (by omega) (fun j hj => by
    rw [if_neg (by omega)]
    match j, hj with
    | 0, _ => rfl
    | 1, _ => rfl
    | 2, _ => rfl
    | 3, _ => rfl)
  rw [quo_zero] at h
  unfold spec_l07At.f
  rw [show rounds (fun s => spec_l07At.b0 N a s.1 s.2.1 s.2.2) N (k, (Ar.rep 4 0), 0) = _ from h]
  rfl
end Go.Proofs.YtmnaclghakalmaaX

/- Moments, what can be next behind them, and their numbers. -/
namespace Go.Proofs.YtmnaclghakalmaaX
open Go
set_option linter.unusedVariables false
set_option linter.unusedSimpArgs false
abbrev Mo := S_impl_moment
abbrev T4 := Ar Int 4
/-- Glasses that hold, with no more than 3000 tops. -/
structure Gl (a : List Int) : Prop where
  ok : okG a
  len : a.length ≤ 4
  few : prodR a ≤ 3000
/-- The tops at the next event, when a set is turned, and how long it takes. -/
def nxt (N : Nat) (a : List Int) (c : T4) (s : Nat) : T4 × Int := match spec_l07Turn.f N a c (s : Int) with
  | some r => (spec_l07Wait.f N r).getD (c, 0)
  | none => (c, 0)
theorem nxt_ok {N : Nat} {a : List Int} (G : Gl a) {c : T4} (hf : fits a c) {s : Nat} (hs : s ≤ 255) (hN : 5 < N) :
    ∃ r, spec_l07Turn.f N a c (s : Int) = some r ∧ _impl_Glasses_turned.f N a c (s : Int) = some r ∧ spec_l07Wait.f N r = some (nxt N a c s) ∧ impl_wait.f N r = some (nxt N a c s) ∧ fits a (nxt N a c s).1 ∧ 0 ≤ (nxt N a c s).2 ∧ (nxt N a c s).2 ≤ 40 := by
  obtain ⟨r, h1, h2, h3⟩ := turn_eq (N := N) (x := (s : Int)) G.ok G.len hf (by omega) (by omega) hN
  obtain ⟨w, g1, g2, g3, g4, g5⟩ := wait_eq (N := N) G.ok h3 hN
  have e : nxt N a c s = w := by unfold nxt; rw [h1]; simp only [g1]; rfl
  rw [e]
  exact ⟨r, h1, h2, g1, g2, g3, g4, g5⟩
/-- The moment that is next, if there is one in time. -/
def suc (N : Nat) (a : List Int) (T : Int) (x : Mo) (s : Nat) : Option Mo :=
  if (nxt N a x.f_tops s).2 > 0 then (if x.f_time + (nxt N a x.f_tops s).2 ≤ T then some ⟨x.f_time + (nxt N a x.f_tops s).2, (nxt N a x.f_tops s).1⟩ else none) else none
/-- A moment in time. -/
def okM (a : List Int) (T : Int) (x : Mo) : Prop := (0 ≤ x.f_time ∧ x.f_time ≤ T) ∧ fits a x.f_tops
theorem suc_ok {N : Nat} {a : List Int} (G : Gl a) {T : Int} {x y : Mo} (hx : okM a T x) {s : Nat} (hs : s ≤ 255) (hN : 5 < N) (h : suc N a T x s = some y) : okM a T y := by
  obtain ⟨r, _, _, _, _, h3, h4, _⟩ := nxt_ok G hx.2 hs hN
  unfold suc at h
  split at h
  · split at h
    · rename_i g1 g2
      cases h
      have := hx.1
      exact ⟨⟨by dsimp only; omega, g2⟩, h3⟩
    · cases h
  · cases h
theorem pow_le {n : Nat} (h : n ≤ 4) : 2 ^ n ≤ 16 ∧ 1 ≤ 2 ^ n := by
  match n, h with
  | 0, _ => decide
  | 1, _ => decide
  | 2, _ => decide
  | 3, _ => decide
  | 4, _ => decide
theorem pow_cast (n : Nat) : (2 : Int) ^ n = ((2 ^ n : Nat) : Int) := by simp
/-- Glasses, how many tops they have, and a time. -/
structure Se (a : List Int) (n T : Nat) : Prop where
  gl : Gl a
  n_eq : (n : Int) = prodR a
  n1 : 1 ≤ n
  n3 : n ≤ 3000
  t : T ≤ 120
/-- The moment with a number. -/
def Kx (a : List Int) (n : Nat) (i : Nat) : Mo := ⟨((i / n : Nat) : Int), atT a ((i % n : Nat) : Int)⟩
/-- The number of a moment. -/
def ix (a : List Int) (n : Nat) (y : Mo) : Nat := y.f_time.toNat * n + (hor a y.f_tops.l).toNat
section
variable {a : List Int} {n T : Nat}
theorem Kx_ok (h : Se a n T) {i : Nat} (hi : i < n * (T + 1)) : okM a (T : Int) (Kx a n i) := by
  have h1 : i / n < T + 1 := Nat.div_lt_of_lt_mul hi
  exact ⟨⟨Int.natCast_nonneg _, Int.ofNat_le.2 (show i / n ≤ T by omega)⟩, atT_fits h.gl.len h.gl.ok (Int.natCast_nonneg _)⟩
theorem ix_lt (h : Se a n T) {y : Mo} (hy : okM a (T : Int) y) : ix a n y < n * (T + 1) ∧ Kx a n (ix a n y) = y := by
  obtain ⟨⟨t0, t1⟩, hf⟩ := hy
  obtain ⟨h0, h1⟩ := hor_range h.gl.ok (fits_in h.gl.len hf)
  obtain ⟨t, et⟩ := Int.eq_ofNat_of_zero_le t0
  obtain ⟨q, eq⟩ := Int.eq_ofNat_of_zero_le h0
  have hq : q < n := by have := h.n_eq; omega
  have ht : t ≤ T := by omega
  have e : ix a n y = t * n + q := by unfold ix; rw [et, eq]; simp
  have hd : (t * n + q) / n = t := by rw [Nat.mul_comm, Nat.mul_add_div h.n1, Nat.div_eq_of_lt hq, Nat.add_zero]
  have hm : (t * n + q) % n = q := by rw [Nat.mul_comm, Nat.mul_add_mod, Nat.mod_eq_of_lt hq]
  rw [e]
  refine ⟨?_, ?_⟩
  · have := Nat.mul_le_mul_right n (show t + 1 ≤ T + 1 by omega)
    rw [Nat.mul_comm n (T + 1)]
    rw [Nat.add_mul] at this
    omega
  · unfold Kx
    rw [hd, hm, ← eq, atT_hor h.gl.len h.gl.ok hf]
    obtain ⟨yt, yc⟩ := y
    simp only at et
    rw [et]
theorem Kx_ix (h : Se a n T) (i : Nat) : ix a n (Kx a n i) = i := by
  have hm := Nat.mod_lt i (show 0 < n from h.n1)
  show ((i / n : Nat) : Int).toNat * n + (hor a (atT a ((i % n : Nat) : Int)).l).toNat = i
  rw [hor_atT h.gl.len h.gl.ok (by omega) (by rw [← h.n_eq]; omega), Int.toNat_natCast, Int.toNat_natCast, Nat.mul_comm, Nat.div_add_mod]
theorem Kx_inj (h : Se a n T) {i j : Nat} (e : Kx a n i = Kx a n j) : i = j := by rw [← Kx_ix h i, e, Kx_ix h j]
end
end Go.Proofs.YtmnaclghakalmaaX

/- What glasses, tops and a time come to: a code, the same in the specification and in the code. -/
namespace Go.Proofs.YtmnaclghakalmaaX
open Go
set_option linter.unusedVariables false
set_option linter.unusedSimpArgs false
/-- The code of glasses, tops and a time. -/
instance (a : List Int) (c : T4) : Decidable (okT a c) := by unfold okT fits; infer_instance
def askedC (a : List Int) (c : T4) (t : Int) : Int := if okT a c then (if 0 ≤ t ∧ t ≤ 120 then 0 else 2) else 1
theorem asked_spec {N : Nat} {a : List Int} {c : T4} {t : Int} (hb : ∀ x ∈ a, -32768 ≤ x ∧ x ≤ 32767) (hN : 5 < N) : spec_l07Asked.f N a c t = some (askedC a c t) := by
  simp only [spec_l07Asked.f, okT_spec hb hN, Option.bind_some, decide_eq_true_eq, askedC]
  by_cases hk : okT a c
  · rw [if_pos hk, if_pos hk]
    unfold spec_l00In.f
    by_cases h1 : t ≥ 0
    · rw [if_pos h1, Option.bind_some]
      by_cases h2 : t ≤ 120
      · rw [if_pos (decide_eq_true h2), if_pos ⟨h1, h2⟩]
      · rw [if_neg (by simpa using h2), if_neg (fun g => h2 g.2)]
    · rw [if_neg h1, Option.bind_some, if_neg Bool.false_ne_true, if_neg (fun g => h1 g.1)]
  · rw [if_neg hk, if_neg hk]
theorem asked_impl {N : Nat} {a : List Int} {c : T4} {t : Int} (hb : ∀ x ∈ a, -32768 ≤ x ∧ x ≤ 32767) (h : a.length ≤ 1048576) (hN : a.length + 5 < N) : impl_timeCode.f N a c t = some (askedC a c t) := by
  simp only [impl_timeCode.f, okT_impl hb h hN, Option.bind_some, decide_eq_true_eq, askedC]
  by_cases hk : okT a c
  · rw [if_pos hk, if_pos hk]
    unfold impl_within.f impl_unless.f
    by_cases h1 : (0 : Int) ≤ t
    · rw [if_pos h1, Option.bind_some]
      by_cases h2 : t ≤ 120
      · rw [if_pos (decide_eq_true h2), Option.bind_some, if_pos ⟨h1, h2⟩]
      · rw [if_neg (by simpa using h2), Option.bind_some, if_neg (fun g => h2 g.2)]
    · rw [if_neg h1, Option.bind_some, if_neg Bool.false_ne_true, Option.bind_some, if_neg (fun g => h1 g.1)]
  · rw [if_neg hk, if_neg hk]
/-- Where the code is 0, all is in range. -/
theorem asked_ok {a : List Int} {c : T4} {t : Int} (h : askedC a c t = 0) : okT a c ∧ 0 ≤ t ∧ t ≤ 120 := by
  unfold askedC at h
  by_cases hk : okT a c
  · rw [if_pos hk] at h
    by_cases ht : 0 ≤ t ∧ t ≤ 120
    · exact ⟨hk, ht⟩
    · rw [if_neg ht] at h; cases h
  · rw [if_neg hk] at h; cases h
theorem okT_se {a : List Int} {c : T4} {t : Int} (hk : okT a c) (h0 : 0 ≤ t) (h1 : t ≤ 120) : ∃ n T : Nat, st a = (n : Int) ∧ t = (T : Int) ∧ Se a n T := by
  obtain ⟨h2, h3, h4⟩ := okT_len hk
  have hp := prodR_pos h4
  have hs : st a = prodR a ∧ prodR a ≤ 3000 := by
    have := hk.1
    rw [st_ok ⟨h2, h3, h4⟩, prodG_R] at this ⊢
    split at this
    · omega
    · rename_i g; rw [if_neg g]; exact ⟨rfl, by omega⟩
  obtain ⟨n, hn⟩ := Int.eq_ofNat_of_zero_le (show 0 ≤ prodR a by omega)
  obtain ⟨T, hT⟩ := Int.eq_ofNat_of_zero_le h0
  exact ⟨n, T, by rw [hs.1, hn], hT, ⟨⟨h4, h3, hs.2⟩, hn.symm, by omega, by omega, by omega⟩⟩
end Go.Proofs.YtmnaclghakalmaaX
