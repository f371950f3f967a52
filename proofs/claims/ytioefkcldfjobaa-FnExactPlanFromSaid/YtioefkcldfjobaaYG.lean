/- Plain laws that several rows share: copies and comparisons of glasses and tops, what a list of glasses is worth, the check of the tops. -/
import Derived.Test.YtioefkcldfjobaaXR
import Derived.Test.YtioefkcldfjobaaXWalk
namespace Go.Proofs.YtioefkcldfjobaaX
open Go
set_option linter.unusedVariables false

theorem toGlasses_eq {N : Nat} {a : List Int} (h : a.length ≤ 1048576) (hN : a.length < N) : laws_toGlasses.f N a = some a := by
  unfold laws_toGlasses.f
  rw [if_pos ⟨by omega, by omega⟩, Int.toNat_natCast, rounds_copy a 0 hN ?_ ?_]
  · rfl
  · intro x i hi hx
    simp only [laws_toGlasses.b0]
    rw [if_pos (by omega), if_pos ⟨by omega, by omega⟩, if_pos ⟨by omega, by omega⟩, rdL_nat hi, stL_nat, i64w_succ hi (by omega)]
  · intro x hx
    simp only [laws_toGlasses.b0]
    rw [if_neg (by omega)]

theorem eqGlasses_eq {N : Nat} {a c : List Int} (h : a.length ≤ 1048576) (hN : a.length < N) : laws_eqGlasses.f N a c = some (decide (a = c)) := by
  unfold laws_eqGlasses.f
  by_cases hl : a.length = c.length
  · rw [if_pos (by omega), rounds_same a c hl hN ?_ ?_]
    · by_cases e : a = c
      · subst e; simp [Ex.fin, laws_eqGlasses.a0]
      · simp [e, Ex.fin]
    · intro i hi
      simp only [laws_eqGlasses.b0]
      rw [if_pos (by omega), if_pos ⟨by omega, by omega⟩, if_pos ⟨by omega, by omega⟩, rdL_nat hi, rdL_nat (hl ▸ hi), i64w_succ hi (by omega)]
    · simp only [laws_eqGlasses.b0]
      rw [if_neg (by omega)]
  · rw [if_neg (by omega)]
    have : ¬ a = c := fun e => hl (by rw [e])
    simp [this]

theorem four {α : Type} (a : Ar α 4) : ∃ x y z t, a = ⟨[x, y, z, t], rfl⟩ := by
  obtain ⟨l, h⟩ := a
  match l, h with
  | [x, y, z, t], _ => exact ⟨x, y, z, t, rfl⟩

theorem toTops_eq {N : Nat} (a : Ar Int 4) (hN : 4 < N) : laws_toTops.f N a = some a := by
  obtain ⟨x, y, z, t, rfl⟩ := four a
  obtain ⟨N, rfl⟩ : ∃ M, N = M + 5 := ⟨N - 5, by omega⟩
  rfl

/-- The glasses are in range. -/
def okG (a : List Int) : Prop := ∀ x ∈ a, 1 ≤ x ∧ x ≤ 40
instance (a : List Int) : Decidable (okG a) := inferInstanceAs (Decidable (∀ x ∈ a, 1 ≤ x ∧ x ≤ 40))
/-- How many states they have. -/
def prodG (a : List Int) : Int := a.foldl (fun m x => m * (x + 1)) 1
/-- The same, or 0 where the glasses are not valid. -/
def st (a : List Int) : Int := if 1 ≤ a.length ∧ a.length ≤ 4 ∧ okG a then (if prodG a > 3000 then 0 else prodG a) else 0

abbrev muS (acc x : Int) : Ex (Ex Int Int) Int := .go (acc * (x + 1))
abbrev muF (acc : Int) : Ex Int Int := .go acc
abbrev stS (acc x : Int) : Ex (Ex Int Int) Int := if x < 1 then .ret (.ret 0) else if x > 40 then .ret (.ret 0) else .go (acc * (x + 1))

theorem mul_walk : ∀ (a : List Int) (acc : Int), walk muS muF acc a = .go (a.foldl (fun m x => m * (x + 1)) acc)
  | [], acc => rfl
  | x :: a, acc => by simp only [walk, List.foldl_cons]; exact mul_walk a _
theorem st_walk_ok : ∀ (a : List Int) (acc : Int), okG a → walk stS muF acc a = .go (a.foldl (fun m x => m * (x + 1)) acc)
  | [], acc, _ => rfl
  | x :: a, acc, h => by
    have hx := h x (by simp)
    simp only [walk, stS, if_neg (show ¬ x < 1 by omega), if_neg (show ¬ x > 40 by omega), List.foldl_cons]
    exact st_walk_ok a _ fun y hy => h y (by simp [hy])
theorem st_walk_bad : ∀ (a : List Int) (acc : Int), ¬ okG a → walk stS muF acc a = .ret 0
  | [], acc, h => absurd (by simp [okG]) h
  | x :: a, acc, h => by
    by_cases h1 : x < 1
    · simp only [walk, stS, if_pos h1]
    · by_cases h2 : x > 40
      · simp only [walk, stS, if_neg h1, if_pos h2]
      · simp only [walk, stS, if_neg h1, if_neg h2]
        exact st_walk_bad a _ fun g => h (by
          intro y hy
          rcases List.mem_cons.1 hy with rfl | hy
          · omega
          · exact g y hy)

theorem mul_bound {acc x : Int} {i : Nat} (hi : i < 4) (h : 1 ≤ acc ∧ acc ≤ 41 ^ i) (hx : 1 ≤ x ∧ x ≤ 40) : (1 ≤ acc * (x + 1) ∧ acc * (x + 1) ≤ 41 ^ (i + 1)) ∧ (acc * (x + 1) ≤ 2825761) := by
  have h1 : acc * (x + 1) ≤ acc * 41 := Int.mul_le_mul_of_nonneg_left (by omega) (by omega)
  have h0 : acc * 1 ≤ acc * (x + 1) := Int.mul_le_mul_of_nonneg_left (by omega) (by omega)
  have h3 : (41 : Int) ^ (i + 1) = 41 ^ i * 41 := by rw [Int.pow_succ]
  have h4 : (41 : Int) ^ i ≤ 68921 := by
    rcases i with _ | _ | _ | _ | i
    · decide
    · decide
    · decide
    · decide
    · omega
  generalize acc * (x + 1) = m at *
  omega

theorem states_loop {N : Nat} {a : List Int} (hb : ∀ x ∈ a, -32768 ≤ x ∧ x ≤ 32767) (h : a.length ≤ 4) (hN : a.length < N) : rounds (fun s => spec_l07States.b0 N a s.1 s.2) N (1, 0) = some (walk stS muF 1 a) := by
  refine rounds_walk0 (fun acc i => (acc, i)) a stS muF (fun i acc => 1 ≤ acc ∧ acc ≤ 41 ^ i) hN (by decide) ?_ ?_
  · intro acc i hi hI
    have hx := hb _ (List.getElem_mem hi)
    have hq : spec_l07States.b0 N a acc (i : Int) = if a[i] < 1 then some (.out (.ret 0)) else if a[i] > 40 then some (.out (.ret 0)) else some (.next (i64w (acc * i64w (a[i] + 1)), ((i + 1 : Nat) : Int))) := by
      have g1 : (i : Int) < a.length := by omega
      have g2 : (0 : Int) ≤ i := by omega
      simp only [spec_l07States.b0, g1, g2, and_self, if_true, rdL_nat hi, i64w_succ hi (show a.length ≤ 9223372036854775807 by omega), i64w_id (x := a[i]) (by omega) (by omega)]
    rw [hq]
    by_cases h1 : a[i] < 1
    · simp only [stS, if_pos h1]
    · by_cases h2 : a[i] > 40
      · simp only [stS, if_neg h1, if_pos h2]
      · have hm := mul_bound (show i < 4 by omega) hI (show 1 ≤ a[i] ∧ a[i] ≤ 40 by omega)
        simp only [stS, if_neg h1, if_neg h2]
        refine ⟨hm.1, ?_⟩
        rw [i64w_id (x := a[i] + 1) (by omega) (by omega), i64w_id (by omega) (by omega)]
  · intro acc _
    simp only [spec_l07States.b0]
    rw [if_neg (by omega)]

theorem states_eq {N : Nat} {a : List Int} (hb : ∀ x ∈ a, -32768 ≤ x ∧ x ≤ 32767) (hN : 5 < N) : spec_l07States.f N a = some (st a) := by
  simp only [spec_l07States.f, spec_l00In.f, st]
  by_cases h1 : 1 ≤ a.length
  · rw [if_pos (by omega)]
    simp only [Option.bind_some, decide_eq_true_eq]
    by_cases h4 : a.length ≤ 4
    · rw [if_pos (by omega), states_loop hb h4 (by omega)]
      by_cases hk : okG a
      · rw [st_walk_ok a 1 hk, if_pos ⟨h1, h4, hk⟩]
        simp only [Option.bind_some, Ex.fin, spec_l07States.a0]
        show (if prodG a > 3000 then some 0 else some (prodG a)) = _
        by_cases hp : prodG a > 3000 <;> simp [hp]
      · rw [st_walk_bad a 1 hk, if_neg (fun h => hk h.2.2)]
        rfl
    · rw [if_neg (by omega), if_neg (fun h => h4 h.2.1)]
  · rw [if_neg (by omega), if_neg (fun h => h1 h.1)]
    rfl

theorem many_loop {N : Nat} {a : List Int} (hk : okG a) (h : a.length ≤ 4) (hN : a.length < N) : rounds (fun s => _impl_Glasses_many.b0 N a s.1 s.2) N (1, 0) = some (walk muS muF 1 a) := by
  refine rounds_walk0 (fun acc i => (acc, i)) a muS muF (fun i acc => 1 ≤ acc ∧ acc ≤ 41 ^ i) hN (by decide) ?_ ?_
  · intro acc i hi hI
    have hx := hk _ (List.getElem_mem hi)
    have hm := mul_bound (show i < 4 by omega) hI hx
    refine ⟨hm.1, ?_⟩
    simp only [_impl_Glasses_many.b0]
    rw [if_pos (by omega), if_pos ⟨by omega, by omega⟩, rdL_nat hi, i64w_succ hi (by omega), i64w_id (x := a[i]) (by omega) (by omega), i64w_id (x := a[i] + 1) (by omega) (by omega), i64w_id (by omega) (by omega)]
  · intro acc _
    simp only [_impl_Glasses_many.b0]
    rw [if_neg (by omega)]
theorem many_eq {N : Nat} {a : List Int} (hk : okG a) (h : a.length ≤ 4) (hN : a.length < N) : _impl_Glasses_many.f N a = some (prodG a) := by
  simp only [_impl_Glasses_many.f]
  rw [many_loop hk h hN, mul_walk]
  rfl

/-- The search for a glass that is not in range. -/
theorem search_eq {N : Nat} {a : List Int} (h : a.length ≤ 1048576) (hN : a.length < N) : slices_ContainsFunc_impl_Glasses_int16_at_impl_ValidGlasses_1.f N a = some (decide (¬ okG a)) := by
  have main : ∀ (n k : Nat), k ≤ a.length → a.length - k < n → ∃ e, rounds (fun s => slices_IndexFunc_impl_Glasses_int16_at_impl_ValidGlasses_1.b0 N a s) n (k : Int) = some e ∧
      ((okG (a.drop k) ∧ e = .go ()) ∨ (¬ okG (a.drop k) ∧ ∃ j, 0 ≤ j ∧ e = .ret j)) := by
    intro n
    induction n with
    | zero => intro k _ h; exact absurd h (Nat.not_lt_zero _)
    | succ n ih =>
      intro k hk hn
      by_cases hkn : k = a.length
      · subst hkn
        refine ⟨.go (), rounds_out (by simp only [slices_IndexFunc_impl_Glasses_int16_at_impl_ValidGlasses_1.b0]; rw [if_neg (by omega)]), .inl ⟨by simp [okG], rfl⟩⟩
      · have hi : k < a.length := by omega
        have hq : slices_IndexFunc_impl_Glasses_int16_at_impl_ValidGlasses_1.b0 N a (k : Int) = if a[k] < 1 ∨ a[k] > 40 then some (.out (.ret (k : Int))) else some (.next ((k + 1 : Nat) : Int)) := by
          simp only [slices_IndexFunc_impl_Glasses_int16_at_impl_ValidGlasses_1.b0, impl_ValidGlasses_1.f]
          rw [if_pos (by omega), if_pos ⟨by omega, by omega⟩, rdL_nat hi, i64w_succ hi (by omega)]
          by_cases h1 : a[k] < 1
          · simp [h1]
          · by_cases h2 : a[k] > 40
            · simp [h1, h2]
            · simp [h1, h2]
        rw [List.drop_eq_getElem_cons hi]
        by_cases h1 : a[k] < 1 ∨ a[k] > 40
        · refine ⟨.ret (k : Int), rounds_out (by rw [hq, if_pos h1]), .inr ⟨fun g => ?_, k, by omega, rfl⟩⟩
          have := g a[k] List.mem_cons_self
          omega
        · obtain ⟨e, he, hh⟩ := ih (k + 1) (by omega) (by omega)
          refine ⟨e, by rw [rounds_next (by rw [hq, if_neg h1])]; exact he, ?_⟩
          rcases hh with ⟨g, he⟩ | ⟨g, j, hj, he⟩
          · refine .inl ⟨?_, he⟩
            intro y hy
            rcases List.mem_cons.1 hy with rfl | hy
            · omega
            · exact g y hy
          · exact .inr ⟨fun f => g fun y hy => f y (List.mem_cons_of_mem _ hy), j, hj, he⟩
  obtain ⟨e, he, hh⟩ := main N 0 (Nat.zero_le _) (by simpa using hN)
  simp only [slices_ContainsFunc_impl_Glasses_int16_at_impl_ValidGlasses_1.f, slices_IndexFunc_impl_Glasses_int16_at_impl_ValidGlasses_1.f]
  rw [show ((0 : Nat) : Int) = 0 from rfl] at he
  rw [he]
  rw [List.drop_zero] at hh
  rcases hh with ⟨g, rfl⟩ | ⟨g, j, hj, rfl⟩
  · simp [Ex.fin, slices_IndexFunc_impl_Glasses_int16_at_impl_ValidGlasses_1.a0, g]
  · simp [Ex.fin, g, hj]

theorem st_ok {a : List Int} (h : 1 ≤ a.length ∧ a.length ≤ 4 ∧ okG a) : st a = if prodG a > 3000 then 0 else prodG a := by rw [st, if_pos h]
theorem st_bad {a : List Int} (h : ¬ (1 ≤ a.length ∧ a.length ≤ 4 ∧ okG a)) : st a = 0 := by rw [st, if_neg h]
theorem prod_pos {a : List Int} (hk : okG a) : 1 ≤ prodG a := by
  have : ∀ (a : List Int) (acc : Int), okG a → 1 ≤ acc → 1 ≤ a.foldl (fun m x => m * (x + 1)) acc := by
    intro a
    induction a with
    | nil => intro acc _ h; exact h
    | cons x a ih =>
      intro acc hk h
      have hx := hk x (by simp)
      refine ih _ (fun y hy => hk y (by simp [hy])) ?_
      have h0 : acc * 1 ≤ acc * (x + 1) := Int.mul_le_mul_of_nonneg_left (by omega) (by omega)
      show 1 ≤ acc * (x + 1)
      omega
  exact this a 1 hk (by decide)

theorem validG_eq {N : Nat} {a : List Int} (hb : ∀ x ∈ a, -32768 ≤ x ∧ x ≤ 32767) (h : a.length ≤ 1048576) (hN : a.length + 5 < N) : impl_ValidGlasses.f N a = some (decide (st a > 0)) := by
  simp only [impl_ValidGlasses.f, impl_size_int16.f, impl_within.f, Option.bind_some]
  by_cases h1 : 1 ≤ a.length
  · rw [if_pos (by omega)]
    simp only [Option.bind_some, decide_eq_true_eq]
    by_cases h4 : a.length ≤ 4
    · rw [if_pos (by omega), search_eq h (by omega)]
      by_cases hk : okG a
      · have hp := prod_pos hk
        simp only [hk, not_true, decide_false, Option.bind_some, Bool.false_eq_true, if_false]
        rw [many_eq hk h4 (by omega)]
        simp only [Option.bind_some, Option.some.injEq, decide_eq_decide]
        rw [st_ok ⟨h1, h4, hk⟩]
        split <;> omega
      · simp [hk, st_bad (fun h => hk h.2.2)]
    · rw [if_neg (by omega)]
      simp [st_bad (a := a) (fun h => h4 h.2.1)]
  · rw [if_neg (by omega)]
    simp [st_bad (a := a) (fun h => h1 h.1)]
end Go.Proofs.YtioefkcldfjobaaX
