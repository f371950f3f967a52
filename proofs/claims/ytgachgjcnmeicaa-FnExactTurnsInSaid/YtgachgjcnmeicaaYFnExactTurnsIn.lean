/- FnExactTurnsIn is true on every input: the plain side. -/
import Derived.Test.YtgachgjcnmeicaaXR
import Derived.Test.YtgachgjcnmeicaaXWalk
namespace Go.Proofs.YtgachgjcnmeicaaX
open Go

theorem toByteS_eq {N : Nat} {a : List Int} (h : a.length ≤ 1048576) (hN : a.length < N) : laws_toByteS.f N a = some a := by
  unfold laws_toByteS.f
  rw [if_pos ⟨by omega, by omega⟩, Int.toNat_natCast, rounds_copy a 0 hN ?_ ?_]
  · rfl
  · intro x i hi hx
    simp only [laws_toByteS.b0]
    rw [if_pos (by omega), if_pos ⟨by omega, by omega⟩, if_pos ⟨by omega, by omega⟩, rdL_nat hi, stL_nat, i64w_succ hi (by omega)]
  · intro x hx
    simp only [laws_toByteS.b0]
    rw [if_neg (by omega)]

theorem eqByteS_eq {N : Nat} {a c : List Int} (h : a.length ≤ 1048576) (hN : a.length < N) : laws_eqByteS.f N a c = some (decide (a = c)) := by
  unfold laws_eqByteS.f
  by_cases hl : a.length = c.length
  · rw [if_pos (by omega), rounds_same a c hl hN ?_ ?_]
    · by_cases e : a = c
      · subst e; simp [Ex.fin, laws_eqByteS.a0]
      · simp [e, Ex.fin]
    · intro i hi
      simp only [laws_eqByteS.b0]
      rw [if_pos (by omega), if_pos ⟨by omega, by omega⟩, if_pos ⟨by omega, by omega⟩, rdL_nat hi, rdL_nat (hl ▸ hi), i64w_succ hi (by omega)]
    · simp only [laws_eqByteS.b0]
      rw [if_neg (by omega)]
  · rw [if_neg (by omega)]
    have : ¬ a = c := fun e => hl (by rw [e])
    simp [this]

/-- How many bits a byte has. -/
def cnt (x : Int) : Int := (bits_OnesCount8.f 0 x).getD 0
theorem cnt_all : ∀ n : Nat, n < 256 → (rounds (fun s => spec_l07Turns.b0 0 s.1 s.2) 10 ((n : Int), 0)).bind (Ex.fin fun s => spec_l07Turns.a0 0 s) = some (cnt n) ∧ bits_OnesCount8.f 0 (n : Int) = some (cnt n) ∧ 0 ≤ cnt n ∧ cnt n ≤ 8 := by decide +kernel
theorem cnt_at {x : Int} (h0 : 0 ≤ x) (h1 : x ≤ 255) : (rounds (fun s => spec_l07Turns.b0 0 s.1 s.2) 10 (x, 0)).bind (Ex.fin fun s => spec_l07Turns.a0 0 s) = some (cnt x) ∧ bits_OnesCount8.f 0 x = some (cnt x) ∧ 0 ≤ cnt x ∧ cnt x ≤ 8 := by
  have := cnt_all x.toNat (by omega)
  rwa [Int.toNat_of_nonneg h0] at this
theorem ones_eq (N : Nat) {x : Int} (h0 : 0 ≤ x) (h1 : x ≤ 255) : bits_OnesCount8.f N x = some (cnt x) := (cnt_at h0 h1).2.1
theorem turns_eq {N : Nat} (hN : 10 ≤ N) {x : Int} (h0 : 0 ≤ x) (h1 : x ≤ 255) : spec_l07Turns.f N x = some (cnt x) := by
  have q := (cnt_at h0 h1).1
  obtain ⟨e, he, hf⟩ := bind_get q
  unfold spec_l07Turns.f
  rw [show (fun s : Int × Int => spec_l07Turns.b0 N s.1 s.2) = (fun s => spec_l07Turns.b0 0 s.1 s.2) from rfl, rounds_mono he hN]
  exact hf

abbrev plS (_ : Unit) (x : Int) : Ex (Ex Int Unit) Unit := if x ≥ 16 then .ret (.ret 2) else .go ()
abbrev plF (_ : Unit) : Ex Int Unit := .go ()
theorem planned_loop {N : Nat} {a : List Int} (h : a.length ≤ 1048576) (hN : a.length < N) : rounds (fun s => spec_l07Planned.b0 N a s) N 0 = some (walk plS plF () a) := by
  refine rounds_walk0 (fun _ i => i) a plS plF (fun _ _ => True) hN trivial ?_ ?_
  · intro acc i hi _
    have hq : spec_l07Planned.b0 N a (i : Int) = if a[i] ≥ 16 then some (.out (.ret 2)) else some (.next ((i + 1 : Nat) : Int)) := by
      simp only [spec_l07Planned.b0]
      rw [if_pos (by omega), if_pos ⟨by omega, by omega⟩, rdL_nat hi, i64w_succ hi (by omega)]
    rw [hq]
    by_cases hx : a[i] ≥ 16
    · simp only [plS, if_pos hx]
    · simp only [plS, if_neg hx]; exact ⟨trivial, trivial⟩
  · intro acc _
    simp only [spec_l07Planned.b0]
    rw [if_neg (by omega)]

abbrev smS (acc x : Int) : Ex (Ex (Int × Int) Int) Int := .go (acc + cnt x)
abbrev smF (acc : Int) : Ex (Int × Int) Int := .go acc
theorem spec_loop {N : Nat} {a : List Int} (hb : ∀ x ∈ a, 0 ≤ x ∧ x ≤ 255) (h : a.length ≤ 1048576) (hN : a.length + 10 < N) : rounds (fun s => spec_TurnsIn.b0 N a s.1 s.2) N (0, 0) = some (walk smS smF 0 a) := by
  refine rounds_walk0 (fun acc i => (acc, i)) a smS smF (fun i acc => 0 ≤ acc ∧ acc ≤ 8 * i) (by omega) (by omega) ?_ ?_
  · intro acc i hi hI
    have hx := hb _ (List.getElem_mem hi)
    have hc := (cnt_at hx.1 hx.2).2.2
    refine ⟨⟨by omega, by omega⟩, ?_⟩
    simp only [spec_TurnsIn.b0]
    rw [if_pos (by omega), if_pos ⟨by omega, by omega⟩, rdL_nat hi, turns_eq (by omega) hx.1 hx.2, i64w_succ hi (by omega)]
    simp only [Option.bind_some]
    rw [i64w_id (by omega) (by omega)]
  · intro acc _
    simp only [spec_TurnsIn.b0]
    rw [if_neg (by omega)]

abbrev imS (acc x : Int) : Ex (Ex (Int × Int) Int) Int := if x ≥ 16 then .ret (.ret (0, 2)) else .go (acc + cnt x)
theorem impl_loop {N : Nat} {a : List Int} (hb : ∀ x ∈ a, 0 ≤ x ∧ x ≤ 255) (h : a.length ≤ 1048576) (hN : a.length + 10 < N) : rounds (fun s => impl_TurnsIn.b0 N a s.1 s.2) N (0, 0) = some (walk imS smF 0 a) := by
  refine rounds_walk0 (fun acc i => (acc, i)) a imS smF (fun i acc => 0 ≤ acc ∧ acc ≤ 8 * i) (by omega) (by omega) ?_ ?_
  · intro acc i hi hI
    have hx := hb _ (List.getElem_mem hi)
    have hc := (cnt_at hx.1 hx.2).2.2
    have hq : impl_TurnsIn.b0 N a acc (i : Int) = if a[i] ≥ 16 then some (.out (.ret (0, 2))) else some (.next (acc + cnt a[i], ((i + 1 : Nat) : Int))) := by
      simp only [impl_TurnsIn.b0]
      rw [if_pos (by omega), if_pos ⟨by omega, by omega⟩, rdL_nat hi, ones_eq N hx.1 hx.2, i64w_succ hi (by omega)]
      simp only [Option.bind_some]
      rw [i64w_id (by omega) (by omega)]
    rw [hq]
    by_cases h16 : a[i] ≥ 16
    · simp only [imS, if_pos h16]
    · simp only [imS, if_neg h16]
      exact ⟨⟨by omega, by omega⟩, trivial⟩
  · intro acc _
    simp only [impl_TurnsIn.b0]
    rw [if_neg (by omega)]

theorem walks_low : ∀ (a : List Int) (acc : Int), (∀ x ∈ a, x < 16) → walk plS plF () a = .go () ∧ walk imS smF acc a = walk smS smF acc a ∧ ∃ s, walk smS smF acc a = .go s
  | [], acc, _ => ⟨rfl, rfl, acc, rfl⟩
  | x :: a, acc, h => by
    have hx : ¬ x ≥ 16 := by have := h x (by simp); omega
    obtain ⟨h1, h2, s, h3⟩ := walks_low a (acc + cnt x) (fun y hy => h y (by simp [hy]))
    refine ⟨?_, ?_, s, ?_⟩
    · simp only [walk, plS, if_neg hx]; exact h1
    · simp only [walk, imS, if_neg hx]; exact h2
    · simp only [walk]; exact h3
theorem walks_high : ∀ (a : List Int) (acc : Int), (¬ ∀ x ∈ a, x < 16) → walk plS plF () a = .ret 2 ∧ walk imS smF acc a = .ret (0, 2)
  | [], acc, h => absurd (by simp) h
  | x :: a, acc, h => by
    by_cases hx : x ≥ 16
    · exact ⟨by simp [walk, plS, hx], by simp [walk, imS, hx]⟩
    · obtain ⟨h1, h2⟩ := walks_high a (acc + cnt x) (fun g => h (by
        intro y hy
        rcases List.mem_cons.1 hy with rfl | hy
        · omega
        · exact g y hy))
      refine ⟨?_, ?_⟩
      · simp only [walk, plS, if_neg hx]; exact h1
      · simp only [walk, imS, if_neg hx]; exact h2

theorem TurnsIn_same {N : Nat} {a : List Int} (hb : ∀ x ∈ a, 0 ≤ x ∧ x ≤ 255) (h : a.length ≤ 1048576) (hN : a.length + 10 < N) : ∃ r, spec_TurnsIn.f N a = some r ∧ impl_TurnsIn.f N a = some r := by
  simp only [spec_TurnsIn.f, spec_l07Planned.f, impl_TurnsIn.f]
  rw [planned_loop h (by omega), spec_loop hb h hN, impl_loop hb h hN]
  by_cases hl : ∀ x ∈ a, x < 16
  · obtain ⟨h1, h2, s, h3⟩ := walks_low a 0 hl
    rw [h1, h2, h3]
    simp only [Option.bind_some, Ex.fin, spec_l07Planned.a0, spec_TurnsIn.a0, impl_TurnsIn.a0]
    by_cases h60 : (a.length : Int) > 60
    · simp [h60]
    · simp [h60]
  · obtain ⟨h1, h2⟩ := walks_high a 0 hl
    rw [h1, h2]
    simp [Ex.fin]

theorem laws_FnExactTurnsIn.told (a0 : List Int) (h0 : ∀ x ∈ a0, IntKind.min .u8 ≤ x ∧ x ≤ IntKind.max .u8) (l0 : a0.length ≤ 9223372036854775807) : ∃ N, laws_FnExactTurnsIn.f N a0 = some true := by
  rw [min_u8, max_u8] at h0
  by_cases h : (a0.length : Int) > 1048576
  · exact ⟨0, by simp only [laws_FnExactTurnsIn.f, if_pos h]⟩
  · refine ⟨a0.length + 20, ?_⟩
    obtain ⟨r, h1, h2⟩ := TurnsIn_same h0 (by omega) (N := a0.length + 20) (by omega)
    simp only [laws_FnExactTurnsIn.f, if_neg h]
    rw [toByteS_eq (by omega) (by omega)]
    simp only [Option.bind_some]
    rw [h1, h2]
    simp only [Option.bind_some]
    rw [eqByteS_eq (by omega) (by omega)]
    simp
end Go.Proofs.YtgachgjcnmeicaaX
