/- The times that can be measured, or cannot. -/
import Derived.Test.YtioefkcldfjobaaYL
import Derived.Test.YtioefkcldfjobaaYH
namespace Go.Proofs.YtioefkcldfjobaaX
open Go
set_option linter.unusedVariables false
set_option linter.unusedSimpArgs false
/-- Is there an entry. -/
def pr (n : Nat) (F : Tb) (t : Nat) : Bool := (Om tt (F t) n).isSome
/-- The times below k that have one, or have none. -/
def tms (n : Nat) (F : Tb) (can : Bool) : Nat → List Int
  | 0 => []
  | k + 1 => tms n F can k ++ (if pr n F k = can then [(k : Int)] else [])
theorem tms_len {n : Nat} {F : Tb} {can : Bool} : ∀ k, (tms n F can k).length ≤ k
  | 0 => Nat.le_refl _
  | k + 1 => by
    have := tms_len (n := n) (F := F) (can := can) k
    simp only [tms, List.length_append]
    split <;> simp <;> omega
theorem om_some {x y : Option Nat} : (om x y).isSome = (x.isSome || y.isSome) := by cases x <;> cases y <;> rfl
theorem Om_some {f : Nat → Option Nat} : ∀ {m : Nat}, (Om tt f m).isSome = true ↔ ∃ k, k < m ∧ (f k).isSome = true
  | 0 => ⟨fun h => (by cases h), fun ⟨k, h, _⟩ => absurd h (Nat.not_lt_zero _)⟩
  | m + 1 => by
    rw [Om_step, om_some, Bool.or_eq_true, Om_some (m := m)]
    constructor
    · rintro (⟨k, h, e⟩ | e)
      · exact ⟨k, by omega, e⟩
      · exact ⟨m, by omega, e⟩
    · rintro ⟨k, h, e⟩
      by_cases c : k = m
      · subst c; exact .inr e
      · exact .inl ⟨k, by omega, e⟩
section
variable {a : List Int} {n T N : Nat}
theorem spec_tms (h : Se a n T) (hN : 4000 < N) {L : List (List Int)} {F : Tb} (r : RepT n T L F) (can : Bool) :
    ∀ (m t : Nat), t ≤ T + 1 → T + 1 - t < m → rounds (fun q => spec_l07Times.b0 N (T : Int) L can q.1 q.2) m (tms n F can t, (t : Int)) = some (.go (tms n F can (T + 1))) := by
  have hT := h.t
  have hl := r.len
  intro m
  induction m with
  | zero => intro t _ hm; exact absurd hm (Nat.not_lt_zero _)
  | succ m ih =>
    intro t ht hm
    by_cases c : t ≤ T
    · have e1 : i64w ((t : Int) + 1) = ((t + 1 : Nat) : Int) := i64w_id (by omega) (by omega)
      rw [rounds_next (s' := (tms n F can (t + 1), ((t + 1 : Nat) : Int)))]
      · exact ih (t + 1) (by omega) (by omega)
      · show spec_l07Times.b0 N (T : Int) L can (tms n F can t) (t : Int) = _
        unfold spec_l07Times.b0 spec_l07Times.j2
        rw [if_pos (by omega), if_pos ⟨by omega, by omega⟩, least_row (N := N) h hN r c, Option.bind_some, e1]
        have hp : decide (vi (Om tt (F t) n) ≥ 0) = pr n F t := by
          unfold pr
          cases Om tt (F t) n with
          | none => rfl
          | some v => simp [vi]
        rw [hp]
        have hlen := tms_len (n := n) (F := F) (can := can) t
        by_cases e : pr n F t = can
        · rw [if_pos e, if_pos (by simp; omega)]
          simp only [tms, if_pos e]
        · rw [if_neg e]
          simp only [tms, if_neg e, List.append_nil]
    · have : t = T + 1 := by omega
      subst this
      refine rounds_out ?_
      show spec_l07Times.b0 N (T : Int) L can _ ((T + 1 : Nat) : Int) = _
      unfold spec_l07Times.b0
      rw [if_neg (by omega)]
theorem Rw.pr {kv : KT} {F : Tb} {t : Nat} (r : Rw a n kv (F t)) : decide ((kv.length : Int) > 0) = pr n F t := by
  unfold Go.Proofs.YtioefkcldfjobaaX.pr
  rw [Bool.eq_iff_iff, decide_eq_true_eq, Om_some]
  constructor
  · intro g
    obtain ⟨p, l, rfl⟩ : ∃ p l, kv = p :: l := by
      cases kv with
      | nil => simp at g
      | cons p l => exact ⟨p, l, rfl⟩
    obtain ⟨k, v, hk, _, hv⟩ := r.el p List.mem_cons_self
    exact ⟨k, hk, by rw [hv]; rfl⟩
  · rintro ⟨k, hk, e⟩
    obtain ⟨v, hv⟩ := Option.isSome_iff_exists.1 e
    have := List.length_pos_of_mem (r.so k v hk hv)
    omega
theorem bt_step (h : Se a n T) {xs : List (Option KT)} {F : Tb} (r : RepM a n T xs F) (can : Bool) {t : Nat} (ht : t ≤ T) {Q : Bd (List Int) (List Int) (List Int × Int) → Prop} (hQ : Q (.next (tms n F can (t + 1), ((t + 1 : Nat) : Int)))) :
    _impl_Glasses_times.b0 N xs can (tms n F can t) (t : Int) Q := by
  have hT := h.t
  have hl := r.len
  have e1 : i64w ((t : Int) + 1) = ((t + 1 : Nat) : Int) := i64w_id (by omega) (by omega)
  obtain ⟨kv, k1, k2⟩ := r.row t ht
  have hlen := tms_len (n := n) (F := F) (can := can) t
  unfold _impl_Glasses_times.b0 _impl_Glasses_times.j2
  rw [if_pos (by omega), if_pos ⟨by omega, by omega⟩, show (rdL xs (t : Int) none).getD [] = kv by rw [k1]; rfl, k2.pr, e1]
  by_cases e : pr n F t = can
  · rw [if_pos e, if_pos (by simp; omega)]
    simp only [tms, if_pos e] at hQ
    exact hQ
  · rw [if_neg e]
    simp only [tms, if_neg e, List.append_nil] at hQ
    exact hQ
theorem walk_tms (h : Se a n T) {xs : List (Option KT)} {F : Tb} (r : RepM a n T xs F) (can : Bool) {Kf : Ex (List Int) (List Int) → Prop} (hK : Kf (.go (tms n F can (T + 1)))) :
    ∀ (m t : Nat), t ≤ T + 1 → T + 1 - t < m → roundsD (fun s : List Int × Int => _impl_Glasses_times.b0 N xs can s.1 s.2) m (tms n F can t, (t : Int)) Kf := by
  have hl := r.len
  intro m
  induction m with
  | zero => intro t _ hm; exact absurd hm (Nat.not_lt_zero _)
  | succ m ih =>
    intro t ht hm
    show _impl_Glasses_times.b0 N xs can (tms n F can t) (t : Int) _
    by_cases c : t ≤ T
    · exact bt_step h r can c (ih (t + 1) (by omega) (by omega))
    · have e : ∀ Q, Q (.out (.go (tms n F can t))) → _impl_Glasses_times.b0 N xs can (tms n F can t) (t : Int) Q := by
        intro Q hQ
        unfold _impl_Glasses_times.b0
        rw [if_neg (by omega)]
        exact hQ
      have : t = T + 1 := by omega
      subst this
      exact e _ hK
/-- The times, in the program. -/
theorem times_all (h : Se a n T) (hN : 4000 < N) {c : T4} (hf : fits a c) (can : Bool) {Q : List Int → Prop} (hQ : Q (tms n (Gt N a n T c T) can (T + 1))) : _impl_Glasses_times.f N a c (T : Int) can Q := by
  have hT := h.t
  unfold _impl_Glasses_times.f
  refine turns_all h hN hf fun xs r => ?_
  exact walk_tms (N := N) h r can (Kf := Ex.finD (fun s => _impl_Glasses_times.a0 N s Q) Q) hQ N 0 (Nat.zero_le _) (by omega)
/-- At time 0 there is one. -/
theorem pr_zero (h : Se a n T) {c : T4} (hf : fits a c) : ∀ t1, pr n (Gt N a n T c t1) 0 = true := by
  obtain ⟨x0, x1⟩ := hor_range h.gl.ok (fits_in h.gl.len hf)
  have hk : (hor a c.l).toNat < n := by have := h.n_eq; omega
  have main : ∀ t1, Gt N a n T c t1 0 (hor a c.l).toNat = some 0 := by
    intro t1
    induction t1 with
    | zero => simp [Gt]
    | succ t1 ih =>
      show Fd N a n T (Gt N a n T c t1) t1 tt 0 _ = _
      rw [Fd_now (Nat.zero_le _)]
      exact ih
  intro t1
  exact Om_some.2 ⟨_, hk, by rw [main]; rfl⟩
end
end Go.Proofs.YtioefkcldfjobaaX
