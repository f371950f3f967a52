/- What glasses, tops and a time come to: a code, the same in the specification and in the code. -/
import Derived.Test.YtioefkcldfjobaaYA
namespace Go.Proofs.YtioefkcldfjobaaX
open Go
set_option linter.unusedVariables false
set_option linter.unusedSimpArgs false
/-- The code of glasses, tops and a time. -/
instance (a : List Int) (c : T4) : Decidable (okT a c) := by unfold okT fits; infer_instance
def askedC (a : List Int) (c : T4) (t : Int) : Int := if okT a c then (if 0 ≤ t ∧ t ≤ 120 then 0 else 2) else 1
theorem asked_spec {N : Nat} {a : List Int} {c : T4} {t : Int} (hb : ∀ x ∈ a, -32768 ≤ x ∧ x ≤ 32767) (hN : 5 < N) : spec_l07Asked.f N a c t = some (askedC a c t) := by
  simp only [spec_l07Asked.f, okT_spec hb hN, Option.bind_some, decide_eq_true_eq, askedC]
  by_cases hk : okT a c
  · rw [if_pos hk, if_pos hk]
    unfold spec_l00In.f
    by_cases h1 : t ≥ 0
    · rw [if_pos h1, Option.bind_some]
      by_cases h2 : t ≤ 120
      · rw [if_pos (decide_eq_true h2), if_pos ⟨h1, h2⟩]
      · rw [if_neg (by simpa using h2), if_neg (fun g => h2 g.2)]
    · rw [if_neg h1, Option.bind_some, if_neg Bool.false_ne_true, if_neg (fun g => h1 g.1)]
  · rw [if_neg hk, if_neg hk]
theorem asked_impl {N : Nat} {a : List Int} {c : T4} {t : Int} (hb : ∀ x ∈ a, -32768 ≤ x ∧ x ≤ 32767) (h : a.length ≤ 1048576) (hN : a.length + 5 < N) : impl_timeCode.f N a c t = some (askedC a c t) := by
  simp only [impl_timeCode.f, okT_impl hb h hN, Option.bind_some, decide_eq_true_eq, askedC]
  by_cases hk : okT a c
  · rw [if_pos hk, if_pos hk]
    unfold impl_within.f impl_unless.f
    by_cases h1 : (0 : Int) ≤ t
    · rw [if_pos h1, Option.bind_some]
      by_cases h2 : t ≤ 120
      · rw [if_pos (decide_eq_true h2), Option.bind_some, if_pos ⟨h1, h2⟩]
      · rw [if_neg (by simpa using h2), Option.bind_some, if_neg (fun g => h2 g.2)]
    · rw [if_neg h1, Option.bind_some, if_neg Bool.false_ne_true, Option.bind_some, if_neg (fun g => h1 g.1)]
  · rw [if_neg hk, if_neg hk]
/-- Where the code is 0, all is in range. -/
theorem asked_ok {a : List Int} {c : T4} {t : Int} (h : askedC a c t = 0) : okT a c ∧ 0 ≤ t ∧ t ≤ 120 := by
  unfold askedC at h
  by_cases hk : okT a c
  · rw [if_pos hk] at h
    by_cases ht : 0 ≤ t ∧ t ≤ 120
    · exact ⟨hk, ht⟩
    · rw [if_neg ht] at h; cases h
  · rw [if_neg hk] at h; cases h
theorem okT_se {a : List Int} {c : T4} {t : Int} (hk : okT a c) (h0 : 0 ≤ t) (h1 : t ≤ 120) : ∃ n T : Nat, st a = (n : Int) ∧ t = (T : Int) ∧ Se a n T := by
  obtain ⟨h2, h3, h4⟩ := okT_len hk
  have hp := prodR_pos h4
  have hs : st a = prodR a ∧ prodR a ≤ 3000 := by
    have := hk.1
    rw [st_ok ⟨h2, h3, h4⟩, prodG_R] at this ⊢
    split at this
    · omega
    · rename_i g; rw [if_neg g]; exact ⟨rfl, by omega⟩
  obtain ⟨n, hn⟩ := Int.eq_ofNat_of_zero_le (show 0 ≤ prodR a by omega)
  obtain ⟨T, hT⟩ := Int.eq_ofNat_of_zero_le h0
  exact ⟨n, T, by rw [hs.1, hn], hT, ⟨⟨h4, h3, hs.2⟩, hn.symm, by omega, by omega, by omega⟩⟩
end Go.Proofs.YtioefkcldfjobaaX
