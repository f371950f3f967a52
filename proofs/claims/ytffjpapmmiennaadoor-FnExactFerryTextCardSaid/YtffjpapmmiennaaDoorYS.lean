/- The texts of sets of up to eight things. -/
import Derived.Test.YtffjpapmmiennaaDoorYF
import Derived.Test.YtffjpapmmiennaaDoorYD
namespace Go.Proofs.YtffjpapmmiennaaDoorX
open Go
set_option linter.unusedVariables false
set_option linter.unusedSimpArgs false
/-- The text of a set. -/
def txt (x : Int) : List UInt8 := ((impl_setText.f 70 x).map (·.data.toList)).getD []
theorem txt_all : ∀ n : Nat, n < 256 → impl_setText.f 70 (u64w (n : Int)) = some ⟨(txt n).toArray⟩ ∧ spec_l05Text.f 10 (n : Int) = some ⟨(txt n).toArray⟩ ∧ (txt n).length ≤ 8 := by decide +kernel
theorem txt_at {N : Nat} (hN : 70 < N) {x : Int} (h0 : 0 ≤ x) (h1 : x < 256) : impl_ThingsText.f N x = some ⟨(txt x).toArray⟩ ∧ spec_l05Text.f N x = some ⟨(txt x).toArray⟩ ∧ (txt x).length ≤ 8 := by
  have := txt_all x.toNat (by omega)
  rw [Int.toNat_of_nonneg h0] at this
  obtain ⟨q1, q2, q3⟩ := this
  refine ⟨?_, ?_, q3⟩
  · unfold impl_ThingsText.f
    rw [if_neg (by omega)]
    have q : impl_setText.f N (u64w x) = some ⟨(txt x).toArray⟩ := by
      unfold impl_setText.f at q1 ⊢
      by_cases hz : u64w x = 0
      · rw [if_pos hz] at q1 ⊢; exact q1
      · rw [if_neg hz] at q1 ⊢
        obtain ⟨e, he, hf⟩ := bind_get q1
        rw [show (fun s : ByteArray × Int => impl_setText.b0 N (u64w x) s.1 s.2) = (fun s => impl_setText.b0 70 (u64w x) s.1 s.2) from rfl, rounds_mono he (by omega)]
        exact hf
    rw [q]; rfl
  · unfold spec_l05Text.f at q2 ⊢
    by_cases hz : x = 0
    · rw [if_pos hz] at q2 ⊢; exact q2
    · rw [if_neg hz] at q2 ⊢
      obtain ⟨e, he, hf⟩ := bind_get q2
      rw [show (fun s : ByteArray × Int => spec_l05Text.b0 N x s.1 s.2) = (fun s => spec_l05Text.b0 10 x s.1 s.2) from rfl, rounds_mono he (by omega)]
      exact hf
end Go.Proofs.YtffjpapmmiennaaDoorX
