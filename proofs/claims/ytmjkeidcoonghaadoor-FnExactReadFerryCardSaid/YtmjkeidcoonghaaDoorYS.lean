/- A text split at a byte, plainly. -/
import Derived.Test.YtmjkeidcoonghaaDoorXR
import Derived.Test.YtmjkeidcoonghaaDoorXWalk
namespace Go.Proofs.YtmjkeidcoonghaaDoorX
open Go
set_option linter.unusedVariables false
set_option linter.unusedSimpArgs false
/-- The pieces of a text between the bytes c; cur has been read of the first one. -/
def spl (c : UInt8) : List UInt8 → List UInt8 → List (List UInt8)
  | cur, [] => [cur]
  | cur, x :: l => if x = c then cur :: spl c [] l else spl c (cur ++ [x]) l
theorem spl_miss {c : UInt8} : ∀ (l cur : List UInt8), c ∉ l → spl c cur l = [cur ++ l]
  | [], cur, _ => by simp [spl]
  | x :: l, cur, h => by
    simp only [List.mem_cons, not_or] at h
    unfold spl
    rw [if_neg (fun e => h.1 e.symm), spl_miss l _ h.2]
    simp
theorem spl_hit {c : UInt8} : ∀ (pre cur post : List UInt8), c ∉ pre → spl c cur (pre ++ c :: post) = (cur ++ pre) :: spl c [] post
  | [], cur, post, _ => by
    show spl c cur (c :: post) = _
    rw [spl, if_pos rfl]
    simp
  | x :: l, cur, post, h => by
    simp only [List.mem_cons, not_or] at h
    rw [List.cons_append]
    rw [show spl c cur (x :: (l ++ c :: post)) = spl c (cur ++ [x]) (l ++ c :: post) by rw [spl, if_neg (fun e => h.1 e.symm)], spl_hit l _ post h.2]
    simp
theorem index_miss {c : UInt8} : ∀ (l : List UInt8), c ∉ l → Lib.index l [c] = -1
  | [], _ => rfl
  | x :: l, h => by
    simp only [List.mem_cons, not_or] at h
    unfold Lib.index
    have : ([c] : List UInt8).isPrefixOf (x :: l) = false := by simp [List.isPrefixOf, h.1]
    rw [this, index_miss l h.2]
    rfl
theorem index_hit {c : UInt8} : ∀ (pre post : List UInt8), c ∉ pre → Lib.index (pre ++ c :: post) [c] = (pre.length : Int)
  | [], post, _ => by
    show Lib.index (c :: post) [c] = 0
    unfold Lib.index
    have : ([c] : List UInt8).isPrefixOf (c :: post) = true := by simp [List.isPrefixOf]
    rw [this]; rfl
  | x :: l, post, h => by
    simp only [List.mem_cons, not_or] at h
    rw [List.cons_append]
    unfold Lib.index
    have : ([c] : List UInt8).isPrefixOf (x :: (l ++ c :: post)) = false := by simp [List.isPrefixOf, h.1]
    rw [this, index_hit l post h.2]
    have h1 : ((l.length : Int) == -1) = false := by simp
    rw [h1]
    simp
theorem split_eq {c : UInt8} : ∀ (n : Nat) (l : List UInt8), l.length ≤ n → Lib.splitK [c] 0 (Lib.count l [c]) l = spl c [] l := by
  intro n
  induction n with
  | zero =>
    intro l h
    obtain rfl : l = [] := List.length_eq_zero_iff.1 (by omega)
    rw [Lib.count_miss (index_miss [] (by simp))]
    rfl
  | succ n ih =>
    intro l h
    by_cases hc : c ∈ l
    · obtain ⟨pre, post, rfl, hp⟩ := List.eq_append_cons_of_mem hc
      have hi := index_hit pre post hp
      have hd : (pre ++ c :: post).drop (pre.length + ([c] : List UInt8).length) = post := by
        rw [List.length_singleton, show pre ++ c :: post = (pre ++ [c]) ++ post by simp, show pre.length + 1 = (pre ++ [c]).length by simp, List.drop_left]
      rw [Lib.count_hit (by simp) hi, hd, Nat.add_comm 1, spl_hit pre [] post hp]
      unfold Lib.splitK
      have h1 : (Lib.index (pre ++ c :: post) [c] == -1) = false := by rw [hi]; simp
      rw [h1, hi, Int.toNat_natCast, hd, Nat.add_zero, List.take_left, ih post (by simp at h; omega)]
      rfl
    · rw [Lib.count_miss (index_miss l hc), spl_miss l [] hc]
      rfl
/-- The library's split at one byte. -/
theorem strings_split {c : UInt8} (s : ByteArray) : (Lib.splitB ⟨#[c]⟩ 0 (Lib.countB s ⟨#[c]⟩) s).map (·.data.toList) = spl c [] s.data.toList := by
  rw [Lib.splitB_data]
  exact split_eq _ _ (Nat.le_refl _)
end Go.Proofs.YtmjkeidcoonghaaDoorX
