/- FromBalanced's contract. -/
import Derived.Test.YtjagkhjbbdfkaaaFB
import Derived.Test.YtjagkhjbbdfkaaaXRowR
namespace Go.Proofs.YtjagkhjbbdfkaaaX
open Go Go.RowKit Go.Proofs
theorem fb_ints {a1 : List Int} {v : Value} {w : World} (hr : RdRow (K.int .i8) w v a1) : FB.Ints w.heap.size w v a1 := by
  obtain ⟨A, cap, rfl, hcp, he⟩ := hr
  cases hz : a1 with
  | nil => exact .inl ⟨A, cap, rfl, rfl⟩
  | cons x xs =>
    rw [← hz]
    have h0 : 0 < a1.length := by rw [hz]; simp
    obtain ⟨ad, cs, rfl, hlt, hc, hk⟩ := he 0 h0
    have hk' : cs = [Value.int .i8 a1[0]] := hk
    have hs : ad.spot = none := by
      have h1 := hc 0 _ (by rw [hk']; rfl)
      have e : ad.add (0 * (K.int .i8).n + 0) = ad := by simp [Addr.add]
      rw [e] at h1
      simp only [World.cell?] at h1
      split at h1
      · split at h1
        · cases h1
        · rename_i g; simpa using g
      · cases h1
    obtain ⟨b, off, sp⟩ := ad
    simp only at hs
    subst hs
    refine .inr ⟨b, off, cap, rfl, hlt, fun j hj => ?_⟩
    obtain ⟨ad2, cs2, e2, _, hc2, hk2⟩ := he j hj
    cases e2
    have hk2' : cs2 = [Value.int .i8 a1[j]] := hk2
    have h1 := hc2 0 _ (by rw [hk2']; rfl)
    have hn1 : (K.int .i8).n = 1 := rfl
    have e : (⟨b, off, none⟩ : Addr).add (j * (K.int .i8).n + 0) = ⟨b, off + j, none⟩ := by rw [hn1]; unfold Addr.add; split <;> simp_all
    rw [e] at h1
    rw [h1]
    simp [hj]
theorem fb_calls {a1 : List Int} {v : Value} {w0 : World} {c : Bool} (hr : RdRow (K.int .i8) w0 v a1) (hcf : Calls Try.prog 24 #[v, .func (.func 25) #[] #[]] w0 fun e w => e = .returned (.bool c) ∧ Below w0.heap.size w0 w) :
    Calls Try.prog 14 #[v] w0 fun e w => ∃ u, e = .returned u ∧ (u = .tuple #[.int .i64 (FB.res c a1).1, .int .i64 (FB.res c a1).2] ∧ St w0 [] w) := by
  have hI := fb_ints hr
  obtain ⟨A, cap, rfl, hcp, he⟩ := hr
  exact callsIn_wide.1 ((FB.From_in Fence.wide 3 trivial trivial trivial trivial rfl (by omega) A cap a1 w0 hI c (callsIn_wide.2 hcf)).mono fun e w ⟨h1, h2⟩ => ⟨_, h1, rfl, h2, [], rfl, List.nodup_nil, by simp⟩)
end Go.Proofs.YtjagkhjbbdfkaaaX
