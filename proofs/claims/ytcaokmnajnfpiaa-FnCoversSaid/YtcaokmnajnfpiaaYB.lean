/- Ferries, plainly: what is true of the list that a search finds, by partial correctness: each bank comes from an earlier one by a load that can be taken; numbers of crossings rise. -/
import Derived.Test.YtcaokmnajnfpiaaYA
namespace Go.Proofs.YtcaokmnajnfpiaaX
open Go
set_option linter.unusedVariables false
set_option linter.unusedSimpArgs false
/-- What holds of all states of a loop that ends holds where it ends. -/
theorem rounds_keep {ρ σ τ : Type} {b : τ → Option (Bd ρ σ τ)} (I : τ → Prop) (Q : Ex ρ σ → Prop)
    (h1 : ∀ s s', I s → b s = some (.next s') → I s') (h2 : ∀ s e, I s → b s = some (.out e) → Q e) : ∀ (N : Nat) (s : τ) (e : Ex ρ σ), I s → rounds b N s = some e → Q e
  | 0, s, e, _, h => (rounds_zero h).elim
  | N + 1, s, e, hI, h => by
    obtain ⟨x, hx, hm⟩ := rounds_succ h
    cases x with
    | next s' => exact rounds_keep I Q h1 h2 N s' e (h1 s s' hI hx) hm
    | out e' => dsimp only at hm; subst hm; exact h2 s e' hI hx
abbrev at_ (out : List Cr) (p : Nat) : Cr := rdL out (p : Int) zc
/-- The list of a search, when the first i banks have been left. -/
structure Sr (F : Fe) (out : List Cr) (met : List (Bk × Bool)) (i : Nat) : Prop where
  hd : 0 < out.length ∧ at_ out 0 = c0F F
  met : ∀ b, mGet met b false = true ↔ ∃ q, q < out.length ∧ (at_ out q).f_bank = b
  near : ∀ p, p < out.length → nearOk F (at_ out p).f_bank
  src : ∀ p, 0 < p → p < out.length → ∃ q : Nat, q < p ∧ (at_ out p).f_before = (q : Int) ∧ (at_ out p).f_load ∈ loadsF F (at_ out q).f_bank ∧
    (at_ out p).f_bank = crossedB (at_ out q).f_bank (at_ out p).f_load ∧ (at_ out p).f_many = (at_ out q).f_many + 1
  le : ∀ p, p < out.length → 0 ≤ (at_ out p).f_many ∧ (at_ out p).f_many ≤ p
  mono : ∀ p q, p ≤ q → q < out.length → (at_ out p).f_many ≤ (at_ out q).f_many
  top : i < out.length → ∀ p, p < out.length → (at_ out p).f_many ≤ (at_ out i).f_many + 1
  len : out.length ≤ 4398046511104
def Ld (F : Fe) (out : List Cr) (p : Nat) (l : Int) : Prop := ∃ q, q < out.length ∧ (at_ out q).f_bank = crossedB (at_ out p).f_bank l ∧ (at_ out q).f_many ≤ (at_ out p).f_many + 1
def Cl (F : Fe) (out : List Cr) (i : Nat) : Prop := ∀ p, p < i → ∀ l ∈ loadsF F (at_ out p).f_bank, Ld F out p l
theorem at_app (out : List Cr) (c : Cr) {p : Nat} (hp : p < out.length) : at_ (out ++ [c]) p = at_ out p := rdL_app out c zc hp
theorem at_new (out : List Cr) (c : Cr) : at_ (out ++ [c]) out.length = c := rdL_new out c zc
theorem Ld.app {F : Fe} {out : List Cr} {p : Nat} {l : Int} (c : Cr) (hp : p < out.length) (h : Ld F out p l) : Ld F (out ++ [c]) p l := by
  obtain ⟨q, h1, h2, h3⟩ := h
  exact ⟨q, by rw [List.length_append]; omega, by rw [at_app _ _ h1, at_app _ _ hp]; exact h2, by rw [at_app _ _ h1, at_app _ _ hp]; exact h3⟩
theorem load_near {F : Fe} (h : OkF F) {b : Bk} {l : Int} (hl : l ∈ loadsF F b) : nearOk F (crossedB b l) := by
  obtain ⟨m, hm, rfl⟩ := List.mem_iff_getElem.1 hl
  obtain ⟨_, _, _, h3, h4⟩ := step_code h hm
  exact ⟨h3, h4⟩
theorem Sr.add {F : Fe} (h : OkF F) {out : List Cr} {met : List (Bk × Bool)} {i : Nat} (hS : Sr F out met i) (hi : i < out.length) {l : Int} (hl : l ∈ loadsF F (at_ out i).f_bank)
    (hlen : out.length + 1 ≤ 4398046511104) : Sr F (out ++ [⟨crossedB (at_ out i).f_bank l, (i : Int), l, (at_ out i).f_many + 1⟩]) (mSet met (crossedB (at_ out i).f_bank l) true) i := by
  have hc : ∀ p, p < (out ++ [(⟨crossedB (at_ out i).f_bank l, (i : Int), l, (at_ out i).f_many + 1⟩ : Cr)]).length → p < out.length ∨ p = out.length := by
    intro p hp; rw [List.length_append, List.length_singleton] at hp; omega
  have hle := hS.le i hi
  refine ⟨⟨by rw [List.length_append]; omega, by rw [at_app _ _ hS.hd.1]; exact hS.hd.2⟩, ?_, ?_, ?_, ?_, ?_, ?_, by rw [List.length_append]; exact hlen⟩
  · intro b
    rw [mGet_set]
    constructor
    · intro hb
      by_cases e : b = crossedB (at_ out i).f_bank l
      · exact ⟨out.length, by rw [List.length_append]; simp, by rw [at_new, e]⟩
      · rw [if_neg e] at hb
        obtain ⟨q, h1, h2⟩ := (hS.met b).1 hb
        exact ⟨q, by rw [List.length_append]; omega, by rw [at_app _ _ h1]; exact h2⟩
    · rintro ⟨q, h1, h2⟩
      rcases hc q h1 with h1 | rfl
      · rw [at_app _ _ h1] at h2
        split
        · rfl
        · exact (hS.met b).2 ⟨q, h1, h2⟩
      · rw [at_new] at h2
        rw [if_pos h2.symm]
  · intro p hp
    rcases hc p hp with h1 | rfl
    · rw [at_app _ _ h1]; exact hS.near p h1
    · rw [at_new]; exact load_near h hl
  · intro p h0 hp
    rcases hc p hp with h1 | rfl
    · obtain ⟨q, q1, q2, q3, q4, q5⟩ := hS.src p h0 h1
      exact ⟨q, q1, by rw [at_app _ _ h1]; exact q2, by rw [at_app _ _ h1, at_app _ _ (by omega)]; exact q3, by rw [at_app _ _ h1, at_app _ _ (by omega)]; exact q4, by rw [at_app _ _ h1, at_app _ _ (by omega)]; exact q5⟩
    · exact ⟨i, hi, by rw [at_new], by rw [at_new, at_app _ _ hi]; exact hl, by rw [at_new, at_app _ _ hi], by rw [at_new, at_app _ _ hi]⟩
  · intro p hp
    rcases hc p hp with h1 | rfl
    · rw [at_app _ _ h1]; exact hS.le p h1
    · rw [at_new]; dsimp only; omega
  · intro p q hpq hq
    rcases hc q hq with h1 | rfl
    · rw [at_app _ _ h1, at_app _ _ (by omega)]; exact hS.mono p q hpq h1
    · rw [at_new]
      rcases hc p (by omega) with h2 | rfl
      · rw [at_app _ _ h2]; exact hS.top hi p h2
      · rw [at_new]; exact Int.le_refl _
  · intro _ p hp
    rw [at_app _ _ hi]
    rcases hc p hp with h1 | rfl
    · rw [at_app _ _ h1]; exact hS.top hi p h1
    · rw [at_new]; exact Int.le_refl _
theorem sr_inner {N : Nat} {F : Fe} (h : OkF F) {out0 : List Cr} {met0 : List (Bk × Bool)} {i : Nat} (hS : Sr F out0 met0 i) (hC : Cl F out0 i) (hi : i < out0.length) {e : Ex _ _}
    (he : rounds (fun s => _impl_Ferry_search.b2 N (loadsF F (at_ out0 i).f_bank) (i : Int) s.1 s.2.1 s.2.2) N (out0, met0, 0) = some e) :
    ∃ out met, e = .go (out, met) ∧ Sr F out met i ∧ Cl F out (i + 1) ∧ out0.length ≤ out.length := by
  obtain ⟨L, hL⟩ : ∃ L, L = loadsF F (at_ out0 i).f_bank := ⟨_, rfl⟩
  have hll := loadsF_len h.t8 (at_ out0 i).f_bank
  rw [← hL] at he hll
  refine rounds_keep (b := fun s => _impl_Ferry_search.b2 N L (i : Int) s.1 s.2.1 s.2.2) (fun s => 0 ≤ s.2.2 ∧ s.2.2 ≤ (L.length : Int) ∧ Sr F s.1 s.2.1 i ∧ Cl F s.1 i ∧ out0.length ≤ s.1.length ∧ at_ s.1 i = at_ out0 i ∧ ∀ m : Nat, (hm : m < L.length) → (m : Int) < s.2.2 → Ld F s.1 i L[m])
    (fun e => ∃ out met, e = .go (out, met) ∧ Sr F out met i ∧ Cl F out (i + 1) ∧ out0.length ≤ out.length) ?_ ?_ N (out0, met0, 0) e ?_ he
  rotate_left 2
  · exact ⟨Int.le_refl _, Int.natCast_nonneg _, hS, hC, Nat.le_refl _, rfl, fun m hm hj => by dsimp only at hj; omega⟩
  · rintro ⟨out, met, j⟩ s' ⟨r1, r2, r3, r4, r5, r6, r7⟩ hb
    simp only at r1 r2 r3 r4 r5 r6 r7
    have hio : i < out.length := by omega
    simp only [_impl_Ferry_search.b2] at hb
    by_cases hj : j < (L.length : Int)
    · rw [if_pos hj] at hb
      obtain ⟨g1, hb⟩ := ite_get hb
      obtain ⟨g2, hb⟩ := ite_get hb
      obtain ⟨j, rfl⟩ := Int.eq_ofNat_of_zero_le r1
      have hj' : j < L.length := by omega
      rw [rdL_nat hj', show rdL out (i : Int) z_S_impl_crossing = at_ out0 i from r6] at hb
      have hcr : ∀ b l, impl_crossed.f N b l = some (crossedB b l) := fun _ _ => rfl
      rw [hcr, Option.bind_some] at hb
      have hlm : L[j] ∈ loadsF F (at_ out i).f_bank := by rw [r6, ← hL]; exact List.getElem_mem hj'
      have hnx : i64w ((j : Int) + 1) = ((j + 1 : Nat) : Int) := i64w_succ hj' (by omega)
      by_cases hm : mGet met (crossedB (at_ out0 i).f_bank L[j]) false = true
      · rw [if_pos hm] at hb
        simp only [_impl_Ferry_search.j4, hnx] at hb
        injection hb with hb; injection hb with hb; subst hb
        refine ⟨by dsimp only; omega, by dsimp only; omega, r3, r4, r5, r6, ?_⟩
        intro m hm' hmj
        dsimp only at hmj ⊢
        by_cases e : m = j
        · subst e
          obtain ⟨q, q1, q2⟩ := (r3.met _).1 hm
          exact ⟨q, q1, by rw [r6]; exact q2, r3.top hio q q1⟩
        · exact r7 m hm' (by omega)
      · rw [if_neg hm, if_pos g2] at hb
        obtain ⟨g3, hb⟩ := ite_get hb
        rw [List.length_singleton] at g3
        have hle := r3.le i hio
        have hln := r3.len
        have hw : i64w ((at_ out0 i).f_many + 1) = (at_ out0 i).f_many + 1 := by rw [← r6]; exact i64w_id (by omega) (by omega)
        simp only [_impl_Ferry_search.j4, hnx, hw] at hb
        injection hb with hb; injection hb with hb; subst hb
        have ha := r3.add h hio hlm (by omega)
        rw [r6] at ha
        refine ⟨by dsimp only; omega, by dsimp only; omega, ha, ?_, by dsimp only; rw [List.length_append]; omega, by dsimp only; rw [at_app _ _ hio]; exact r6, ?_⟩
        · intro p hp l hl
          rw [at_app _ _ (by omega)] at hl
          exact (r4 p hp l hl).app _ (by omega)
        · intro m hm' hmj
          dsimp only at hmj ⊢
          by_cases e : m = j
          · subst e
            exact ⟨out.length, by rw [List.length_append]; simp, by rw [at_new, at_app _ _ hio, r6], by rw [at_new, at_app _ _ hio, r6]; exact Int.le_refl _⟩
          · exact (r7 m hm' (by omega)).app _ hio
    · rw [if_neg hj] at hb
      cases hb
  · rintro ⟨out, met, j⟩ e ⟨r1, r2, r3, r4, r5, r6, r7⟩ hb
    simp only at r1 r2 r3 r4 r5 r6 r7
    simp only [_impl_Ferry_search.b2] at hb
    by_cases hj : j < (L.length : Int)
    · rw [if_pos hj] at hb
      obtain ⟨g1, hb⟩ := ite_get hb
      obtain ⟨g2, hb⟩ := ite_get hb
      have hcr : ∀ b l, impl_crossed.f N b l = some (crossedB b l) := fun _ _ => rfl
      rw [hcr, Option.bind_some] at hb
      split at hb
      · simp only [_impl_Ferry_search.j4] at hb
        cases hb
      · obtain ⟨g3, hb⟩ := ite_get hb
        simp only [_impl_Ferry_search.j4] at hb
        cases hb
    · rw [if_neg hj] at hb
      injection hb with hb; injection hb with hb; subst hb
      refine ⟨out, met, rfl, r3, ?_, r5⟩
      intro p hp l hl
      by_cases e : p = i
      · subst e
        rw [r6, ← hL] at hl
        obtain ⟨m, hm, rfl⟩ := List.mem_iff_getElem.1 hl
        exact r7 m hm (by omega)
      · exact r4 p (by omega) l hl
/-- The banks that a search finds: all of this. -/
theorem search_sound {N : Nat} {F : Fe} (h : OkF F) (hN : 2000 < N) {out : List Cr} (he : _impl_Ferry_search.f N F = some out) : ∃ met, Sr F out met out.length ∧ Cl F out out.length := by
  have hall := all_range h.t8
  simp only [_impl_Ferry_search.f, impl_all N h.t8, Option.bind_some] at he
  obtain ⟨e, he, hf⟩ := bind_get he
  have key : ∃ out met, e = .go out ∧ Sr F out met out.length ∧ Cl F out out.length := by
    refine rounds_keep (fun s => ∃ i : Nat, s.2.2 = (i : Int) ∧ i ≤ s.1.length ∧ Sr F s.1 s.2.1 i ∧ Cl F s.1 i) (fun e => ∃ out met, e = .go out ∧ Sr F out met out.length ∧ Cl F out out.length) ?_ ?_ N _ _ ⟨0, rfl, by simp, ?_, fun p hp => by omega⟩ he
    · rintro ⟨out, met, j⟩ s' ⟨i, r1, r2, r3, r4⟩ hb
      simp only at r1 r2 r3 r4
      subst r1
      simp only [_impl_Ferry_search.b0] at hb
      by_cases hi : (i : Int) < (out.length : Int)
      · rw [if_pos hi] at hb
        obtain ⟨g1, hb⟩ := ite_get hb
        have hio : i < out.length := by omega
        have hn := r3.near i hio
        have hl : _impl_Ferry_loads.f N (⟨F.f_Things, F.f_Boat, F.f_Rules⟩ : S_impl_Ferry) ((rdL out (i : Int) z_S_impl_crossing).f_bank) = some (loadsF F (at_ out i).f_bank) := loads_impl h (by omega) ⟨hn.1, Int.le_trans hn.2 hall.2⟩
        rw [hl, Option.bind_some] at hb
        obtain ⟨e2, he2, hf2⟩ := bind_get hb
        obtain ⟨out', met', rfl, q1, q2, q3⟩ := sr_inner h r3 r4 hio he2
        simp only [Ex.finB, _impl_Ferry_search.a2] at hf2
        injection hf2 with hf2; injection hf2 with hf2; subst hf2
        have hln := q1.len
        refine ⟨i + 1, by dsimp only; rw [i64w_id (by omega) (by omega)]; rfl, by dsimp only; omega, ?_, q2⟩
        exact ⟨q1.hd, q1.met, q1.near, q1.src, q1.le, q1.mono, fun hh p hp => Int.le_trans (q1.top (by omega) p hp) (Int.add_le_add_right (q1.mono i (i + 1) (Nat.le_succ i) hh) 1), q1.len⟩
      · rw [if_neg hi] at hb; cases hb
    · rintro ⟨out, met, j⟩ e ⟨i, r1, r2, r3, r4⟩ hb
      simp only at r1 r2 r3 r4
      subst r1
      simp only [_impl_Ferry_search.b0] at hb
      by_cases hi : (i : Int) < (out.length : Int)
      · exfalso
        rw [if_pos hi] at hb
        obtain ⟨g1, hb⟩ := ite_get hb
        have hio : i < out.length := by omega
        have hn := r3.near i hio
        have hl : _impl_Ferry_loads.f N (⟨F.f_Things, F.f_Boat, F.f_Rules⟩ : S_impl_Ferry) ((rdL out (i : Int) z_S_impl_crossing).f_bank) = some (loadsF F (at_ out i).f_bank) := loads_impl h (by omega) ⟨hn.1, Int.le_trans hn.2 hall.2⟩
        rw [hl, Option.bind_some] at hb
        obtain ⟨e2, he2, hf2⟩ := bind_get hb
        obtain ⟨out', met', rfl, q1, q2, q3⟩ := sr_inner h r3 r4 hio he2
        simp only [Ex.finB, _impl_Ferry_search.a2] at hf2
        cases hf2
      · rw [if_neg hi] at hb
        injection hb with hb; injection hb with hb; subst hb
        have : i = out.length := by omega
        subst this
        exact ⟨out, met, rfl, r3, r4⟩
    · have e0 : ∀ p, p < [c0F F].length → p = 0 := by intro p hp; simp at hp; exact hp
      refine ⟨⟨by simp, rfl⟩, ?_, ?_, ?_, ?_, ?_, ?_, by simp⟩
      · intro b
        rw [mGet_set]
        constructor
        · intro hb
          by_cases e : b = ⟨allF F, false⟩
          · exact ⟨0, by simp, by subst e; rfl⟩
          · rw [if_neg e] at hb; cases hb
        · rintro ⟨q, h1, h2⟩
          obtain rfl := e0 q h1
          have h2 : (⟨allF F, false⟩ : Bk) = b := h2
          rw [if_pos h2.symm]
      · intro p hp
        obtain rfl := e0 p hp
        exact ⟨by show 0 ≤ allF F; omega, Int.le_refl _⟩
      · intro p h0 hp
        have := e0 p hp; omega
      · intro p hp
        obtain rfl := e0 p hp
        exact ⟨Int.le_refl _, Int.le_refl _⟩
      · intro p q hpq hq
        obtain rfl := e0 q hq
        obtain rfl : p = 0 := by omega
        exact Int.le_refl _
      · intro _ p hp
        obtain rfl := e0 p hp
        show (0 : Int) ≤ 0 + 1
        omega
  obtain ⟨out', met, rfl, k1, k2⟩ := key
  simp only [Ex.fin, _impl_Ferry_search.a0] at hf
  injection hf with hf; subst hf
  exact ⟨met, k1, k2⟩
end Go.Proofs.YtcaokmnajnfpiaaX

/- Ferries, plainly: sets by their bits; which banks can be reached; the least cover and the least boat. -/
namespace Go.Proofs.YtcaokmnajnfpiaaX
open Go
set_option linter.unusedVariables false
set_option linter.unusedSimpArgs false
def bit (x : Int) (i : Nat) : Bool := (B16 x).getLsbD i
theorem B16_of (b : BitVec 16) : B16 (b.toNat : Int) = b := by
  apply BitVec.eq_of_toNat_eq
  have := b.isLt
  simp [B16]
theorem bit_andNot (x y : Int) {i : Nat} (hi : i < 16) : bit (bAndNot .u16 x y) i = (bit x i && !bit y i) := by
  rw [bAndNot_eq]; unfold bit; rw [B16_of]; simp [hi]
theorem bit_xor (x y : Int) (i : Nat) : bit (bXor .u16 x y) i = (bit x i != bit y i) := by
  rw [bXor_eq]; unfold bit; rw [B16_of]; simp
theorem bit_and (x y : Int) (i : Nat) : bit (bAnd .u16 x y) i = (bit x i && bit y i) := by
  rw [bAnd_eq]; unfold bit; rw [B16_of]; simp
theorem bit_zero (i : Nat) : bit 0 i = false := by simp [bit, B16]
theorem bit_ext {x y : Int} (hx : 0 ≤ x ∧ x ≤ 65535) (hy : 0 ≤ y ∧ y ≤ 65535) (h : ∀ i, i < 16 → bit x i = bit y i) : x = y := by
  have e : B16 x = B16 y := BitVec.eq_of_getLsbD_eq fun i hi => h i hi
  rw [← B16_nat hx, ← B16_nat hy, e]
theorem sub_iff {x y : Int} (hx : 0 ≤ x ∧ x ≤ 65535) : bAndNot .u16 x y = 0 ↔ ∀ i, i < 16 → bit x i = true → bit y i = true := by
  constructor
  · intro h i hi hb
    have := bit_andNot x y hi
    rw [h, bit_zero, hb] at this
    simpa using this.symm
  · intro h
    have hr := andNot_range (x := x) (y := y) hx
    refine bit_ext ⟨hr.1, by omega⟩ ⟨Int.le_refl _, by decide⟩ fun i hi => ?_
    rw [bit_andNot x y hi, bit_zero]
    cases hb : bit x i with
    | false => rfl
    | true => rw [h i hi hb]; rfl
theorem xor_range (x y : Int) : 0 ≤ bXor .u16 x y ∧ bXor .u16 x y ≤ 65535 := bXor_range x y
theorem and_range (x y : Int) : 0 ≤ bAnd .u16 x y ∧ bAnd .u16 x y ≤ 65535 := by
  rw [bAnd_eq]
  have := (B16 x &&& B16 y).isLt
  omega
theorem and_zero {x y : Int} : bAnd .u16 x y = 0 ↔ ∀ i, i < 16 → bit x i = true → bit y i = false := by
  constructor
  · intro h i hi hb
    have := bit_and x y i
    rw [h, bit_zero, hb] at this
    simpa using this.symm
  · intro h
    refine bit_ext (and_range x y) ⟨Int.le_refl _, by decide⟩ fun i hi => ?_
    rw [bit_and x y i, bit_zero]
    cases hb : bit x i with
    | false => rfl
    | true => rw [h i hi hb]; rfl
/-- The set of one thing. -/
def pw (i : Nat) : Int := (2 : Int) ^ i
theorem pw_tab : ∀ i : Nat, i < 8 → 0 ≤ pw i ∧ pw i ≤ 255 ∧ ∀ j : Nat, j < 16 → bit (pw i) j = decide (i = j) := by decide +kernel
theorem cnt_tab : ∀ n : Nat, n < 256 → (∀ i : Nat, i < 8 → bit (n : Int) i = false → cnt (bXor .u16 (n : Int) (pw i)) = cnt (n : Int) + 1 ∧ (n : Int) < bXor .u16 (n : Int) (pw i)) ∧ (∀ i : Nat, i < 16 → 8 ≤ i → bit (n : Int) i = false) := by decide +kernel
theorem cnt_add {x : Int} (h : 0 ≤ x ∧ x ≤ 255) {i : Nat} (hi : i < 8) (hb : bit x i = false) : cnt (bXor .u16 x (pw i)) = cnt x + 1 ∧ x < bXor .u16 x (pw i) := by
  have := (cnt_tab x.toNat (by omega)).1 i hi
  rw [Int.toNat_of_nonneg h.1] at this
  exact this hb
theorem bit_high {x : Int} (h : 0 ≤ x ∧ x ≤ 255) {i : Nat} (hi : i < 16) (h8 : 8 ≤ i) : bit x i = false := by
  have := (cnt_tab x.toNat (by omega)).2 i hi h8
  rwa [Int.toNat_of_nonneg h.1] at this
theorem bit8 {x : Int} (h : 0 ≤ x ∧ x ≤ 255) {i : Nat} (hi : i < 16) (hb : bit x i = true) : i < 8 := by
  by_cases c : i < 8
  · exact c
  · rw [bit_high h hi (by omega)] at hb; cases hb
def bc (b : Bool) : Int := if b then 1 else 0
theorem cnt_bits_tab : ∀ n : Nat, n < 256 → cnt (n : Int) = bc (bit n 0) + bc (bit n 1) + bc (bit n 2) + bc (bit n 3) + bc (bit n 4) + bc (bit n 5) + bc (bit n 6) + bc (bit n 7) := by decide +kernel
theorem cnt_bits {x : Int} (h : 0 ≤ x ∧ x ≤ 255) : cnt x = bc (bit x 0) + bc (bit x 1) + bc (bit x 2) + bc (bit x 3) + bc (bit x 4) + bc (bit x 5) + bc (bit x 6) + bc (bit x 7) := by
  have := cnt_bits_tab x.toNat (by omega)
  rwa [Int.toNat_of_nonneg h.1] at this
theorem bc_le {a b : Bool} (h : a = true → b = true) : bc a ≤ bc b := by cases a <;> cases b <;> simp [bc] at h ⊢
theorem bc_range (a : Bool) : 0 ≤ bc a ∧ bc a ≤ 1 := by cases a <;> simp [bc]
/-- A set within another one has no more things; with as many it is the other one. -/
theorem cnt_mono {x y : Int} (hx : 0 ≤ x ∧ x ≤ 255) (hy : 0 ≤ y ∧ y ≤ 255) (h : ∀ i, i < 16 → bit x i = true → bit y i = true) : cnt x ≤ cnt y ∧ (cnt x = cnt y → x = y) := by
  rw [cnt_bits hx, cnt_bits hy]
  have l0 := bc_le (h 0 (by decide)); have l1 := bc_le (h 1 (by decide)); have l2 := bc_le (h 2 (by decide)); have l3 := bc_le (h 3 (by decide))
  have l4 := bc_le (h 4 (by decide)); have l5 := bc_le (h 5 (by decide)); have l6 := bc_le (h 6 (by decide)); have l7 := bc_le (h 7 (by decide))
  refine ⟨by omega, fun e => ?_⟩
  have inj : ∀ a b : Bool, bc a = bc b → a = b := by intro a b; cases a <;> cases b <;> simp [bc]
  refine bit_ext ⟨hx.1, by omega⟩ ⟨hy.1, by omega⟩ fun i hi => ?_
  by_cases h8 : i < 8
  · have : i = 0 ∨ i = 1 ∨ i = 2 ∨ i = 3 ∨ i = 4 ∨ i = 5 ∨ i = 6 ∨ i = 7 := by omega
    rcases this with rfl | rfl | rfl | rfl | rfl | rfl | rfl | rfl <;> apply inj <;> omega
  · rw [bit_high hx hi (by omega), bit_high hy hi (by omega)]
/-- Rules that are met by none of some things. -/
theorem safe_iff {R : List Int} (hR : ∀ r ∈ R, 0 ≤ r ∧ r ≤ 65535) (t : Int) : safe R t = true ↔ ∀ r ∈ R, ¬ ∀ i, i < 16 → bit r i = true → bit t i = true := by
  unfold safe
  rw [Bool.not_eq_true', List.any_eq_false]
  constructor
  · intro h r hr hc
    exact h r hr (by rw [beq_iff_eq]; exact (sub_iff (hR r hr)).2 hc)
  · intro h r hr hc
    exact h r hr ((sub_iff (hR r hr)).1 (eq_of_beq hc))
theorem safe_sub {R : List Int} (hR : ∀ r ∈ R, 0 ≤ r ∧ r ≤ 65535) {s t : Int} (h : ∀ i, i < 16 → bit s i = true → bit t i = true) (ht : safe R t = true) : safe R s = true := by
  rw [safe_iff hR] at ht ⊢
  intro r hr hc
  exact ht r hr fun i hi hb => h i hi (hc i hi hb)
theorem all_bits_tab : ∀ t : Nat, t < 9 → ∀ j : Nat, j < 16 → bit ((2 : Int) ^ t - 1) j = decide (j < t) := by decide +kernel
theorem all_bits {F : Fe} (h : T8 F) {j : Nat} (hj : j < 16) : bit (allF F) j = decide ((j : Int) < F.f_Things) := by
  unfold T8 at h
  have := all_bits_tab F.f_Things.toNat (by omega) j hj
  unfold allF
  rw [this]
  apply decide_eq_decide.2
  omega
/-- The banks that can be reached. -/
inductive Rch (F : Fe) : Bk → Prop
  | start : Rch F ⟨allF F, false⟩
  | step {b : Bk} {l : Int} : Rch F b → l ∈ loadsF F b → Rch F (crossedB b l)
theorem Rch.near {F : Fe} (h : OkF F) {b : Bk} (hb : Rch F b) : nearOk F b := by
  cases hb with
  | start => have := all_range h.t8; exact ⟨by show 0 ≤ allF F; omega, Int.le_refl _⟩
  | step _ hl => exact load_near h hl
theorem mem_loads {F : Fe} (h : OkF F) {b : Bk} {l : Int} (h0 : 0 ≤ l) (h1 : l ≤ allF F) (hc : codeF F b l = 0) : l ∈ loadsF F b := by
  unfold loadsF loadsTo
  rw [List.mem_filter]
  exact ⟨List.mem_map.2 ⟨l.toNat, List.mem_range.2 (by omega), by omega⟩, by rw [hc]; rfl⟩
theorem of_loads {F : Fe} (h : OkF F) {b : Bk} {l : Int} (hl : l ∈ loadsF F b) : codeF F b l = 0 ∧ 0 ≤ l ∧ l ≤ allF F := by
  have hall := all_range h.t8
  rcases loadsF_mem hl with h | h
  · exact h
  · omega
theorem code_zero {F : Fe} {b : Bk} {l : Int} : codeF F b l = 0 ↔ bAndNot .u16 l (here F b) = 0 ∧ cnt l ≤ F.f_Boat ∧ bankF F (crossedB b l) = true := by
  unfold codeF
  constructor
  · intro h
    split at h
    · split at h
      · cases h
      · split at h
        · exact ⟨by assumption, by omega, by assumption⟩
        · cases h
    · cases h
  · rintro ⟨h1, h2, h3⟩
    rw [if_pos h1, if_neg (by omega), if_pos h3]
/-- A search finds the banks that can be reached. -/
theorem found_iff {N : Nat} {F : Fe} (h : OkF F) (hN : 2000 < N) {out : List Cr} (he : _impl_Ferry_search.f N F = some out) (b : Bk) : b ∈ out.map (·.f_bank) ↔ Rch F b := by
  obtain ⟨met, hS, hC⟩ := search_sound h hN he
  have key : ∀ n p : Nat, p ≤ n → p < out.length → Rch F (at_ out p).f_bank := by
    intro n
    induction n with
    | zero =>
      intro p hp _
      obtain rfl : p = 0 := by omega
      rw [hS.hd.2]; exact .start
    | succ n ih =>
      intro p hp hl
      by_cases e : p = 0
      · subst e; rw [hS.hd.2]; exact .start
      · obtain ⟨q, q1, q2, q3, q4, _⟩ := hS.src p (by omega) hl
        rw [q4]
        exact .step (ih q (by omega) (by omega)) q3
  constructor
  · intro hb
    obtain ⟨c, hc, rfl⟩ := List.mem_map.1 hb
    obtain ⟨p, hp, rfl⟩ := memb_rdL zc hc
    exact key p p (Nat.le_refl _) hp
  · have back : ∀ p, p < out.length → (at_ out p).f_bank ∈ out.map (·.f_bank) := fun p hp => List.mem_map.2 ⟨_, rdL_memb hp, rfl⟩
    intro hb
    have : ∃ p, p < out.length ∧ (at_ out p).f_bank = b := by
      induction hb with
      | start => exact ⟨0, hS.hd.1, by rw [hS.hd.2]; rfl⟩
      | step _ hl ih =>
        obtain ⟨p, hp, rfl⟩ := ih
        obtain ⟨q, q1, q2, _⟩ := hC p hp _ hl
        exact ⟨q, q1, q2⟩
    obtain ⟨p, hp, rfl⟩ := this
    exact back p hp
/-- A set that has one thing of each rule. -/
def covers (F : Fe) (s : Int) : Bool := safe F.f_Rules (bAndNot .u16 (allF F) s)
theorem alone_near {F : Fe} (h : OkF F) (s : Int) : alone F ⟨s, true⟩ = s := rfl
theorem bank_far {F : Fe} {s : Int} : bankF F ⟨s, true⟩ = true ↔ bAndNot .u16 s (allF F) = 0 ∧ safe F.f_Rules s = true := by
  unfold bankF alone; simp
theorem bank_near {F : Fe} {s : Int} : bankF F ⟨s, false⟩ = true ↔ bAndNot .u16 s (allF F) = 0 ∧ safe F.f_Rules (bAndNot .u16 (allF F) s) = true := by
  unfold bankF alone; simp
/-- The first load over is a cover. -/
theorem Rch.first {F : Fe} (h : OkF F) {b : Bk} (hb : Rch F b) : b = ⟨allF F, false⟩ ∨ ∃ l, l ∈ loadsF F ⟨allF F, false⟩ := by
  induction hb with
  | start => exact .inl rfl
  | step _ hl ih =>
    rcases ih with rfl | ih
    · exact .inr ⟨_, hl⟩
    · exact .inr ih
theorem first_covers {F : Fe} (hF : InF F) (h : OkF F) {l : Int} (hl : l ∈ loadsF F ⟨allF F, false⟩) : covers F l = true ∧ cnt l ≤ F.f_Boat ∧ 0 ≤ l ∧ l ≤ allF F := by
  have hall := all_range h.t8
  obtain ⟨hc, l0, l1⟩ := of_loads h hl
  obtain ⟨c1, c2, c3⟩ := code_zero.1 hc
  refine ⟨?_, c2, l0, l1⟩
  have c1 := (sub_iff ⟨l0, by omega⟩).1 c1
  have c3 : bankF F ⟨bXor .u16 (allF F) l, true⟩ = true := c3
  have c3 := (bank_far.1 c3).2
  refine safe_sub hF.2.2 (fun i hi hb => ?_) c3
  rw [bit_andNot _ _ hi] at hb
  rw [bit_xor]
  simp only [Bool.and_eq_true, Bool.not_eq_true'] at hb
  rw [hb.1, hb.2]; rfl
/-- With a cover and one place more in the boat all come over, one by one. -/
theorem over_one {F : Fe} (hF : InF F) (h : OkF F) {c : Int} (hc : covers F c = true) (c0 : 0 ≤ c) (c1 : c ≤ allF F) (cs : ∀ i, i < 16 → bit c i = true → bit (allF F) i = true) (hb : cnt c + 1 ≤ F.f_Boat)
    {S : Int} (hS : Rch F ⟨S, false⟩) (hcS : ∀ i, i < 16 → bit c i = true → bit S i = true) (hSa : ∀ i, i < 16 → bit S i = true → bit (allF F) i = true) {i : Nat} (hi : i < 8) (h1 : bit S i = true) (h2 : bit c i = false) : Rch F ⟨bXor .u16 S (pw i), false⟩ := by
  have hall := all_range h.t8
  have hSn := hS.near h
  unfold nearOk at hSn
  obtain ⟨p0, p1, pb⟩ := pw_tab i hi
  have hca := cnt_add ⟨c0, by omega⟩ hi h2
  have hx := xor_range c (pw i)
  have hz := xor_range S (bXor .u16 c (pw i))
  have hy := xor_range S (pw i)
  have hX8 : ∀ {x : Int}, 0 ≤ x ∧ x ≤ 65535 → (∀ j, j < 16 → bit x j = true → bit (allF F) j = true) → x ≤ allF F := fun {x} hx hh => andNot_le hx ⟨by omega, by omega⟩ ((sub_iff hx).2 hh)
  have hSi : ∀ {j : Nat}, j < 16 → bit (bXor .u16 c (pw i)) j = true → bit S j = true := by
    intro j hj hjb
    rw [bit_xor, pb j hj] at hjb
    by_cases e : i = j
    · subst e; exact h1
    · rw [decide_eq_false e] at hjb; simp at hjb; exact hcS j hj hjb
  have hn1 : ∀ {j : Nat}, j < 16 → bit (bXor .u16 S (bXor .u16 c (pw i))) j = (bit S j && (!bit c j && !decide (i = j))) := by
    intro j hj
    rw [bit_xor, bit_xor, pb j hj]
    by_cases e : i = j
    · subst e; rw [h1, h2]; simp
    · rw [decide_eq_false e]
      cases hcj : bit c j with
      | false => simp
      | true => rw [hcS j hj hcj]; simp
  -- over with the cover and one more
  have st1 : Rch F (crossedB ⟨S, false⟩ (bXor .u16 c (pw i))) := by
    refine .step hS (mem_loads h hx.1 (hX8 hx fun j hj hjb => hSa j hj (hSi hj hjb)) (code_zero.2 ⟨?_, by omega, ?_⟩))
    · exact (sub_iff hx).2 fun j hj hjb => hSi hj hjb
    · refine bank_far.2 ⟨(sub_iff hz).2 fun j hj hjb => ?_, ?_⟩
      · rw [hn1 hj] at hjb; simp only [Bool.and_eq_true] at hjb; exact hSa j hj hjb.1
      · refine safe_sub hF.2.2 (fun j hj hjb => ?_) hc
        rw [hn1 hj] at hjb
        rw [bit_andNot _ _ hj]
        simp only [Bool.and_eq_true] at hjb ⊢
        exact ⟨hSa j hj hjb.1, hjb.2.1⟩
  have e1 : crossedB ⟨S, false⟩ (bXor .u16 c (pw i)) = ⟨bXor .u16 S (bXor .u16 c (pw i)), true⟩ := rfl
  rw [e1] at st1
  -- back with the cover
  have st2 : Rch F (crossedB ⟨bXor .u16 S (bXor .u16 c (pw i)), true⟩ c) := by
    refine .step st1 (mem_loads h c0 c1 (code_zero.2 ⟨?_, by omega, ?_⟩))
    · refine (sub_iff ⟨c0, by omega⟩).2 fun j hj hjb => ?_
      show bit (bAndNot .u16 (allF F) (bXor .u16 S (bXor .u16 c (pw i)))) j = true
      rw [bit_andNot _ _ hj, hn1 hj, cs j hj hjb, hjb]; simp
    · show bankF F ⟨bXor .u16 (bXor .u16 S (bXor .u16 c (pw i))) c, false⟩ = true
      have hb2 : ∀ {j : Nat}, j < 16 → bit (bXor .u16 (bXor .u16 S (bXor .u16 c (pw i))) c) j = (bit S j && !decide (i = j)) := by
        intro j hj
        rw [bit_xor, hn1 hj]
        cases hcj : bit c j with
        | false => simp
        | true =>
          rw [hcS j hj hcj]
          by_cases e : i = j
          · subst e; rw [h2] at hcj; cases hcj
          · rw [decide_eq_false e]; simp
      refine bank_near.2 ⟨(sub_iff (xor_range _ _)).2 fun j hj hjb => ?_, ?_⟩
      · rw [hb2 hj] at hjb; simp only [Bool.and_eq_true] at hjb; exact hSa j hj hjb.1
      · refine safe_sub hF.2.2 (fun j hj hjb => ?_) hc
        rw [bit_andNot _ _ hj, hb2 hj] at hjb
        rw [bit_andNot _ _ hj]
        simp only [Bool.and_eq_true, Bool.not_eq_true'] at hjb ⊢
        refine ⟨hjb.1, ?_⟩
        cases hcj : bit c j with
        | false => rfl
        | true =>
          rw [hcS j hj hcj] at hjb
          by_cases e : i = j
          · subst e; rw [h2] at hcj; cases hcj
          · rw [decide_eq_false e] at hjb; simp at hjb
  have e2 : bXor .u16 (bXor .u16 S (bXor .u16 c (pw i))) c = bXor .u16 S (pw i) := by
    refine bit_ext (xor_range _ _) hy fun j hj => ?_
    rw [bit_xor, bit_xor, bit_xor, bit_xor]
    cases bit S j <;> cases bit c j <;> cases bit (pw i) j <;> rfl
  have e3 : crossedB ⟨bXor .u16 S (bXor .u16 c (pw i)), true⟩ c = ⟨bXor .u16 S (pw i), false⟩ := by
    show (⟨bXor .u16 (bXor .u16 S (bXor .u16 c (pw i))) c, false⟩ : Bk) = _
    rw [e2]
  rwa [e3] at st2
theorem safe_none {F : Fe} (hF : InF F) (h : OkF F) : safe F.f_Rules 0 = true := by
  rw [safe_iff hF.2.2]
  intro r hr hc
  have hb := h.rules
  rw [List.any_eq_false] at hb
  have := hb r hr
  unfold bad at this
  simp only [Bool.or_eq_true, Bool.not_eq_true', decide_eq_true_eq, not_or] at this
  have : r = 0 := bit_ext (hF.2.2 r hr) ⟨Int.le_refl _, by decide⟩ fun i hi => by
    rw [bit_zero]
    cases hb : bit r i with
    | false => rfl
    | true => have := hc i hi hb; rw [bit_zero] at this; cases this
  subst this
  have := cnt_zero
  omega
theorem over_all {F : Fe} (hF : InF F) (h : OkF F) {c : Int} (hc : covers F c = true) (c0 : 0 ≤ c) (c1 : c ≤ allF F) (cs : ∀ i, i < 16 → bit c i = true → bit (allF F) i = true) (hb : cnt c + 1 ≤ F.f_Boat) : Rch F endB := by
  have hall := all_range h.t8
  have key : ∀ (n : Nat) (S : Int), S ≤ n → Rch F ⟨S, false⟩ → (∀ i, i < 16 → bit c i = true → bit S i = true) → (∀ i, i < 16 → bit S i = true → bit (allF F) i = true) → Rch F ⟨c, false⟩ := by
    intro n
    induction n with
    | zero =>
      intro S hS hR hcS hSa
      have hSn := hR.near h
      unfold nearOk at hSn
      have : S = c := by
        refine bit_ext ⟨hSn.1, by have := hSn.2; omega⟩ ⟨c0, by omega⟩ fun i hi => ?_
        have : S = 0 := by have := hSn.1; dsimp only at this; omega
        subst this
        cases hci : bit c i with
        | false => exact bit_zero i
        | true => exact (hcS i hi hci)
      rwa [this] at hR
    | succ n ih =>
      intro S hS hR hcS hSa
      have hSn := hR.near h
      unfold nearOk at hSn
      by_cases e : S = c
      · rwa [e] at hR
      · obtain ⟨i, hi, h1, h2⟩ : ∃ i, i < 16 ∧ bit S i = true ∧ bit c i = false := by
          apply Classical.byContradiction
          intro hno
          apply e
          refine bit_ext ⟨hSn.1, by have := hSn.2; dsimp only at this; omega⟩ ⟨c0, by omega⟩ fun i hi => ?_
          cases hci : bit c i with
          | true => exact hcS i hi hci
          | false =>
            cases hSi : bit S i with
            | false => rfl
            | true => exact absurd ⟨i, hi, hSi, hci⟩ hno
        have hS255 : 0 ≤ S ∧ S ≤ 255 := ⟨hSn.1, by have := hSn.2; dsimp only at this; omega⟩
        have h8 := bit8 hS255 hi h1
        have hR' := over_one hF h hc c0 c1 cs hb hR hcS hSa h8 h1 h2
        obtain ⟨p0, p1, pb⟩ := pw_tab i h8
        have hbits : ∀ j, j < 16 → bit (bXor .u16 S (pw i)) j = (bit S j && !decide (i = j)) := by
          intro j hj
          rw [bit_xor, pb j hj]
          by_cases e : i = j
          · subst e; rw [h1]; simp
          · rw [decide_eq_false e]; simp
        have hR'n := hR'.near h
        unfold nearOk at hR'n
        have hX : 0 ≤ bXor .u16 S (pw i) ∧ bXor .u16 S (pw i) ≤ 255 := ⟨hR'n.1, by have := hR'n.2; dsimp only at this; omega⟩
        have hlt := (cnt_add hX h8 (by rw [hbits i hi]; simp)).2
        have back : bXor .u16 (bXor .u16 S (pw i)) (pw i) = S := bit_ext (xor_range _ _) ⟨hS255.1, by omega⟩ fun j hj => by
          rw [bit_xor, bit_xor]; cases bit S j <;> cases bit (pw i) j <;> rfl
        rw [back] at hlt
        refine ih _ (by omega) hR' ?_ ?_
        · intro j hj hcj
          rw [hbits j hj, hcS j hj hcj]
          by_cases e : i = j
          · subst e; rw [h2] at hcj; cases hcj
          · rw [decide_eq_false e]; rfl
        · intro j hj hjb
          rw [hbits j hj] at hjb
          simp only [Bool.and_eq_true] at hjb
          exact hSa j hj hjb.1
  have hC := key (allF F).toNat (allF F) (by omega) .start cs (fun _ _ hb => hb)
  have hx : bXor .u16 c c = 0 := bit_ext (xor_range _ _) ⟨Int.le_refl _, by decide⟩ fun i hi => by rw [bit_xor, bit_zero]; cases bit c i <;> rfl
  have : Rch F (crossedB ⟨c, false⟩ c) := .step hC (mem_loads h c0 c1 (code_zero.2 ⟨(sub_iff ⟨c0, by omega⟩).2 fun _ _ hb => hb, by omega, by
    show bankF F ⟨bXor .u16 c c, true⟩ = true
    rw [hx]
    exact bank_far.2 ⟨(sub_iff ⟨Int.le_refl _, by decide⟩).2 (fun i hi hb => by rw [bit_zero] at hb; cases hb), safe_none hF h⟩⟩))
  have e : crossedB ⟨c, false⟩ c = endB := by
    show (⟨bXor .u16 c c, true⟩ : Bk) = _
    rw [hx]; rfl
  rwa [e] at this
end Go.Proofs.YtcaokmnajnfpiaaX

/- Ferries, plainly: what ShortestCrossing, LeastBoat, LeastCover, IsCover, IsSafe, SafeSets tell. -/
namespace Go.Proofs.YtcaokmnajnfpiaaX
open Go
set_option linter.unusedVariables false
set_option linter.unusedSimpArgs false
theorem short_eq {N : Nat} {F : Fe} (hF : InF F) (h : OkF F) (hN : 3000 < N) : ∃ l c, impl_ShortestCrossing.f N F = some (l, c) ∧ (c = 0 ↔ Rch F endB) ∧ (c = 0 ∨ c = 6) := by
  have hk : okF F = true := okF_iff.2 h
  obtain ⟨tb, wy, fr, ba, qu, out, met, e1, e2, hR, _, _⟩ := search_both h (show 2000 < N by omega)
  obtain ⟨l, c, q1, q2, q3, q4, q5⟩ := Short_ok h hN e1 e2 hR (by rw [okF_spec hF (by omega), hk]) (by rw [okF_impl hF (by omega), hk])
  exact ⟨l, c, q2, q4.trans (found_iff h (by omega) e2 endB), q5⟩
theorem least_eq {N : Nat} {F : Fe} (hF : InF F) (h : OkF F) (hN : 3000 < N) : ∃ d, spec_LeastBoat.f N F = some (d, 0) ∧ impl_LeastBoat.f N F = some (d, 0) ∧ 0 ≤ d ∧ d ≤ F.f_Things ∧ Rch (wb F d) endB ∧ ∀ x, 0 ≤ x → x < d → ¬ Rch (wb F x) endB := by
  obtain ⟨r, e1, e2⟩ := Least_same hF hN
  have hk : okF F = true := okF_iff.2 h
  have ht := h.t8
  unfold T8 at ht
  have hall := all_range h.t8
  rw [e1, e2]
  simp only [impl_LeastBoat.f, F_eta, okF_impl hF (show 40 < N by omega), hk, Option.bind_some, if_true] at e2
  obtain ⟨e, he, hf⟩ := bind_get e2
  have hgreat : Rch (wb F F.f_Things) endB := by
    have hw := wb_ok h (x := F.f_Things) (by omega) (Int.le_refl _)
    have hA : allF (wb F F.f_Things) = allF F := rfl
    have := Rch.step (F := wb F F.f_Things) .start (mem_loads hw (b := ⟨allF F, false⟩) (l := allF F) (by omega) (by rw [hA]; exact Int.le_refl _) (great hF h))
    have e : crossedB ⟨allF (wb F F.f_Things), false⟩ (allF F) = endB := by
      have ht3 := (all_tabs F.f_Things.toNat (by omega) (by omega)).2.2.1
      show (⟨bXor .u16 (allF F) (allF F), true⟩ : Bk) = ⟨0, true⟩
      have : bXor .u16 (allF F) (allF F) = 0 := ht3
      rw [this]
    rwa [e] at this
  have key := rounds_keep (b := fun s => impl_LeastBoat.b0 N F s) (fun x => 0 ≤ x ∧ x ≤ F.f_Things + 1 ∧ ∀ y, 0 ≤ y → y < x → ¬ Rch (wb F y) endB)
    (fun e => ∃ d, e = .ret (d, 0) ∧ 0 ≤ d ∧ d ≤ F.f_Things ∧ Rch (wb F d) endB ∧ ∀ x, 0 ≤ x → x < d → ¬ Rch (wb F x) endB) (by
      rintro x s' ⟨r1, r2, r3⟩ hb
      simp only [impl_LeastBoat.b0, i8w_id (x := F.f_Things + 1) (by omega) (by omega)] at hb
      by_cases hx : x < F.f_Things + 1
      · obtain ⟨l, c, q1, q2, q3⟩ := short_eq (N := N) (wb_in hF r1 (by omega)) (wb_ok h r1 (by omega)) hN
        have q1 : impl_ShortestCrossing.f N ⟨F.f_Things, x, F.f_Rules⟩ = some (l, c) := q1
        rw [if_pos hx, q1, Option.bind_some] at hb
        by_cases hc : c = 0
        · rw [if_pos hc] at hb; cases hb
        · rw [if_neg hc, i8w_id (by omega) (by omega)] at hb
          injection hb with hb; injection hb with hb; subst hb
          refine ⟨by omega, by omega, fun y h0 hy => ?_⟩
          by_cases e : y = x
          · subst e; exact fun hr => hc (q2.2 hr)
          · exact r3 y h0 (by omega)
      · rw [if_neg hx] at hb; cases hb) (by
      rintro x e ⟨r1, r2, r3⟩ hb
      simp only [impl_LeastBoat.b0, i8w_id (x := F.f_Things + 1) (by omega) (by omega)] at hb
      by_cases hx : x < F.f_Things + 1
      · obtain ⟨l, c, q1, q2, q3⟩ := short_eq (N := N) (wb_in hF r1 (by omega)) (wb_ok h r1 (by omega)) hN
        have q1 : impl_ShortestCrossing.f N ⟨F.f_Things, x, F.f_Rules⟩ = some (l, c) := q1
        rw [if_pos hx, q1, Option.bind_some] at hb
        by_cases hc : c = 0
        · rw [if_pos hc, i64w_id (by omega) (by omega)] at hb
          injection hb with hb; injection hb with hb; subst hb
          exact ⟨x, rfl, r1, by omega, q2.1 hc, r3⟩
        · rw [if_neg hc] at hb; cases hb
      · exact absurd hgreat (r3 F.f_Things (by omega) (by omega))) N 0 e ⟨Int.le_refl _, by omega, fun y h0 hy => by omega⟩ he
  obtain ⟨d, rfl, k1, k2, k3, k4⟩ := key
  simp only [Ex.fin] at hf
  injection hf with hf
  subst hf
  exact ⟨d, rfl, rfl, k1, k2, k3, k4⟩
/-- What one of the given sets holds of all sets in a rule's bounds. -/
theorem rule_bits {F : Fe} (hF : InF F) (h : OkF F) {r : Int} (hr : r ∈ F.f_Rules) : ∀ i, i < 16 → bit r i = true → bit (allF F) i = true := by
  have hb := h.rules
  rw [List.any_eq_false] at hb
  have := hb r hr
  unfold bad at this
  simp only [Bool.or_eq_true, Bool.not_eq_true', decide_eq_true_eq, not_or, Bool.not_eq_false] at this
  exact (sub_iff (hF.2.2 r hr)).1 (eq_of_beq this.1)
theorem any_same {α : Type} {p q : α → Bool} {l : List α} (h : ∀ x ∈ l, p x = q x) : l.any p = l.any q := by
  induction l with
  | nil => rfl
  | cons a l ih => rw [List.any_cons, List.any_cons, h a List.mem_cons_self, ih fun x hx => h x (List.mem_cons_of_mem _ hx)]
theorem cover_impl {N : Nat} {F : Fe} (hF : InF F) (h : OkF F) (hN : 40 < N) (t : Int) : _impl_Ferry_isCover.f N F t = some (covers F t) := by
  have hl := h.len
  obtain ⟨e, he, hq⟩ := rounds_any (b := fun s => slices_IndexFunc_uint16_uint16_at__impl_Ferry_isCover_1.b0 N F.f_Rules t s) F.f_Rules (fun r => bAnd .u16 r t == 0) (fun i => (i : Int)) (N := N) (by omega) (by
    intro i hi
    have g1 : (i : Int) < F.f_Rules.length := by omega
    have g2 : (0 : Int) ≤ i := by omega
    simp only [slices_IndexFunc_uint16_uint16_at__impl_Ferry_isCover_1.b0, _impl_Ferry_isCover_1.f, g1, g2, and_self, if_true, rdL_nat hi, i64w_succ hi (show F.f_Rules.length ≤ 9223372036854775807 by omega), Option.bind_some]) (by
    simp only [slices_IndexFunc_uint16_uint16_at__impl_Ferry_isCover_1.b0]
    rw [if_neg (by omega)])
  have hany : (F.f_Rules.any fun r => bAnd .u16 r t == 0) = (F.f_Rules.any fun r => bAndNot .u16 r (bAndNot .u16 (allF F) t) == 0) := by
    refine any_same fun r hr => ?_
    rw [Bool.eq_iff_iff, beq_iff_eq, beq_iff_eq, and_zero, sub_iff (hF.2.2 r hr)]
    constructor
    · intro hh i hi hb
      rw [bit_andNot _ _ hi, rule_bits hF h hr i hi hb, hh i hi hb]; rfl
    · intro hh i hi hb
      have := hh i hi hb
      rw [bit_andNot _ _ hi] at this
      simp only [Bool.and_eq_true, Bool.not_eq_true'] at this
      exact this.2
  simp only [_impl_Ferry_isCover.f, slices_ContainsFunc_uint16_uint16_at__impl_Ferry_isCover_1.f, slices_IndexFunc_uint16_uint16_at__impl_Ferry_isCover_1.f, he, covers, safe, ← hany]
  by_cases c4 : (F.f_Rules.any fun r => bAnd .u16 r t == 0) = true
  · rw [if_pos c4] at hq
    obtain ⟨i, rfl⟩ := hq
    simp only [Option.bind_some, Ex.fin, c4, Bool.not_true, decide_eq_true (show (i : Int) ≥ 0 by omega)]
  · rw [if_neg c4] at hq
    subst hq
    rw [Bool.not_eq_true] at c4
    simp only [Option.bind_some, Ex.fin, c4, Bool.not_false, slices_IndexFunc_uint16_uint16_at__impl_Ferry_isCover_1.a0]
    rfl
theorem cover_spec {N : Nat} {F : Fe} (h : OkF F) (hN : 40 < N) (t : Int) : spec_l05Cover.f N F t = some (covers F t) := by
  simp only [spec_l05Cover.f, F_eta, spec_all N h.t8, Option.bind_some, safe_spec h.len hN, covers]
/-- The best of the first n sets. -/
def bestS (F : Fe) : Nat → Int
  | 0 => allF F
  | n + 1 => if covers F (n : Int) = true then (if cnt (n : Int) < cnt (bestS F n) then (n : Int) else bestS F n) else bestS F n
def bestI (F : Fe) : Nat → Int
  | 0 => allF F
  | n + 1 => if covers F (n : Int) = true then (if cnt (n : Int) < cnt (bestI F n) then (n : Int) else if cnt (n : Int) = cnt (bestI F n) then (if (n : Int) < bestI F n then (n : Int) else bestI F n) else bestI F n) else bestI F n
def Bests (F : Fe) (m : Int) (n : Nat) : Prop := 0 ≤ m ∧ m ≤ allF F ∧ covers F m = true ∧ (m < n ∨ m = allF F) ∧ ∀ s : Int, 0 ≤ s → s < n → covers F s = true → cnt m < cnt s ∨ (cnt m = cnt s ∧ m ≤ s)
theorem all_covers {F : Fe} (hF : InF F) (h : OkF F) : covers F (allF F) = true := by
  have hall := all_range h.t8
  have : bAndNot .u16 (allF F) (allF F) = 0 := (sub_iff ⟨by omega, by omega⟩).2 fun _ _ hb => hb
  unfold covers
  rw [this]
  exact safe_none hF h
theorem sub_all {F : Fe} (h : OkF F) {s : Int} (h0 : 0 ≤ s) (h1 : s ≤ allF F) : ∀ i, i < 16 → bit s i = true → bit (allF F) i = true := by
  have ht := h.t8
  unfold T8 at ht
  have tab : ∀ t : Nat, t < 9 → ∀ s : Nat, s < 256 → s < 2 ^ t → ∀ i : Nat, i < 16 → bit (s : Int) i = true → i < t := by decide +kernel
  have hall := all_range h.t8
  intro i hi hb
  rw [all_bits h.t8 hi, decide_eq_true_eq]
  have e : ((2 ^ F.f_Things.toNat : Nat) : Int) = allF F + 1 := by
    unfold allF; rw [Int.natCast_pow]; simp
  have := tab F.f_Things.toNat (by omega) s.toNat (by omega) (by omega) i hi (by rw [Int.toNat_of_nonneg h0]; exact hb)
  omega
theorem bestS_ok {F : Fe} (hF : InF F) (h : OkF F) : ∀ n : Nat, (n : Int) ≤ allF F + 1 → Bests F (bestS F n) n := by
  have hall := all_range h.t8
  intro n
  induction n with
  | zero => exact fun _ => ⟨by simp only [bestS]; omega, Int.le_refl _, all_covers hF h, .inr rfl, fun s h0 h1 => by omega⟩
  | succ n ih =>
    intro hn
    obtain ⟨i1, i2, i3, i4, i5⟩ := ih (by omega)
    have hn0 : (0 : Int) ≤ n := by omega
    simp only [bestS]
    by_cases hc : covers F (n : Int) = true
    · rw [if_pos hc]
      by_cases hl : cnt (n : Int) < cnt (bestS F n)
      · rw [if_pos hl]
        refine ⟨by omega, by omega, hc, .inl (by omega), fun s h0 h1 hs => ?_⟩
        by_cases e : s = n
        · subst e; exact .inr ⟨rfl, Int.le_refl _⟩
        · have := i5 s h0 (by omega) hs; omega
      · rw [if_neg hl]
        refine ⟨i1, i2, i3, by omega, fun s h0 h1 hs => ?_⟩
        by_cases e : s = n
        · subst e
          rcases i4 with i4 | i4
          · by_cases e2 : cnt (bestS F n) = cnt (n : Int)
            · exact .inr ⟨e2, by omega⟩
            · exact .inl (by omega)
          · have := cnt_mono (x := (n : Int)) (y := allF F) ⟨by omega, by omega⟩ ⟨by omega, by omega⟩ (sub_all h hn0 (by omega))
            rw [i4] at hl ⊢
            have e3 : cnt (n : Int) = cnt (allF F) := by omega
            exact .inr ⟨e3.symm, by rw [this.2 e3]; exact Int.le_refl _⟩
        · exact i5 s h0 (by omega) hs
    · rw [if_neg hc]
      refine ⟨i1, i2, i3, by omega, fun s h0 h1 hs => ?_⟩
      by_cases e : s = n
      · subst e; exact absurd hs hc
      · exact i5 s h0 (by omega) hs
theorem bestI_ok {F : Fe} (hF : InF F) (h : OkF F) : ∀ n : Nat, (n : Int) ≤ allF F → Bests F (bestI F n) n := by
  have hall := all_range h.t8
  intro n
  induction n with
  | zero => exact fun _ => ⟨by simp only [bestI]; omega, Int.le_refl _, all_covers hF h, .inr rfl, fun s h0 h1 => by omega⟩
  | succ n ih =>
    intro hn
    obtain ⟨i1, i2, i3, i4, i5⟩ := ih (by omega)
    simp only [bestI]
    by_cases hc : covers F (n : Int) = true
    · rw [if_pos hc]
      by_cases hl : cnt (n : Int) < cnt (bestI F n)
      · rw [if_pos hl]
        refine ⟨by omega, by omega, hc, .inl (by omega), fun s h0 h1 hs => ?_⟩
        by_cases e : s = n
        · subst e; exact .inr ⟨rfl, Int.le_refl _⟩
        · have := i5 s h0 (by omega) hs; omega
      · rw [if_neg hl]
        by_cases he : cnt (n : Int) = cnt (bestI F n)
        · rw [if_pos he]
          by_cases hb : (n : Int) < bestI F n
          · rw [if_pos hb]
            refine ⟨by omega, by omega, hc, .inl (by omega), fun s h0 h1 hs => ?_⟩
            by_cases e : s = n
            · subst e; exact .inr ⟨rfl, Int.le_refl _⟩
            · have := i5 s h0 (by omega) hs; omega
          · rw [if_neg hb]
            refine ⟨i1, i2, i3, by omega, fun s h0 h1 hs => ?_⟩
            by_cases e : s = n
            · subst e; exact .inr ⟨he.symm, by omega⟩
            · exact i5 s h0 (by omega) hs
        · rw [if_neg he]
          refine ⟨i1, i2, i3, by omega, fun s h0 h1 hs => ?_⟩
          by_cases e : s = n
          · subst e; exact .inl (by omega)
          · exact i5 s h0 (by omega) hs
    · rw [if_neg hc]
      refine ⟨i1, i2, i3, by omega, fun s h0 h1 hs => ?_⟩
      by_cases e : s = n
      · subst e; exact absurd hs hc
      · exact i5 s h0 (by omega) hs
/-- The least cover, and the first of these. -/
def Least (F : Fe) (m : Int) : Prop := 0 ≤ m ∧ m ≤ allF F ∧ covers F m = true ∧ ∀ s : Int, 0 ≤ s → s ≤ allF F → covers F s = true → cnt m < cnt s ∨ (cnt m = cnt s ∧ m ≤ s)
theorem cover_eq {N : Nat} {F : Fe} (hF : InF F) (h : OkF F) (hN : 2000 < N) : ∃ m, spec_LeastCover.f N F = some (m, 0) ∧ impl_LeastCover.f N F = some (m, 0) ∧ Least F m := by
  have hall := all_range h.t8
  have hk : okF F = true := okF_iff.2 h
  have lS : Least F (bestS F ((allF F).toNat + 1)) := by
    obtain ⟨i1, i2, i3, i4, i5⟩ := bestS_ok hF h ((allF F).toNat + 1) (by omega)
    exact ⟨i1, i2, i3, fun s h0 h1 hs => i5 s h0 (by omega) hs⟩
  have lI : Least F (bestI F (allF F).toNat) := by
    obtain ⟨i1, i2, i3, i4, i5⟩ := bestI_ok hF h (allF F).toNat (by omega)
    refine ⟨i1, i2, i3, fun s h0 h1 hs => ?_⟩
    by_cases e : s = allF F
    · subst e
      have := cnt_mono (x := bestI F (allF F).toNat) (y := allF F) ⟨i1, by omega⟩ ⟨by omega, by omega⟩ (sub_all h i1 i2)
      by_cases e2 : cnt (bestI F (allF F).toNat) = cnt (allF F)
      · exact .inr ⟨e2, i2⟩
      · exact .inl (by omega)
    · exact i5 s h0 (by omega) hs
  have hsame : bestS F ((allF F).toNat + 1) = bestI F (allF F).toNat := by
    have a := lS.2.2.2 _ lI.1 lI.2.1 lI.2.2.1
    have b := lI.2.2.2 _ lS.1 lS.2.1 lS.2.2.1
    omega
  refine ⟨bestS F ((allF F).toNat + 1), ?_, ?_, lS⟩
  · have q := rounds_for (b := fun s => spec_LeastCover.b0 N F s.1 s.2) (e := .go (bestS F ((allF F).toNat + 1))) (fun k => (bestS F k, (k : Int))) ((allF F).toNat + 1) 0 N (by omega) (by omega) (by
      intro i _ hi
      have hw : u16w ((i : Int) + 1) = ((i + 1 : Nat) : Int) := by rw [u16w_id (by omega) (by omega)]; omega
      obtain ⟨b1, b2, _⟩ := bestS_ok hF h i (by omega)
      simp only [spec_LeastCover.b0, F_eta, spec_all N h.t8, Option.bind_some, cover_spec h (show 40 < N by omega), spec_LeastCover.j2, hw, bestS, size_eq (show 10 ≤ N by omega) (x := (i : Int)) ⟨by omega, by omega⟩, size_eq (show 10 ≤ N by omega) (x := bestS F i) ⟨b1, by omega⟩]
      rw [if_pos (by omega)]
      by_cases c : covers F (i : Int) = true
      · simp only [if_pos c]
        by_cases c2 : cnt (i : Int) < cnt (bestS F i)
        · simp only [if_pos c2]
        · simp only [if_neg c2]
      · simp only [if_neg c]) (by
      simp only [spec_LeastCover.b0, F_eta, spec_all N h.t8, Option.bind_some]
      rw [if_neg (by omega)])
    have q' : rounds (fun s => spec_LeastCover.b0 N F s.1 s.2) N (allF F, 0) = some (.go (bestS F ((allF F).toNat + 1))) := q
    simp only [spec_LeastCover.f, F_eta, okF_spec hF (show 40 < N by omega), hk, if_true, Option.bind_some, spec_all N h.t8, q', Ex.fin, spec_LeastCover.a0]
  · have q := rounds_for (b := fun s => impl_LeastCover.b0 N (allF F) F s.1 s.2) (e := .go (bestI F (allF F).toNat)) (fun k => (bestI F k, (k : Int))) (allF F).toNat 0 N (by omega) (by omega) (by
      intro i _ hi
      have hw : u16w ((i : Int) + 1) = ((i + 1 : Nat) : Int) := by rw [u16w_id (by omega) (by omega)]; omega
      obtain ⟨b1, b2, _⟩ := bestI_ok hF h i (by omega)
      simp only [impl_LeastCover.b0, F_eta, Option.bind_some, cover_impl hF h (show 40 < N by omega), impl_LeastCover.j2, hw, bestI, ones_eq N (x := (i : Int)) ⟨by omega, by omega⟩, ones_eq N (x := bestI F i) ⟨b1, by omega⟩]
      rw [if_pos (by omega)]
      by_cases c : covers F (i : Int) = true
      · simp only [if_pos c]
        by_cases c2 : cnt (i : Int) < cnt (bestI F i)
        · simp only [if_pos c2]
        · simp only [if_neg c2]
          by_cases c3 : cnt (i : Int) = cnt (bestI F i)
          · simp only [if_pos c3]
            by_cases c4 : (i : Int) < bestI F i
            · simp only [if_pos c4]
            · simp only [if_neg c4]
          · simp only [if_neg c3]
      · simp only [if_neg c]) (by
      simp only [impl_LeastCover.b0]
      rw [if_neg (by omega)])
    have q' : rounds (fun s => impl_LeastCover.b0 N (allF F) F s.1 s.2) N (allF F, 0) = some (.go (bestI F (allF F).toNat)) := q
    simp only [impl_LeastCover.f, F_eta, okF_impl hF (show 40 < N by omega), hk, if_true, Option.bind_some, impl_all N h.t8, q', Ex.fin, impl_LeastCover.a0, hsame]
theorem setCode_eq {N : Nat} {F : Fe} (hF : InF F) (h : OkF F) (hN : 40 < N) {t : Int} (ht : bAndNot .u16 t (allF F) = 0) : impl_setCode.f N F t = some 0 := by
  have hk : okF F = true := okF_iff.2 h
  simp only [impl_setCode.f, F_eta, okF_impl hF hN, hk, if_true, Option.bind_some, impl_all N h.t8, impl_inside.f, ht, impl_unless.f]
  rfl
theorem isCover_eq {N : Nat} {F : Fe} (hF : InF F) (h : OkF F) (hN : 40 < N) {t : Int} (ht : bAndNot .u16 t (allF F) = 0) : impl_IsCover.f N F t = some (covers F t, 0) := by
  simp only [impl_IsCover.f, F_eta, setCode_eq hF h hN ht, Option.bind_some, if_true, cover_impl hF h hN]
theorem isSafe_eq {N : Nat} {F : Fe} (hF : InF F) (h : OkF F) (hN : 40 < N) {t : Int} (ht : bAndNot .u16 t (allF F) = 0) : impl_IsSafe.f N F t = some (safe F.f_Rules t, 0) := by
  simp only [impl_IsSafe.f, F_eta, setCode_eq hF h hN ht, Option.bind_some, if_true, safe_impl h.len hN]
end Go.Proofs.YtcaokmnajnfpiaaX

/- Ferries, plainly: a ferry without a thing; how many sets are safe. -/
namespace Go.Proofs.YtcaokmnajnfpiaaX
open Go
set_option linter.unusedVariables false
set_option linter.unusedSimpArgs false
/-- A set without a thing. -/
def low (x : Nat) : Int := u16w ((shlI .u16 1 (x : Int)) - 1)
def phi (x : Nat) (s : Int) : Int := bOr .u16 (bAnd .u16 s (low x)) (bAndNot .u16 (shrI .u16 s 1) (low x))
theorem phi_tab : ∀ x : Nat, x < 5 → ∀ s : Nat, s < 32 → (0 ≤ phi x s ∧ phi x s ≤ 31 ∧ cnt (phi x s) ≤ cnt s ∧ (bit (s : Int) x = false → cnt (phi x s) = cnt s) ∧
    (∀ j : Nat, j < 16 → bit (phi x s) j = if j < x then bit (s : Int) j else bit (s : Int) (j + 1)) ∧
    (bit (s : Int) x = false → bOr .u16 (bAnd .u16 (s : Int) (low x)) (shrI .u16 (bAndNot .u16 (s : Int) (bAnd .u16 (s : Int) (low x))) 1) = phi x s) ∧
    decide (bAnd .u16 (shrI .u16 (s : Int) (x : Int)) 1 = 0) = !bit (s : Int) x ∧ decide ((shrI .u16 (s : Int) (x : Int)).tmod 2 = 0) = !bit (s : Int) x) := by decide +kernel
theorem phi_at {x : Nat} (hx : x < 5) {s : Int} (hs : 0 ≤ s ∧ s ≤ 31) : 0 ≤ phi x s ∧ phi x s ≤ 31 ∧ cnt (phi x s) ≤ cnt s ∧ (bit s x = false → cnt (phi x s) = cnt s) ∧
    (∀ j : Nat, j < 16 → bit (phi x s) j = if j < x then bit s j else bit s (j + 1)) ∧
    (bit s x = false → bOr .u16 (bAnd .u16 s (low x)) (shrI .u16 (bAndNot .u16 s (bAnd .u16 s (low x))) 1) = phi x s) ∧
    decide (bAnd .u16 (shrI .u16 s (x : Int)) 1 = 0) = !bit s x ∧ decide ((shrI .u16 s (x : Int)).tmod 2 = 0) = !bit s x := by
  have := phi_tab x hx s.toNat (by omega)
  rwa [Int.toNat_of_nonneg hs.1] at this
def rulesW (x : Nat) (R : List Int) : List Int := (R.filter fun r => !bit r x).map (phi x)
theorem rulesW_cons (x : Nat) (r : Int) (R : List Int) : rulesW x (R ++ [r]) = if bit r x = true then rulesW x R else rulesW x R ++ [phi x r] := by
  unfold rulesW
  rw [List.filter_append, List.map_append]
  cases h : bit r x <;> simp [h]
theorem all_small {F : Fe} (h : T8 F) (h5 : F.f_Things ≤ 5) : allF F ≤ 31 := by
  unfold T8 at h
  have tab : ∀ t : Nat, t < 6 → (2 : Int) ^ t - 1 ≤ 31 := by decide +kernel
  exact tab F.f_Things.toNat (by omega)
section
variable {F G : Fe} {x : Nat}
/-- Where all can be brought over, all but one can be, with the same boat. -/
theorem phi_bits (hx : x < 5) {s : Int} (hs : 0 ≤ s ∧ s ≤ 31) {j : Nat} (hj : j < 16) : bit (phi x s) j = if j < x then bit s j else bit s (j + 1) := (phi_at hx hs).2.2.2.2.1 j hj
theorem without_ok (hF : InF F) (h : OkF F) (h2 : 2 ≤ F.f_Things) (h5 : F.f_Things ≤ 5) (hx : x < 5) (hxT : (x : Int) < F.f_Things) (gT : G.f_Things = F.f_Things - 1) (gR : G.f_Rules = rulesW x F.f_Rules) (gB : 0 ≤ G.f_Boat ∧ G.f_Boat ≤ F.f_Things - 1) : InF G ∧ OkF G := by
  have hall := all_small h.t8 h5
  have hall1 := all_range h.t8
  have hG8 : T8 G := by unfold T8; omega
  have hGall := all_range hG8
  have hr : ∀ r ∈ G.f_Rules, ∃ q ∈ F.f_Rules, bit q x = false ∧ r = phi x q ∧ 0 ≤ q ∧ q ≤ 31 := by
    intro r hr
    rw [gR] at hr
    unfold rulesW at hr
    obtain ⟨q, hq, rfl⟩ := List.mem_map.1 hr
    rw [List.mem_filter] at hq
    have hq0 := hF.2.2 q hq.1
    have := andNot_le hq0 (y := allF F) ⟨by omega, by omega⟩ ((sub_iff hq0).2 (rule_bits hF h hq.1))
    exact ⟨q, hq.1, by simpa using hq.2, rfl, hq0.1, by omega⟩
  refine ⟨⟨by omega, by omega, fun r hr' => ?_⟩, hG8, ⟨gB.1, by omega⟩, ?_, ?_⟩
  · obtain ⟨q, _, _, rfl, q0, q1⟩ := hr r hr'
    have := phi_at hx ⟨q0, q1⟩
    omega
  · rw [gR]
    unfold rulesW
    rw [List.length_map]
    exact Nat.le_trans (List.length_filter_le _ _) h.len
  · rw [List.any_eq_false]
    intro r hr'
    obtain ⟨q, hq, hb, rfl, q0, q1⟩ := hr r hr'
    obtain ⟨p1, p2, p3, p4, p5, _⟩ := phi_at hx ⟨q0, q1⟩
    have hbad := h.rules
    rw [List.any_eq_false] at hbad
    have := hbad q hq
    unfold bad at this ⊢
    simp only [Bool.or_eq_true, Bool.not_eq_true', decide_eq_true_eq, not_or, beq_eq_false_iff_ne, ne_eq, Decidable.not_not] at this ⊢
    refine ⟨(sub_iff ⟨p1, by omega⟩).2 fun j hj hjb => ?_, by rw [p4 hb]; exact this.2⟩
    rw [p5 j hj] at hjb
    rw [all_bits hG8 hj, decide_eq_true_eq, gT]
    split at hjb
    · next c => 
      have := rule_bits hF h hq j hj hjb
      omega
    · have hj15 : j + 1 < 16 := by
        have := bit8 (x := phi x q) ⟨p1, by omega⟩ hj (by rw [p5 j hj]; rwa [if_neg (by assumption)])
        omega
      have := rule_bits hF h hq (j + 1) hj15 hjb
      rw [all_bits h.t8 hj15, decide_eq_true_eq] at this
      omega
theorem phi_all (h : OkF F) (h2 : 2 ≤ F.f_Things) (h5 : F.f_Things ≤ 5) (hx : x < 5) (hxT : (x : Int) < F.f_Things) (gT : G.f_Things = F.f_Things - 1) : phi x (allF F) = allF G := by
  have hall := all_small h.t8 h5
  have hall1 := all_range h.t8
  have hG8 : T8 G := by unfold T8; omega
  have hGall := all_range hG8
  obtain ⟨p1, p2, _⟩ := phi_at hx (s := allF F) ⟨by omega, hall⟩
  refine bit_ext ⟨p1, by omega⟩ ⟨by omega, by omega⟩ fun j hj => ?_
  rw [phi_bits hx ⟨by omega, hall⟩ hj, all_bits hG8 hj]
  by_cases c : j < x
  · rw [if_pos c, all_bits h.t8 hj]
    apply decide_eq_decide.2; omega
  · rw [if_neg c]
    by_cases c2 : j + 1 < 16
    · rw [all_bits h.t8 c2]; apply decide_eq_decide.2; omega
    · have : j = 15 := by omega
      subst this
      have e : bit (allF F) 16 = false := by unfold bit; simp
      rw [e]
      exact (decide_eq_false (by omega)).symm
theorem bit_over (s : Int) {j : Nat} (hj : 16 ≤ j) : bit s j = false := by unfold bit; simp [hj]
theorem phi_bits' (hx : x < 5) {s : Int} (hs : 0 ≤ s ∧ s ≤ 31) {j : Nat} (hj : j < 15) : bit (phi x s) j = if j < x then bit s j else bit s (j + 1) := phi_bits hx hs (by omega)
theorem phi_15 (hx : x < 5) {s : Int} (hs : 0 ≤ s ∧ s ≤ 31) : bit (phi x s) 15 = false := by
  rw [phi_bits hx hs (by decide), if_neg (by omega), bit_over _ (by decide)]
theorem phi_xor (hx : x < 5) {s t : Int} (hs : 0 ≤ s ∧ s ≤ 31) (ht : 0 ≤ t ∧ t ≤ 31) (hst : 0 ≤ bXor .u16 s t ∧ bXor .u16 s t ≤ 31) : phi x (bXor .u16 s t) = bXor .u16 (phi x s) (phi x t) := by
  obtain ⟨p1, p2, _⟩ := phi_at hx hst
  refine bit_ext ⟨p1, by omega⟩ (xor_range _ _) fun j hj => ?_
  rw [bit_xor, phi_bits hx hs hj, phi_bits hx ht hj, phi_bits hx hst hj]
  by_cases c : j < x
  · rw [if_pos c, if_pos c, if_pos c, bit_xor]
  · rw [if_neg c, if_neg c, if_neg c, bit_xor]
theorem phi_andNot (hx : x < 5) {s t : Int} (hs : 0 ≤ s ∧ s ≤ 31) (ht : 0 ≤ t ∧ t ≤ 31) : phi x (bAndNot .u16 s t) = bAndNot .u16 (phi x s) (phi x t) := by
  have hr := andNot_range (x := s) (y := t) ⟨hs.1, by omega⟩
  have hst : 0 ≤ bAndNot .u16 s t ∧ bAndNot .u16 s t ≤ 31 := ⟨hr.1, by omega⟩
  obtain ⟨p1, p2, _⟩ := phi_at hx hst
  obtain ⟨s1, s2, _⟩ := phi_at hx hs
  have hr2 := andNot_range (x := phi x s) (y := phi x t) ⟨s1, by omega⟩
  refine bit_ext ⟨p1, by omega⟩ ⟨hr2.1, by omega⟩ fun j hj => ?_
  rw [bit_andNot _ _ hj, phi_bits hx hs hj, phi_bits hx ht hj, phi_bits hx hst hj]
  by_cases c : j < x
  · rw [if_pos c, if_pos c, if_pos c, bit_andNot _ _ hj]
  · rw [if_neg c, if_neg c, if_neg c]
    by_cases c2 : j + 1 < 16
    · rw [bit_andNot _ _ c2]
    · rw [bit_over _ (by omega), bit_over _ (by omega)]; rfl
theorem phi_sub (hx : x < 5) {s t : Int} (hs : 0 ≤ s ∧ s ≤ 31) (ht : 0 ≤ t ∧ t ≤ 31) (hst : bAndNot .u16 s t = 0) : bAndNot .u16 (phi x s) (phi x t) = 0 := by
  rw [← phi_andNot hx hs ht, hst]
  have : ∀ x : Nat, x < 5 → phi x 0 = 0 := by decide +kernel
  exact this x hx
theorem safe_phi (hF : InF F) (h : OkF F) (hall : allF F ≤ 31) (hx : x < 5) (gR : G.f_Rules = rulesW x F.f_Rules) {s : Int} (hs : 0 ≤ s ∧ s ≤ 31) (hg : InF G) (hsafe : safe F.f_Rules s = true) : safe G.f_Rules (phi x s) = true := by
  have hall1 := all_range h.t8
  rw [safe_iff hF.2.2] at hsafe
  rw [safe_iff hg.2.2]
  intro r hr hc
  rw [gR] at hr
  unfold rulesW at hr
  obtain ⟨q, hq, rfl⟩ := List.mem_map.1 hr
  rw [List.mem_filter] at hq
  have hqx : bit q x = false := by simpa using hq.2
  have hq0 := hF.2.2 q hq.1
  have hq31 := andNot_le hq0 (y := allF F) ⟨by omega, by omega⟩ ((sub_iff hq0).2 (rule_bits hF h hq.1))
  have hq' : 0 ≤ q ∧ q ≤ 31 := ⟨hq0.1, by omega⟩
  refine hsafe q hq.1 fun j hj hjb => ?_
  by_cases c : j < x
  · have := hc j hj (by rw [phi_bits hx hq' hj, if_pos c]; exact hjb)
    rwa [phi_bits hx hs hj, if_pos c] at this
  · by_cases e : j = x
    · subst e; rw [hqx] at hjb; cases hjb
    · obtain ⟨k, rfl⟩ : ∃ k, j = k + 1 := ⟨j - 1, by omega⟩
      have := hc k (by omega) (by rw [phi_bits hx hq' (by omega), if_neg (by omega)]; exact hjb)
      rwa [phi_bits hx hs (by omega), if_neg (by omega)] at this
theorem sim (hF : InF F) (h : OkF F) (h2 : 2 ≤ F.f_Things) (h5 : F.f_Things ≤ 5) (hx : x < 5) (hxT : (x : Int) < F.f_Things) (gT : G.f_Things = F.f_Things - 1) (gR : G.f_Rules = rulesW x F.f_Rules) (gB : G.f_Boat = F.f_Boat) (hB : F.f_Boat ≤ F.f_Things - 1) {b : Bk} (hb : Rch F b) : Rch G ⟨phi x b.f_Near, b.f_Far⟩ := by
  have hall := all_small h.t8 h5
  have hall1 := all_range h.t8
  obtain ⟨hgI, hg⟩ := without_ok hF h h2 h5 hx hxT gT gR ⟨by rw [gB]; exact h.boat.1, by rw [gB]; exact hB⟩
  have hGall := all_range hg.t8
  have hpa := phi_all (G := G) h h2 h5 hx hxT gT
  induction hb with
  | start =>
    show Rch G ⟨phi x (allF F), false⟩
    rw [hpa]
    exact .start
  | @step b l hb hl ih =>
    have hbn := hb.near h
    have hcn := (Rch.step hb hl).near h
    unfold nearOk at hbn hcn
    obtain ⟨hc, l0, l1⟩ := of_loads h hl
    obtain ⟨c1, c2, c3⟩ := code_zero.1 hc
    have hl' : 0 ≤ l ∧ l ≤ 31 := ⟨l0, by omega⟩
    have hbn' : 0 ≤ b.f_Near ∧ b.f_Near ≤ 31 := ⟨hbn.1, by omega⟩
    have hcn' : 0 ≤ bXor .u16 b.f_Near l ∧ bXor .u16 b.f_Near l ≤ 31 := ⟨hcn.1, by have := hcn.2; show (crossedB b l).f_Near ≤ 31; omega⟩
    have e : (⟨phi x (crossedB b l).f_Near, (crossedB b l).f_Far⟩ : Bk) = crossedB ⟨phi x b.f_Near, b.f_Far⟩ (phi x l) := by
      show (⟨phi x (bXor .u16 b.f_Near l), !b.f_Far⟩ : Bk) = ⟨bXor .u16 (phi x b.f_Near) (phi x l), !b.f_Far⟩
      rw [phi_xor hx hbn' hl' hcn']
    obtain ⟨p1, p2, p3, _⟩ := phi_at hx hl'
    have hpl : bAndNot .u16 (phi x l) (allF G) = 0 := by
      rw [← hpa]
      exact phi_sub hx hl' ⟨by omega, hall⟩ ((sub_iff ⟨l0, by omega⟩).2 (sub_all h l0 l1))
    rw [e]
    refine .step ih (mem_loads hg p1 (andNot_le ⟨p1, by omega⟩ ⟨by omega, by omega⟩ hpl) (code_zero.2 ⟨?_, by rw [gB]; omega, ?_⟩))
    · show bAndNot .u16 (phi x l) (here G ⟨phi x b.f_Near, b.f_Far⟩) = 0
      unfold here at c1 ⊢
      cases hf : b.f_Far with
      | true =>
        rw [hf] at c1
        rw [if_pos rfl] at c1
        dsimp only
        rw [if_pos rfl, ← hpa, ← phi_andNot hx ⟨by omega, hall⟩ hbn']
        have := andNot_range (x := allF F) (y := b.f_Near) ⟨by omega, by omega⟩
        exact phi_sub hx hl' ⟨this.1, by omega⟩ c1
      | false =>
        rw [hf] at c1
        rw [if_neg Bool.false_ne_true] at c1
        dsimp only
        rw [if_neg Bool.false_ne_true]
        exact phi_sub hx hl' hbn' c1
    · rw [← e]
      have hcs : bAndNot .u16 (phi x (crossedB b l).f_Near) (allF G) = 0 := by
        rw [← hpa]
        exact phi_sub hx hcn' ⟨by omega, hall⟩ ((sub_iff ⟨hcn.1, by have := hcn.2; omega⟩).2 (sub_all h hcn.1 hcn.2))
      unfold bankF at c3 ⊢
      rw [Bool.and_eq_true] at c3 ⊢
      refine ⟨by dsimp only; rw [hcs]; rfl, ?_⟩
      have c4 := c3.2
      unfold alone at c4 ⊢
      have hff : (crossedB b l).f_Far = !b.f_Far := rfl
      rw [hff] at c4 ⊢
      cases hf : b.f_Far with
      | true =>
        rw [hf] at c4
        simp only [Bool.not_true, Bool.false_eq_true, if_false] at c4 ⊢
        rw [← hpa, ← phi_andNot (t := (crossedB b l).f_Near) hx ⟨by omega, hall⟩ hcn']
        have := andNot_range (x := allF F) (y := (crossedB b l).f_Near) ⟨by omega, by omega⟩
        exact safe_phi hF h hall hx gR ⟨this.1, by omega⟩ hgI c4
      | false =>
        rw [hf] at c4
        simp only [Bool.not_false, if_true] at c4 ⊢
        exact safe_phi hF h hall hx gR hcn' hgI c4
end
/-- How many of the first n sets are safe. -/
def cntTo (f : Nat → Bool) : Nat → Nat
  | 0 => 0
  | n + 1 => cntTo f n + (if f n = true then 1 else 0)
theorem cntTo_le (f : Nat → Bool) : ∀ n, cntTo f n ≤ n
  | 0 => Nat.le_refl _
  | n + 1 => by
    have := cntTo_le f n
    simp only [cntTo]
    split <;> omega
theorem cntTo_first (f : Nat → Bool) : ∀ n, cntTo f (n + 1) = (if f 0 = true then 1 else 0) + cntTo (fun i => f (i + 1)) n
  | 0 => by simp [cntTo]
  | n + 1 => by
    have := cntTo_first f n
    rw [cntTo, this]
    simp only [cntTo]
    omega
theorem cntTo_congr {f g : Nat → Bool} : ∀ n, (∀ i, i < n → f i = g i) → cntTo f n = cntTo g n
  | 0, _ => rfl
  | n + 1, h => by rw [cntTo, cntTo, cntTo_congr n fun i hi => h i (by omega), h n (by omega)]
theorem cntTo_rev (f : Nat → Bool) : ∀ n, cntTo (fun i => f (n - 1 - i)) n = cntTo f n
  | 0 => rfl
  | n + 1 => by
    rw [cntTo_first, cntTo]
    have := cntTo_rev f n
    rw [cntTo_congr (g := fun i => f (n - 1 - i)) n fun i hi => by
      show f (n + 1 - 1 - (i + 1)) = f (n - 1 - i)
      rw [show n + 1 - 1 - (i + 1) = n - 1 - i by omega]]
    rw [this, show n + 1 - 1 - 0 = n by omega]
    omega
theorem rest_tab : ∀ t : Nat, t < 9 → ∀ s : Nat, s < 256 → s < 2 ^ t → bAndNot .u16 ((2 : Int) ^ t - 1) (s : Int) = (2 : Int) ^ t - 1 - (s : Int) := by decide +kernel
theorem rest_eq {F : Fe} (h : OkF F) {s : Int} (h0 : 0 ≤ s) (h1 : s ≤ allF F) : bAndNot .u16 (allF F) s = allF F - s := by
  have ht := h.t8
  unfold T8 at ht
  have hall := all_range h.t8
  have e : ((2 ^ F.f_Things.toNat : Nat) : Int) = allF F + 1 := by
    unfold allF; rw [Int.natCast_pow]; simp
  have := rest_tab F.f_Things.toNat (by omega) s.toNat (by omega) (by omega)
  rwa [Int.toNat_of_nonneg h0] at this
def safeN (F : Fe) (i : Nat) : Bool := safe F.f_Rules (i : Int)
theorem safeSets_eq {N : Nat} {F : Fe} (hF : InF F) (h : OkF F) (hN : 2000 < N) : impl_SafeSets.f N F = some ((cntTo (safeN F) ((allF F).toNat + 1) : Int), 0) := by
  have hall := all_range h.t8
  have hk : okF F = true := okF_iff.2 h
  have q := rounds_for (b := fun s => impl_SafeSets.b0 N (allF F) F s.1 s.2) (e := .go (cntTo (safeN F) ((allF F).toNat + 1) : Int)) (fun k => ((cntTo (safeN F) k : Int), (k : Int))) ((allF F).toNat + 1) 0 N (by omega) (by omega) (by
    intro i _ hi
    have hw : u16w ((i : Int) + 1) = ((i + 1 : Nat) : Int) := by rw [u16w_id (by omega) (by omega)]; omega
    have hw1 : u16w (allF F + 1) = allF F + 1 := u16w_id (by omega) (by omega)
    have hle := cntTo_le (safeN F) i
    simp only [impl_SafeSets.b0, hw1, F_eta, safe_impl h.len (show 40 < N by omega), Option.bind_some, impl_SafeSets.j2, hw, cntTo]
    rw [if_pos (by omega)]
    by_cases c : safe F.f_Rules (i : Int) = true
    · have c' : safeN F i = true := c
      rw [if_pos c, if_pos c', i64w_id (by omega) (by omega)]; rfl
    · have c' : ¬ safeN F i = true := c
      rw [if_neg c, if_neg c']; rfl) (by
    have hw1 : u16w (allF F + 1) = allF F + 1 := u16w_id (by omega) (by omega)
    simp only [impl_SafeSets.b0, hw1]
    rw [if_neg (by omega)])
  have q' : rounds (fun s => impl_SafeSets.b0 N (allF F) F s.1 s.2) N (0, 0) = some (.go (cntTo (safeN F) ((allF F).toNat + 1) : Int)) := q
  simp only [impl_SafeSets.f, F_eta, okF_impl hF (show 40 < N by omega), hk, if_true, Option.bind_some, impl_all N h.t8, q', Ex.fin, impl_SafeSets.a0]
end Go.Proofs.YtcaokmnajnfpiaaX

/- Ferries, plainly: the ferry that is drawn from bytes; a ferry without a thing, alike in both; texts of sets. -/
namespace Go.Proofs.YtcaokmnajnfpiaaX
open Go
set_option linter.unusedVariables false
set_option linter.unusedSimpArgs false
abbrev Src := S_spec_l00Src
theorem and_255 (x : Int) : 0 ≤ bAnd .u64 x 255 ∧ bAnd .u64 x 255 ≤ 255 := by
  have h : (BitVec.ofInt IntKind.u64.bits x &&& BitVec.ofInt IntKind.u64.bits 255).toNat ≤ 255 := by
    show (BitVec.ofInt 64 x &&& BitVec.ofInt 64 255).toNat ≤ 255
    rw [BitVec.toNat_and]
    have : (BitVec.ofInt 64 255).toNat = 255 := by decide
    rw [this]
    exact Nat.and_le_right
  have e : bAnd .u64 x 255 = ((BitVec.ofInt IntKind.u64.bits x &&& BitVec.ofInt IntKind.u64.bits 255).toNat : Int) := u64w_id (by omega) (by omega)
  omega
/-- A source that may be read on. -/
def SrcOk (s : Src) (b : Int) : Prop := (∀ x ∈ s.f_code, 0 ≤ x ∧ x ≤ 255) ∧ 0 ≤ s.f_at ∧ s.f_at ≤ b ∧ b ≤ 1000000 ∧ s.f_code.length ≤ 1000000
theorem next_ok {N : Nat} {s : Src} {b : Int} (h : SrcOk s b) : ∃ x a d, _spec_l00Src_next.f N s = some (x, ⟨s.f_code, a, d⟩) ∧ 0 ≤ x ∧ x ≤ 255 ∧ a = s.f_at + 1 := by
  obtain ⟨hc, h0, h1, h2, h3⟩ := h
  have e1 : i64w (s.f_at + 1) = s.f_at + 1 := i64w_id (by omega) (by omega)
  have main : ∀ x, 0 ≤ x → x ≤ 255 → ∃ y a d, _spec_l00Src_next.j0 N s x = some (y, ⟨s.f_code, a, d⟩) ∧ 0 ≤ y ∧ y ≤ 255 ∧ a = s.f_at + 1 := by
    intro x x0 x1
    unfold _spec_l00Src_next.j0
    rw [e1]
    by_cases c : s.f_at + 1 ≤ (s.f_code.length : Int)
    · rw [if_pos c]
      exact ⟨_, _, _, rfl, x0, x1, rfl⟩
    · rw [if_neg c]
      have q := and_255 (shrI .u64 (u64w ((u64w ((u64w (s.f_seed * 6364136223846793005)) + (u64w x))) + 1442695040888963407)) 40)
      exact ⟨_, _, _, rfl, by rw [i64w_id (by omega) (by omega)]; exact q.1, by rw [i64w_id (by omega) (by omega)]; exact q.2, rfl⟩
  unfold _spec_l00Src_next.f
  by_cases c : s.f_at < (s.f_code.length : Int)
  · rw [if_pos c, if_pos ⟨h0, c⟩]
    have hm := hc (rdL s.f_code s.f_at 0) (by
      obtain ⟨i, hi⟩ := Int.eq_ofNat_of_zero_le h0
      rw [hi] at c ⊢
      rw [rdL_nat (by omega)]
      exact List.getElem_mem _)
    exact main _ (by rw [i64w_id (by omega) (by omega)]; exact hm.1) (by rw [i64w_id (by omega) (by omega)]; exact hm.2)
  · rw [if_neg c]
    exact main 0 (by decide) (by decide)
theorem pick_ok {N : Nat} {s : Src} {b n : Int} (h : SrcOk s b) (hn : 2 ≤ n ∧ n ≤ 200) : ∃ x a d, _spec_l00Src_pick.f N s n = some (x, ⟨s.f_code, a, d⟩) ∧ 0 ≤ x ∧ x < n ∧ a = s.f_at + 1 := by
  obtain ⟨x, a, d, e, x0, x1, ha⟩ := next_ok (N := N) h
  have e' : _spec_l00Src_next.f N (⟨s.f_code, s.f_at, s.f_seed⟩ : Src) = some (x, ⟨s.f_code, a, d⟩) := e
  refine ⟨x.tmod n, a, d, ?_, Int.tmod_nonneg _ x0, Int.tmod_lt_of_pos _ (by omega), ha⟩
  simp only [_spec_l00Src_pick.f, if_neg (show ¬ n ≤ 1 by omega), e', Option.bind_some, if_neg (show ¬ n > 200 by omega), if_pos (show ¬ n = 0 by omega)]
theorem SrcOk.next {s : Src} {b : Int} (h : SrcOk s b) (hb : b < 1000000) {a d : Int} (ha : a = s.f_at + 1) : SrcOk ⟨s.f_code, a, d⟩ (b + 1) := by
  obtain ⟨h1, h2, h3, h4, h5⟩ := h
  exact ⟨h1, by dsimp only; omega, by dsimp only; omega, by omega, h5⟩

theorem pick_any {N : Nat} {s : Src} {b n : Int} (h : SrcOk s b) (hb : b < 1000000) (hn : 1 ≤ n ∧ n ≤ 200) : ∃ x a d, _spec_l00Src_pick.f N s n = some (x, ⟨s.f_code, a, d⟩) ∧ 0 ≤ x ∧ x < n ∧ SrcOk ⟨s.f_code, a, d⟩ (b + 1) := by
  by_cases c : n = 1
  · subst c
    refine ⟨0, s.f_at, s.f_seed, ?_, Int.le_refl _, by decide, ?_⟩
    · simp only [_spec_l00Src_pick.f]; rfl
    · obtain ⟨h1, h2, h3, h4, h5⟩ := h
      exact ⟨h1, h2, by dsimp only; omega, by omega, h5⟩
  · obtain ⟨x, a, d, e, h1, h2, h3⟩ := pick_ok (N := N) h (n := n) (by omega)
    exact ⟨x, a, d, e, h1, h2, h.next hb h3⟩
def good (t : Nat) (r : Int) : Prop := 0 ≤ r ∧ r ≤ (2 : Int) ^ t - 1 ∧ 2 ≤ cnt r ∧ bAndNot .u16 r ((2 : Int) ^ t - 1) = 0
instance (t : Nat) (r : Int) : Decidable (good t r) := by unfold good; infer_instance
def rule2 (t a p : Nat) : Int := bOr .u16 (shlI .u16 1 (u64w a)) (shlI .u16 1 (u64w ((i64w ((i64w ((a : Int) + 1)) + (p : Int))).tmod (i64w (t : Int)))))
def ruleOk (t a p : Nat) : Bool := decide ((0 : Int) ≤ u64w a) && (decide ((0 : Int) ≤ (u64w ((i64w ((i64w ((a : Int) + 1)) + (p : Int))).tmod (i64w (t : Int))))) && (decide (good t (rule2 t a p)) && (List.range t).all fun c => decide ((0 : Int) ≤ u64w c) && decide (good t (bOr .u16 (rule2 t a p) (shlI .u16 1 (u64w c))))))
theorem rule_all : ∀ t : Nat, t < 6 → 2 ≤ t → ∀ a : Nat, a < t → ∀ p : Nat, p < t - 1 → ruleOk t a p = true := by decide +kernel
theorem rule_tab (t : Nat) (ht : t < 6) (h2 : 2 ≤ t) (a : Nat) (ha : a < t) (p : Nat) (hp : p < t - 1) : (0 : Int) ≤ u64w a ∧ (0 : Int) ≤ (u64w ((i64w ((i64w ((a : Int) + 1)) + (p : Int))).tmod (i64w (t : Int)))) ∧
    good t (bOr .u16 (shlI .u16 1 (u64w a)) (shlI .u16 1 (u64w ((i64w ((i64w ((a : Int) + 1)) + (p : Int))).tmod (i64w (t : Int)))))) ∧
    ∀ c : Nat, c < t → (0 : Int) ≤ u64w c ∧ good t (bOr .u16 (bOr .u16 (shlI .u16 1 (u64w a)) (shlI .u16 1 (u64w ((i64w ((i64w ((a : Int) + 1)) + (p : Int))).tmod (i64w (t : Int)))))) (shlI .u16 1 (u64w c))) := by
  have := rule_all t ht h2 a ha p hp
  unfold ruleOk at this
  simp only [Bool.and_eq_true, decide_eq_true_eq, List.all_eq_true, List.mem_range] at this
  exact ⟨this.1, this.2.1, this.2.2.1, this.2.2.2⟩
def zeroS (code : List Int) : Src := ⟨code, 0, 0⟩
/-- The ferry that is drawn. -/
structure Drawn (F : Fe) : Prop where
  t : 2 ≤ F.f_Things ∧ F.f_Things ≤ 5
  boat : 0 ≤ F.f_Boat ∧ F.f_Boat < F.f_Things
  len : F.f_Rules.length ≤ 4
  rules : ∀ r ∈ F.f_Rules, good F.f_Things.toNat r
theorem drawnF {N : Nat} {code : List Int} (hc : ∀ x ∈ code, 0 ≤ x ∧ x ≤ 255) (hl : code.length ≤ 1000000) (hN : 100 < N) : ∃ F, spec_A2Ferry.f N code = some F ∧ Drawn F := by
  have h0 : SrcOk (zeroS code) 0 := ⟨hc, Int.le_refl _, Int.le_refl _, by decide, hl⟩
  have main : ∃ F s, spec_l05Drawn.f N (zeroS code) = some (F, s) ∧ Drawn F := by
    obtain ⟨x1, a1, d1, e1, r1, q1, h1⟩ := pick_any (N := N) h0 (by decide) (n := 4) (by decide)
    have e1' : _spec_l00Src_pick.f N (⟨(zeroS code).f_code, (zeroS code).f_at, (zeroS code).f_seed⟩ : Src) 4 = some (x1, ⟨code, a1, d1⟩) := e1
    have w1 : i8w (2 + x1) = 2 + x1 := i8w_id (by omega) (by omega)
    have w2 : i64w (2 + x1) = 2 + x1 := i64w_id (by omega) (by omega)
    obtain ⟨x2, a2, d2, e2, r2, q2, h2⟩ := pick_any (N := N) h1 (by decide) (n := 2 + x1) ⟨by omega, by omega⟩
    have e2' : _spec_l00Src_pick.f N (⟨(zeroS code).f_code, a1, d1⟩ : Src) (2 + x1) = some (x2, ⟨code, a2, d2⟩) := e2
    obtain ⟨x3, a3, d3, e3, r3, q3, h3⟩ := pick_any (N := N) h2 (by decide) (n := 5) (by decide)
    have e3' : _spec_l00Src_pick.f N (⟨(zeroS code).f_code, a2, d2⟩ : Src) 5 = some (x3, ⟨code, a3, d3⟩) := e3
    have w3 : i8w x2 = x2 := i8w_id (by omega) (by omega)
    simp only [spec_l05Drawn.f, e1', Option.bind_some, w1, w2, e2', e3', w3]
    obtain ⟨T, hT⟩ : ∃ T : Nat, (T : Int) = 2 + x1 := ⟨(2 + x1).toNat, by omega⟩
    rw [← hT]
    have hTr : T < 6 ∧ 2 ≤ T := by omega
    have wT : i64w (T : Int) = (T : Int) := i64w_id (by omega) (by omega)
    have wT1 : i64w ((T : Int) - 1) = (T : Int) - 1 := i64w_id (by omega) (by omega)
    obtain ⟨e, he, rs, a, d, rfl, hw1, hw2⟩ := rounds_ends (b := fun s => spec_l05Drawn.b0 N (zeroS code) s.1 s.2.1 s.2.2.1 s.2.2.2.1 s.2.2.2.2.1 s.2.2.2.2.2)
      (fun s => SrcOk ⟨code, s.1, s.2.1⟩ (10 + 5 * s.2.2.2.2.1.length) ∧ s.2.2.1 = (T : Int) ∧ s.2.2.2.1 = x2 ∧ 0 ≤ s.2.2.2.2.2 ∧ (s.2.2.2.2.1.length : Int) + s.2.2.2.2.2 ≤ 4 ∧ ∀ r ∈ s.2.2.2.2.1, good T r)
      (fun s => s.2.2.2.2.2.toNat) (fun e => ∃ rs a d, e = .go ((T : Int), x2, rs, a, d) ∧ rs.length ≤ 4 ∧ ∀ r ∈ rs, good T r) (by
      rintro ⟨a, d, t, b, l, k⟩ ⟨i1, i2, i3, i4, i5, i6⟩
      simp only at i1 i2 i3 i4 i5 i6
      subst i2 i3
      by_cases ck : k > 0
      · right
        obtain ⟨y1, b1, f1, ey1, y10, y11, s1⟩ := pick_any (N := N) i1 (by omega) (n := (T : Int)) ⟨by omega, by omega⟩
        have ey1' : _spec_l00Src_pick.f N (⟨(zeroS code).f_code, a, d⟩ : Src) (T : Int) = some (y1, ⟨code, b1, f1⟩) := ey1
        obtain ⟨y2, b2, f2, ey2, y20, y21, s2⟩ := pick_any (N := N) s1 (by omega) (n := (T : Int) - 1) ⟨by omega, by omega⟩
        have ey2' : _spec_l00Src_pick.f N (⟨(zeroS code).f_code, b1, f1⟩ : Src) ((T : Int) - 1) = some (y2, ⟨code, b2, f2⟩) := ey2
        obtain ⟨y3, b3, f3, ey3, y30, y31, s3⟩ := pick_any (N := N) s2 (by omega) (n := 5) (by decide)
        have ey3' : _spec_l00Src_pick.f N (⟨(zeroS code).f_code, b2, f2⟩ : Src) 5 = some (y3, ⟨code, b3, f3⟩) := ey3
        have ey3'' : _spec_l00Src_one.f N (⟨(zeroS code).f_code, b2, f2⟩ : Src) 5 = some (y3 == 0, ⟨code, b3, f3⟩) := by
          simp only [_spec_l00Src_one.f, ey3', Option.bind_some]; rfl
        obtain ⟨Y1, rfl⟩ := Int.eq_ofNat_of_zero_le y10
        obtain ⟨Y2, rfl⟩ := Int.eq_ofNat_of_zero_le y20
        obtain ⟨g1, g2, g3, g4⟩ := rule_tab T hTr.1 hTr.2 Y1 (by omega) Y2 (by omega)
        have wk : i64w (k - 1) = k - 1 := i64w_id (by omega) (by omega)
        have fin : ∀ (a' d' r : Int), SrcOk ⟨code, a', d'⟩ (10 + 5 * l.length + 4) → good T r → ∃ s', spec_l05Drawn.j2 N l (T : Int) b k a' d' r = some (.next s') ∧ (SrcOk ⟨code, s'.1, s'.2.1⟩ (10 + 5 * s'.2.2.2.2.1.length) ∧ s'.2.2.1 = (T : Int) ∧ s'.2.2.2.1 = b ∧ 0 ≤ s'.2.2.2.2.2 ∧ (s'.2.2.2.2.1.length : Int) + s'.2.2.2.2.2 ≤ 4 ∧ ∀ r ∈ s'.2.2.2.2.1, good T r) ∧ s'.2.2.2.2.2.toNat < k.toNat := by
          intro a' d' r hs hr
          simp only [spec_l05Drawn.j2, List.length_singleton, if_pos (show l.length + 1 ≤ 70368744177664 by omega), wk]
          refine ⟨_, rfl, ⟨?_, rfl, rfl, by dsimp only; omega, by dsimp only; rw [List.length_append, List.length_singleton]; omega, ?_⟩, by dsimp only; omega⟩
          · dsimp only
            rw [List.length_append, List.length_singleton]
            obtain ⟨z1, z2, z3, z4, z5⟩ := hs
            exact ⟨z1, z2, by omega, by omega, z5⟩
          · dsimp only
            intro p hp
            rcases List.mem_append.1 hp with hp | hp
            · exact i6 p hp
            · rw [List.mem_singleton] at hp; subst hp; exact hr
        simp only [spec_l05Drawn.b0, if_pos ck, wT, wT1, ey1', ey2', Option.bind_some, if_pos (show ¬ (T : Int) = 0 by omega)]
        rw [wT] at g2 g3 g4
        simp only [if_pos g1, if_pos g2, ey3'', Option.bind_some]
        by_cases c0 : (y3 == 0) = true
        · obtain ⟨y4, b4, f4, ey4, y40, y41, s4⟩ := pick_any (N := N) s3 (by omega) (n := (T : Int)) ⟨by omega, by omega⟩
          have ey4' : _spec_l00Src_pick.f N (⟨(zeroS code).f_code, b3, f3⟩ : Src) (T : Int) = some (y4, ⟨code, b4, f4⟩) := ey4
          obtain ⟨Y4, rfl⟩ := Int.eq_ofNat_of_zero_le y40
          obtain ⟨g5, g6⟩ := g4 Y4 (by omega)
          simp only [if_pos c0, ey4', Option.bind_some, if_pos g5]
          exact fin _ _ _ (by have : (10 : Int) + 5 * l.length + 4 = 10 + 5 * l.length + 1 + 1 + 1 + 1 := by omega
                              rw [this]; exact s4) g6
        · simp only [if_neg c0]
          exact fin _ _ _ (by
            obtain ⟨z1, z2, z3, z4, z5⟩ := s3
            exact ⟨z1, z2, by dsimp only at z3 ⊢; omega, by omega, z5⟩) g3
      · left
        simp only [spec_l05Drawn.b0, if_neg ck]
        exact ⟨_, rfl, _, _, _, rfl, by omega, i6⟩) N (a3, d3, (T : Int), x2, [], x3)
      ⟨by
        obtain ⟨z1, z2, z3, z4, z5⟩ := h3
        exact ⟨z1, z2, by dsimp only at z3 ⊢; simp; omega, by simp, z5⟩, rfl, rfl, r3, by simp; omega, by simp⟩ (by dsimp only; omega)
    rw [he]
    refine ⟨_, _, rfl, ⟨⟨by dsimp only; omega, by dsimp only; omega⟩, ⟨r2, by dsimp only; omega⟩, hw1, ?_⟩⟩
    show ∀ r ∈ rs, good (T : Int).toNat r
    rw [Int.toNat_natCast]
    exact hw2
  obtain ⟨F, s, e, h1⟩ := main
  have e' : spec_l05Drawn.f N (⟨code, 0, 0⟩ : Src) = some (F, s) := e
  refine ⟨F, ?_, h1⟩
  simp only [spec_A2Ferry.f, spec_l00From.f, Option.bind_some, e']
theorem Drawn.ok {F : Fe} (h : Drawn F) : InF F ∧ OkF F := by
  have ht := h.t
  have hb := h.boat
  have tab : ∀ t : Nat, t < 6 → (2 : Int) ^ t - 1 ≤ 31 := by decide +kernel
  have h31 := tab F.f_Things.toNat (by omega)
  refine ⟨⟨by omega, by omega, fun r hr => ?_⟩, by unfold T8; omega, ⟨hb.1, by omega⟩, by have := h.len; omega, ?_⟩
  · obtain ⟨g1, g2, _⟩ := h.rules r hr
    omega
  · rw [List.any_eq_false]
    intro r hr
    obtain ⟨g1, g2, g3, g4⟩ := h.rules r hr
    unfold bad
    simp only [Bool.or_eq_true, Bool.not_eq_true', decide_eq_true_eq, not_or, beq_eq_false_iff_ne, ne_eq, Decidable.not_not]
    exact ⟨g4, by omega⟩
theorem at_in {N : Nat} {a : List Int} (h : ∀ x ∈ a, 0 ≤ x ∧ x ≤ 255) (i : Nat) (n : Int) (hn : 1 ≤ n) : ∃ v, laws_a2At.f N a (i : Int) n = some v ∧ 0 ≤ v ∧ v < n := by
  unfold laws_a2At.f
  by_cases c : (i : Int) ≥ (a.length : Int)
  · rw [if_pos c]; exact ⟨0, rfl, by omega, by omega⟩
  · have hi : i < a.length := by omega
    rw [if_neg c, if_neg (by omega), if_pos ⟨by omega, by omega⟩, if_pos (by omega), rdL_nat hi]
    have := h _ (List.getElem_mem hi)
    rw [i64w_id (by omega) (by omega)]
    exact ⟨_, rfl, Int.tmod_nonneg _ this.1, Int.tmod_lt_of_pos _ (by omega)⟩
/-- A ferry without a thing. -/
def wo (F : Fe) (x : Nat) : Fe := ⟨F.f_Things - 1, if F.f_Boat < F.f_Things - 1 then F.f_Boat else F.f_Things - 1, rulesW x F.f_Rules⟩
theorem rulesW_take (x : Nat) (R : List Int) (i : Nat) (hi : i < R.length) : rulesW x (R.take (i + 1)) = if bit R[i] x = true then rulesW x (R.take i) else rulesW x (R.take i) ++ [phi x R[i]] := by
  rw [List.take_succ_eq_append_getElem hi, rulesW_cons]
theorem rulesW_len (x : Nat) (R : List Int) : (rulesW x R).length ≤ R.length := by
  unfold rulesW; rw [List.length_map]; exact List.length_filter_le _ _
theorem rdL_n {a : List Int} {i : Nat} (hi : i < a.length) : rdL a (i : Int) 0 = a[i] := rdL_nat hi
theorem without_spec {N : Nat} {F : Fe} (h : Drawn F) (hN : 2000 < N) {x : Nat} (hx : (x : Int) < F.f_Things) : spec_WithoutThing.f N F (x : Int) = some (wo F x, 0) := by
  have ht := h.t
  have hb := h.boat
  have hlen := h.len
  obtain ⟨hF, hok⟩ := h.ok
  have hall := all_small hok.t8 ht.2
  have hk : okF F = true := okF_iff.2 hok
  have hx5 : x < 5 := by omega
  have wx : u64w (x : Int) = (x : Int) := u64w_id (by omega) (by omega)
  have w1 : i64w F.f_Things = F.f_Things := i64w_id (by omega) (by omega)
  have w2 : i64w (F.f_Things - 1) = F.f_Things - 1 := i64w_id (by omega) (by omega)
  have w3 : i64w F.f_Boat = F.f_Boat := i64w_id (by omega) (by omega)
  have w4 : i8w (F.f_Things - 1) = F.f_Things - 1 := i8w_id (by omega) (by omega)
  have hr31 : ∀ r ∈ F.f_Rules, 0 ≤ r ∧ r ≤ 31 := by
    intro r hr
    have hr0 := hF.2.2 r hr
    have := andNot_le hr0 (y := allF F) ⟨by have := all_range hok.t8; omega, by have := all_range hok.t8; omega⟩ ((sub_iff hr0).2 (rule_bits hF hok hr))
    omega
  have q := rounds_for (b := fun s => spec_WithoutThing.b0 N F (x : Int) s.1 s.2.1 s.2.2.1 s.2.2.2) (e := .go ((wo F x).f_Things, (wo F x).f_Boat, rulesW x F.f_Rules)) (fun k => ((wo F x).f_Things, (wo F x).f_Boat, rulesW x (F.f_Rules.take k), (k : Int))) F.f_Rules.length 0 N (by omega) (by omega) (by
    intro i _ hi
    have hnx : i64w ((i : Int) + 1) = ((i + 1 : Nat) : Int) := i64w_succ hi (by omega)
    have hl := rulesW_len x (F.f_Rules.take i)
    rw [List.length_take] at hl
    obtain ⟨_, _, _, _, _, p6, p7, p8⟩ := phi_at hx5 (hr31 _ (List.getElem_mem hi))
    simp only [spec_WithoutThing.b0, if_pos (show (i : Int) < (F.f_Rules.length : Int) by omega), if_pos (show (0 : Int) ≤ (i : Int) ∧ (i : Int) < (F.f_Rules.length : Int) by omega), rdL_n hi, wx, if_pos (show (0 : Int) ≤ (x : Int) by omega), spec_WithoutThing.j2, hnx, List.length_singleton, if_pos (show (rulesW x (F.f_Rules.take i)).length + 1 ≤ 70368744177664 by omega), rulesW_take x F.f_Rules i hi]
    cases hbx : bit F.f_Rules[i] x with
    | true =>
      rw [hbx] at p8
      rw [if_neg (of_decide_eq_false p8)]; rfl
    | false =>
      rw [hbx] at p8
      rw [if_pos (of_decide_eq_true p8)]; rfl) (by
    simp only [spec_WithoutThing.b0, List.take_length]
    rw [if_neg (by omega)])
  have hmin : spec_l00Min.f N F.f_Boat (F.f_Things - 1) = some (wo F x).f_Boat := by
    simp only [spec_l00Min.f, wo]
    split <;> rfl
  have w5 : i8w (wo F x).f_Boat = (wo F x).f_Boat := by
    simp only [wo]
    split
    · exact i8w_id (by omega) (by omega)
    · exact i8w_id (by omega) (by omega)
  have q' : rounds (fun s => spec_WithoutThing.b0 N F (x : Int) s.1 s.2.1 s.2.2.1 s.2.2.2) N (F.f_Things - 1, (wo F x).f_Boat, [], 0) = some (.go ((wo F x).f_Things, (wo F x).f_Boat, rulesW x F.f_Rules)) := q
  simp only [spec_WithoutThing.f, F_eta, okF_spec hF (show 40 < N by omega), hk, if_true, Option.bind_some, w1, w2, w3, w4, spec_l00In.f, if_pos (show (x : Int) ≥ 0 by omega), if_pos (show (0 : Int) ≤ (x : Int) by omega), decide_eq_true (show (x : Int) ≤ F.f_Things - 1 by omega), if_neg (show ¬ F.f_Things = 1 by omega), hmin, wx, w5, q', Ex.fin, spec_WithoutThing.a0]
  rfl
theorem without_impl {N : Nat} {F : Fe} (h : Drawn F) (hN : 2000 < N) {x : Nat} (hx : (x : Int) < F.f_Things) : impl_WithoutThing.f N F (x : Int) = some (wo F x, 0) := by
  have ht := h.t
  have hb := h.boat
  have hlen := h.len
  obtain ⟨hF, hok⟩ := h.ok
  have hall := all_small hok.t8 ht.2
  have hk : okF F = true := okF_iff.2 hok
  have hx5 : x < 5 := by omega
  have w1 : i64w F.f_Things = F.f_Things := i64w_id (by omega) (by omega)
  have w2 : i64w (F.f_Things - 1) = F.f_Things - 1 := i64w_id (by omega) (by omega)
  have w4 : i8w (F.f_Things - 1) = F.f_Things - 1 := i8w_id (by omega) (by omega)
  have hr31 : ∀ r ∈ F.f_Rules, 0 ≤ r ∧ r ≤ 31 := by
    intro r hr
    have hr0 := hF.2.2 r hr
    have := andNot_le hr0 (y := allF F) ⟨by have := all_range hok.t8; omega, by have := all_range hok.t8; omega⟩ ((sub_iff hr0).2 (rule_bits hF hok hr))
    omega
  have hlow : u16w (shlI .u16 1 (x : Int) - 1) = low x := rfl
  have q := rounds_for (b := fun s => impl_WithoutThing.b0 N F (x : Int) s.1 s.2.1 s.2.2.1 s.2.2.2) (e := .go ((wo F x).f_Things, (wo F x).f_Boat, rulesW x F.f_Rules)) (fun k => ((wo F x).f_Things, (wo F x).f_Boat, rulesW x (F.f_Rules.take k), (k : Int))) F.f_Rules.length 0 N (by omega) (by omega) (by
    intro i _ hi
    have hnx : i64w ((i : Int) + 1) = ((i + 1 : Nat) : Int) := i64w_succ hi (by omega)
    have hl := rulesW_len x (F.f_Rules.take i)
    rw [List.length_take] at hl
    obtain ⟨_, _, _, _, _, p6, p7, p8⟩ := phi_at hx5 (hr31 _ (List.getElem_mem hi))
    simp only [impl_WithoutThing.b0, if_pos (show (i : Int) < (F.f_Rules.length : Int) by omega), if_pos (show (0 : Int) ≤ (i : Int) ∧ (i : Int) < (F.f_Rules.length : Int) by omega), rdL_n hi, if_pos (show (0 : Int) ≤ (x : Int) by omega), impl_WithoutThing.j2, hnx, List.length_singleton, if_pos (show (rulesW x (F.f_Rules.take i)).length + 1 ≤ 70368744177664 by omega), rulesW_take x F.f_Rules i hi, hlow]
    cases hbx : bit F.f_Rules[i] x with
    | true =>
      rw [hbx] at p7
      rw [if_neg (of_decide_eq_false p7)]; rfl
    | false =>
      rw [hbx] at p7
      rw [if_pos (of_decide_eq_true p7), p6 hbx]; rfl) (by
    simp only [impl_WithoutThing.b0, List.take_length]
    rw [if_neg (by omega)])
  have hmin : mnI F.f_Boat (F.f_Things - 1) = (wo F x).f_Boat := by
    simp only [mnI, wo]
    split <;> split <;> omega
  have hw : impl_within.f N (x : Int) 0 (F.f_Things - 1) = some true := by
    simp only [impl_within.f, if_pos (show (0 : Int) ≤ (x : Int) by omega), decide_eq_true (show (x : Int) ≤ F.f_Things - 1 by omega)]
  have q' : rounds (fun s => impl_WithoutThing.b0 N F (x : Int) s.1 s.2.1 s.2.2.1 s.2.2.2) N (F.f_Things - 1, (wo F x).f_Boat, [], 0) = some (.go ((wo F x).f_Things, (wo F x).f_Boat, rulesW x F.f_Rules)) := q
  simp only [impl_WithoutThing.f, F_eta, okF_impl hF (show 40 < N by omega), hk, if_true, Option.bind_some, w1, w2, w4, hw, if_neg (show ¬ F.f_Things = 1 by omega), hmin, q', Ex.fin, impl_WithoutThing.a0]
  rfl
/-- A set's text is read as that set. -/
def textOk (m : Int) : Bool := match impl_ThingsText.f 6000 m with
  | some t => decide (impl_ReadThings.f 6000 t = some (m, 0))
  | none => false
theorem text_tab : ∀ m : Nat, m < 32 → textOk m = true := by decide +kernel
theorem text_ok {m : Int} (h : 0 ≤ m ∧ m ≤ 31) : ∃ t, impl_ThingsText.f 6000 m = some t ∧ impl_ReadThings.f 6000 t = some (m, 0) := by
  have := text_tab m.toNat (by omega)
  rw [Int.toNat_of_nonneg h.1] at this
  unfold textOk at this
  cases e : impl_ThingsText.f 6000 m with
  | none => rw [e] at this; cases this
  | some t => rw [e] at this; exact ⟨t, rfl, of_decide_eq_true this⟩
end Go.Proofs.YtcaokmnajnfpiaaX
