/- Ferries, plainly: what the program's functions and the reference's come to. -/
import Derived.Test.YtcaokmnajnfpiaaXR
import Derived.Test.YtcaokmnajnfpiaaXWalk
import Derived.Test.YtcaokmnajnfpiaaXMark
namespace Go.Proofs.YtcaokmnajnfpiaaX
open Go
set_option linter.unusedVariables false
set_option linter.unusedSimpArgs false
abbrev Fe := S_impl_Ferry
abbrev Bk := S_impl_Bank
theorem F_eta (F : Fe) : (⟨F.f_Things, F.f_Boat, F.f_Rules⟩ : Fe) = F := rfl

/- sets of 16 bits -/
def B16 (x : Int) : BitVec 16 := BitVec.ofInt 16 x
theorem wrapB (b : BitVec 16) : u16w (b.toNat : Int) = b.toNat := u16w_id (by omega) (by have := b.isLt; omega)
theorem bAndNot_eq (x y : Int) : bAndNot .u16 x y = ((B16 x &&& ~~~ B16 y).toNat : Int) := wrapB (B16 x &&& ~~~ B16 y)
theorem bXor_eq (x y : Int) : bXor .u16 x y = ((B16 x ^^^ B16 y).toNat : Int) := wrapB (B16 x ^^^ B16 y)
theorem bAnd_eq (x y : Int) : bAnd .u16 x y = ((B16 x &&& B16 y).toNat : Int) := wrapB (B16 x &&& B16 y)
theorem B16_nat {x : Int} (h : 0 ≤ x ∧ x ≤ 65535) : ((B16 x).toNat : Int) = x := by simp [B16]; omega
theorem andNot_range {x y : Int} (h : 0 ≤ x ∧ x ≤ 65535) : 0 ≤ bAndNot .u16 x y ∧ bAndNot .u16 x y ≤ x := by
  rw [bAndNot_eq, BitVec.toNat_and]
  have := @Nat.and_le_left (B16 x).toNat (~~~ B16 y).toNat
  have := B16_nat h
  omega
theorem bXor_range (x y : Int) : 0 ≤ bXor .u16 x y ∧ bXor .u16 x y ≤ 65535 := by
  rw [bXor_eq]
  have := (B16 x ^^^ B16 y).isLt
  omega
theorem andNot_le {x y : Int} (h : 0 ≤ x ∧ x ≤ 65535) (h' : 0 ≤ y ∧ y ≤ 65535) (e : bAndNot .u16 x y = 0) : x ≤ y := by
  rw [bAndNot_eq] at e
  have e0 : B16 x &&& ~~~ B16 y = 0#16 := by
    apply BitVec.eq_of_toNat_eq
    simpa using e
  have e1 : B16 x &&& B16 y = B16 x := by
    apply BitVec.eq_of_getLsbD_eq
    intro i hi
    have q := congrArg (fun b => b.getLsbD i) e0
    simp [hi] at q ⊢
    exact q
  have e2 := congrArg BitVec.toNat e1
  rw [BitVec.toNat_and] at e2
  have := @Nat.and_le_right (B16 x).toNat (B16 y).toNat
  have := B16_nat h
  have := B16_nat h'
  omega

/-- How many bits. -/
def cnt (x : Int) : Int := (bits_OnesCount16.f 0 x).getD 0
theorem cnt_all : ∀ n : Nat, n < 256 → (rounds (fun s => spec_l05Size.b0 0 s.1 s.2) 10 ((n : Int), 0)).bind (Ex.fin fun s => spec_l05Size.a0 0 s) = some (cnt n) ∧ bits_OnesCount16.f 0 (n : Int) = some (cnt n) ∧ 0 ≤ cnt n ∧ cnt n ≤ 8 := by decide +kernel
theorem cnt_at {x : Int} (h : 0 ≤ x ∧ x ≤ 255) : (rounds (fun s => spec_l05Size.b0 0 s.1 s.2) 10 (x, 0)).bind (Ex.fin fun s => spec_l05Size.a0 0 s) = some (cnt x) ∧ bits_OnesCount16.f 0 x = some (cnt x) ∧ 0 ≤ cnt x ∧ cnt x ≤ 8 := by
  have := cnt_all x.toNat (by omega)
  rwa [Int.toNat_of_nonneg h.1] at this
theorem ones_eq (N : Nat) {x : Int} (h : 0 ≤ x ∧ x ≤ 255) : bits_OnesCount16.f N x = some (cnt x) := (cnt_at h).2.1
theorem size_eq {N : Nat} (hN : 10 ≤ N) {x : Int} (h : 0 ≤ x ∧ x ≤ 255) : spec_l05Size.f N x = some (cnt x) := by
  have q := (cnt_at h).1
  obtain ⟨e, he, hf⟩ := bind_get q
  unfold spec_l05Size.f
  rw [show (fun s : Int × Int => spec_l05Size.b0 N s.1 s.2) = (fun s => spec_l05Size.b0 0 s.1 s.2) from rfl, rounds_mono he hN]
  exact hf

/-- All things. -/
def allF (F : Fe) : Int := 2 ^ F.f_Things.toNat - 1
def T8 (F : Fe) : Prop := 1 ≤ F.f_Things ∧ F.f_Things ≤ 8
theorem all_tab : ∀ t : Nat, t < 9 → (if (0 : Int) ≤ (u64w t) then (some (u16w ((shlI .u16 1 (u64w t)) - 1))) else none) = some ((2 : Int) ^ t - 1) ∧ (if (0 : Int) ≤ (t : Int) then (some (u16w ((shlI .u16 1 t) - 1))) else none) = some ((2 : Int) ^ t - 1) := by decide +kernel
theorem pow_tab : ∀ t : Nat, t < 9 → 1 ≤ t → 1 ≤ (2 : Int) ^ t - 1 ∧ (2 : Int) ^ t - 1 ≤ 255 := by decide +kernel
theorem all_range {F : Fe} (h : T8 F) : 1 ≤ allF F ∧ allF F ≤ 255 := pow_tab _ (by have := h.2; omega) (by have := h.1; omega)
theorem spec_all (N : Nat) {F : Fe} (h : T8 F) : spec_l05All.f N F = some (allF F) := by
  have := (all_tab F.f_Things.toNat (by have := h.2; omega)).1
  rwa [Int.toNat_of_nonneg (by have := h.1; omega)] at this
theorem impl_all (N : Nat) {F : Fe} (h : T8 F) : _impl_Ferry_all.f N F = some (allF F) := by
  have := (all_tab F.f_Things.toNat (by have := h.2; omega)).2
  rwa [Int.toNat_of_nonneg (by have := h.1; omega)] at this

/-- A loop that ends at the first element with p. -/
theorem rounds_any {ρ : Type} {b : Int → Option (Bd ρ Unit Int)} (a : List Int) (p : Int → Bool) (r : Nat → ρ) {N : Nat} (hN : a.length < N)
    (h : ∀ i (hi : i < a.length), b (i : Int) = if p a[i] = true then some (.out (.ret (r i))) else some (.next ((i + 1 : Nat) : Int)))
    (he : b (a.length : Int) = some (.out (.go ()))) : ∃ e, rounds b N 0 = some e ∧ (if a.any p = true then ∃ i, e = .ret (r i) else e = .go ()) := by
  have main : ∀ (n k : Nat), k ≤ a.length → a.length - k < n → ∃ e, rounds b n (k : Int) = some e ∧ (if (a.drop k).any p = true then ∃ i, e = .ret (r i) else e = .go ()) := by
    intro n
    induction n with
    | zero => intro k _ hk; omega
    | succ n ih =>
      intro k hk hn
      by_cases hl : k < a.length
      · have hb := h k hl
        by_cases hp : p a[k] = true
        · rw [if_pos hp] at hb
          have e1 : (a.drop k).any p = true := by rw [List.drop_eq_getElem_cons hl, List.any_cons, hp]; rfl
          exact ⟨_, rounds_out hb, by rw [if_pos e1]; exact ⟨_, rfl⟩⟩
        · rw [if_neg hp] at hb
          obtain ⟨e, h1, h2⟩ := ih (k + 1) hl (by omega)
          have e1 : (a.drop k).any p = (a.drop (k + 1)).any p := by rw [List.drop_eq_getElem_cons hl, List.any_cons, (Bool.not_eq_true _).mp hp, Bool.false_or]
          exact ⟨e, (rounds_next hb).trans h1, by rw [e1]; exact h2⟩
      · obtain rfl : k = a.length := by omega
        exact ⟨_, rounds_out he, by simp⟩
  exact main N 0 (Nat.zero_le _) (by omega)

def bad (a x : Int) : Bool := !(bAndNot .u16 x a == 0) || decide (cnt x < 2)
instance (F : Fe) : Decidable (T8 F) := by unfold T8; infer_instance
def okF (F : Fe) : Bool := decide (T8 F) && (decide (0 ≤ F.f_Boat ∧ F.f_Boat ≤ F.f_Things) && (decide (F.f_Rules.length ≤ 20) && !(F.f_Rules.any (bad (allF F)))))
/-- What a Go value of the type is. -/
def InF (F : Fe) : Prop := (-128 ≤ F.f_Things ∧ F.f_Things ≤ 127) ∧ (-128 ≤ F.f_Boat ∧ F.f_Boat ≤ 127) ∧ ∀ x ∈ F.f_Rules, 0 ≤ x ∧ x ≤ 65535
theorem okF_spec {N : Nat} {F : Fe} (hF : InF F) (hN : 40 < N) : spec_l05Ok.f N F = some (okF F) := by
  obtain ⟨h1, h2, h3⟩ := hF
  unfold spec_l05Ok.f spec_l00In.f okF
  rw [i64w_id (by omega) (by omega), i64w_id (by omega) (by omega)]
  by_cases c1 : T8 F
  · rw [if_pos c1.1]
    simp only [Option.bind_some, decide_eq_true c1.2, if_true, decide_eq_true c1, Bool.true_and]
    by_cases c2 : 0 ≤ F.f_Boat ∧ F.f_Boat ≤ F.f_Things
    · rw [if_pos c2.1]
      simp only [Option.bind_some, decide_eq_true c2.2, if_true, decide_eq_true c2, Bool.true_and]
      by_cases c3 : F.f_Rules.length ≤ 20
      · rw [if_neg (by omega)]
        simp only [decide_eq_true c3, Bool.true_and]
        have hall := all_range c1
        obtain ⟨e, he, hq⟩ := rounds_any (b := fun s => spec_l05Ok.b0 N F s) F.f_Rules (bad (allF F)) (fun _ => false) (N := N) (by omega) (by
          intro i hi
          have g1 : (i : Int) < F.f_Rules.length := by omega
          have g2 : (0 : Int) ≤ i := by omega
          have hx := h3 _ (List.getElem_mem hi)
          simp only [spec_l05Ok.b0, g1, g2, and_self, if_true, rdL_nat hi, i64w_succ hi (show F.f_Rules.length ≤ 9223372036854775807 by omega), F_eta, spec_all N c1, Option.bind_some, bad]
          by_cases c4 : bAndNot .u16 F.f_Rules[i] (allF F) = 0
          · have := andNot_le hx ⟨by omega, by omega⟩ c4
            simp only [c4, if_true, size_eq (N := N) (by omega) ⟨hx.1, show F.f_Rules[i] ≤ 255 by omega⟩, Option.bind_some]
            by_cases c5 : cnt F.f_Rules[i] < 2
            · simp [c5]
            · simp [c5]
          · simp [c4]) (by
          simp only [spec_l05Ok.b0]
          rw [if_neg (by omega)])
        rw [he]
        by_cases c4 : F.f_Rules.any (bad (allF F)) = true
        · rw [if_pos c4] at hq
          obtain ⟨i, rfl⟩ := hq
          simp only [Option.bind_some, Ex.fin, c4, Bool.not_true]
        · rw [if_neg c4] at hq
          subst hq
          rw [Bool.not_eq_true] at c4
          simp only [Option.bind_some, Ex.fin, c4, Bool.not_false, spec_l05Ok.a0]
      · rw [if_pos (by omega)]
        simp [c3]
    · simp only [decide_eq_false c2, Bool.false_and]
      by_cases c3 : F.f_Boat ≥ 0
      · rw [if_pos c3]
        have : ¬ F.f_Boat ≤ F.f_Things := fun h => c2 ⟨c3, h⟩
        simp [this]
      · rw [if_neg c3]; rfl
  · simp only [decide_eq_false c1, Bool.false_and]
    by_cases c3 : F.f_Things ≥ 1
    · rw [if_pos c3]
      have : ¬ F.f_Things ≤ 8 := fun h => c1 ⟨c3, h⟩
      simp [this]
    · rw [if_neg c3]; rfl
theorem okF_impl {N : Nat} {F : Fe} (hF : InF F) (hN : 40 < N) : impl_ValidFerry.f N F = some (okF F) := by
  obtain ⟨h1, h2, h3⟩ := hF
  unfold impl_ValidFerry.f impl_within.f okF
  rw [i64w_id (by omega) (by omega), i64w_id (by omega) (by omega)]
  by_cases c1 : T8 F
  · rw [if_pos c1.1]
    simp only [Option.bind_some, decide_eq_true c1.2, if_true, decide_eq_true c1, Bool.true_and]
    by_cases c2 : 0 ≤ F.f_Boat ∧ F.f_Boat ≤ F.f_Things
    · rw [if_pos c2.1]
      simp only [Option.bind_some, decide_eq_true c2.2, if_true, decide_eq_true c2, Bool.true_and]
      by_cases c3 : F.f_Rules.length ≤ 20
      · rw [if_neg (by omega)]
        simp only [decide_eq_true c3, Bool.true_and]
        have hall := all_range c1
        obtain ⟨e, he, hq⟩ := rounds_any (b := fun s => slices_IndexFunc_uint16_uint16_at_impl_ValidFerry_1.b0 N F.f_Rules F s) F.f_Rules (bad (allF F)) (fun i => (i : Int)) (N := N) (by omega) (by
          intro i hi
          have g1 : (i : Int) < F.f_Rules.length := by omega
          have g2 : (0 : Int) ≤ i := by omega
          have hx := h3 _ (List.getElem_mem hi)
          simp only [slices_IndexFunc_uint16_uint16_at_impl_ValidFerry_1.b0, impl_ValidFerry_1.f, impl_inside.f, g1, g2, and_self, if_true, rdL_nat hi, i64w_succ hi (show F.f_Rules.length ≤ 9223372036854775807 by omega), F_eta, impl_all N c1, Option.bind_some, bad]
          by_cases c4 : bAndNot .u16 F.f_Rules[i] (allF F) = 0
          · have := andNot_le hx ⟨by omega, by omega⟩ c4
            simp only [c4, beq_self_eq_true, if_true, ones_eq N ⟨hx.1, show F.f_Rules[i] ≤ 255 by omega⟩, Option.bind_some]
            by_cases c5 : cnt F.f_Rules[i] < 2
            · simp [c5]
            · simp [c5]
          · simp [c4]) (by
          simp only [slices_IndexFunc_uint16_uint16_at_impl_ValidFerry_1.b0]
          rw [if_neg (by omega)])
        simp only [slices_ContainsFunc_uint16_uint16_at_impl_ValidFerry_1.f, slices_IndexFunc_uint16_uint16_at_impl_ValidFerry_1.f, F_eta, he]
        by_cases c4 : F.f_Rules.any (bad (allF F)) = true
        · rw [if_pos c4] at hq
          obtain ⟨i, rfl⟩ := hq
          simp only [Option.bind_some, Ex.fin, c4, Bool.not_true, decide_eq_true (show (i : Int) ≥ 0 by omega)]
        · rw [if_neg c4] at hq
          subst hq
          rw [Bool.not_eq_true] at c4
          simp only [Option.bind_some, Ex.fin, c4, Bool.not_false, slices_IndexFunc_uint16_uint16_at_impl_ValidFerry_1.a0]
          rfl
      · rw [if_pos (by omega)]
        simp [c3]
    · simp only [decide_eq_false c2, Bool.false_and]
      by_cases c3 : 0 ≤ F.f_Boat
      · rw [if_pos c3]
        have : ¬ F.f_Boat ≤ F.f_Things := fun h => c2 ⟨c3, h⟩
        simp [this]
      · rw [if_neg c3]; rfl
  · simp only [decide_eq_false c1, Bool.false_and]
    by_cases c3 : 1 ≤ F.f_Things
    · rw [if_pos c3]
      have : ¬ F.f_Things ≤ 8 := fun h => c1 ⟨c3, h⟩
      simp [this]
    · rw [if_neg c3]; rfl
end Go.Proofs.YtcaokmnajnfpiaaX

/- Ferries, plainly: banks, crossings, loads. -/
namespace Go.Proofs.YtcaokmnajnfpiaaX
open Go
set_option linter.unusedVariables false
set_option linter.unusedSimpArgs false
def safe (R : List Int) (t : Int) : Bool := !(R.any fun r => bAndNot .u16 r t == 0)
theorem safe_spec {N : Nat} {F : Fe} (hl : F.f_Rules.length ≤ 20) (hN : 40 < N) (t : Int) : spec_l05Safe.f N F t = some (safe F.f_Rules t) := by
  obtain ⟨e, he, hq⟩ := rounds_any (b := fun s => spec_l05Safe.b0 N F t s) F.f_Rules (fun r => bAndNot .u16 r t == 0) (fun _ => false) (N := N) (by omega) (by
    intro i hi
    have g1 : (i : Int) < F.f_Rules.length := by omega
    have g2 : (0 : Int) ≤ i := by omega
    simp only [spec_l05Safe.b0, g1, g2, and_self, if_true, rdL_nat hi, i64w_succ hi (show F.f_Rules.length ≤ 9223372036854775807 by omega), beq_iff_eq]) (by
    simp only [spec_l05Safe.b0]
    rw [if_neg (by omega)])
  unfold spec_l05Safe.f safe
  rw [he]
  by_cases c4 : (F.f_Rules.any fun r => bAndNot .u16 r t == 0) = true
  · rw [if_pos c4] at hq
    obtain ⟨i, rfl⟩ := hq
    simp only [Option.bind_some, Ex.fin, c4, Bool.not_true]
  · rw [if_neg c4] at hq
    subst hq
    rw [Bool.not_eq_true] at c4
    simp only [Option.bind_some, Ex.fin, c4, Bool.not_false, spec_l05Safe.a0]
theorem safe_impl {N : Nat} {F : Fe} (hl : F.f_Rules.length ≤ 20) (hN : 40 < N) (t : Int) : _impl_Ferry_isSafe.f N F t = some (safe F.f_Rules t) := by
  obtain ⟨e, he, hq⟩ := rounds_any (b := fun s => slices_IndexFunc_uint16_uint16_at__impl_Ferry_isSafe_1.b0 N F.f_Rules t s) F.f_Rules (fun r => bAndNot .u16 r t == 0) (fun i => (i : Int)) (N := N) (by omega) (by
    intro i hi
    have g1 : (i : Int) < F.f_Rules.length := by omega
    have g2 : (0 : Int) ≤ i := by omega
    simp only [slices_IndexFunc_uint16_uint16_at__impl_Ferry_isSafe_1.b0, _impl_Ferry_isSafe_1.f, impl_inside.f, g1, g2, and_self, if_true, rdL_nat hi, i64w_succ hi (show F.f_Rules.length ≤ 9223372036854775807 by omega), Option.bind_some]) (by
    simp only [slices_IndexFunc_uint16_uint16_at__impl_Ferry_isSafe_1.b0]
    rw [if_neg (by omega)])
  simp only [_impl_Ferry_isSafe.f, slices_ContainsFunc_uint16_uint16_at__impl_Ferry_isSafe_1.f, slices_IndexFunc_uint16_uint16_at__impl_Ferry_isSafe_1.f, he, safe]
  by_cases c4 : (F.f_Rules.any fun r => bAndNot .u16 r t == 0) = true
  · rw [if_pos c4] at hq
    obtain ⟨i, rfl⟩ := hq
    simp only [Option.bind_some, Ex.fin, c4, Bool.not_true, decide_eq_true (show (i : Int) ≥ 0 by omega)]
  · rw [if_neg c4] at hq
    subst hq
    rw [Bool.not_eq_true] at c4
    simp only [Option.bind_some, Ex.fin, c4, Bool.not_false, slices_IndexFunc_uint16_uint16_at__impl_Ferry_isSafe_1.a0]
    rfl
def alone (F : Fe) (b : Bk) : Int := if b.f_Far = true then b.f_Near else bAndNot .u16 (allF F) b.f_Near
def here (F : Fe) (b : Bk) : Int := if b.f_Far = true then bAndNot .u16 (allF F) b.f_Near else b.f_Near
def bankF (F : Fe) (b : Bk) : Bool := (bAndNot .u16 b.f_Near (allF F) == 0) && safe F.f_Rules (alone F b)
theorem bank_spec {N : Nat} {F : Fe} (hT : T8 F) (hl : F.f_Rules.length ≤ 20) (hN : 40 < N) (b : Bk) : spec_l05Bank.f N F b = some (bankF F b) := by
  simp only [spec_l05Bank.f, F_eta, spec_all N hT, Option.bind_some, safe_spec hl hN, bankF, alone]
  by_cases c : bAndNot .u16 b.f_Near (allF F) = 0
  · rw [if_pos c]
    cases b.f_Far <;> simp [c]
  · rw [if_neg c]
    simp [c]
theorem bank_impl {N : Nat} {F : Fe} (hT : T8 F) (hl : F.f_Rules.length ≤ 20) (hN : 40 < N) (b : Bk) : _impl_Ferry_isBank.f N F b = some (bankF F b) := by
  simp only [_impl_Ferry_isBank.f, _impl_Ferry_sides.f, impl_inside.f, F_eta, impl_all N hT, Option.bind_some, safe_impl hl hN, bankF, alone]
  cases b.f_Far <;> by_cases c : bAndNot .u16 b.f_Near (allF F) = 0 <;> simp [c, safe_impl hl hN]
def crossedB (b : Bk) (l : Int) : Bk := ⟨bXor .u16 b.f_Near l, !b.f_Far⟩
def codeF (F : Fe) (b : Bk) (l : Int) : Int := if bAndNot .u16 l (here F b) = 0 then (if cnt l > F.f_Boat then 3 else if bankF F (crossedB b l) = true then 0 else 4) else 2
/-- A ferry that can be one. -/
structure OkF (F : Fe) : Prop where
  t8 : T8 F
  boat : 0 ≤ F.f_Boat ∧ F.f_Boat ≤ F.f_Things
  len : F.f_Rules.length ≤ 20
  rules : F.f_Rules.any (bad (allF F)) = false
theorem okF_iff {F : Fe} : okF F = true ↔ OkF F := by
  unfold okF
  simp only [Bool.and_eq_true, decide_eq_true_eq, Bool.not_eq_true']
  exact ⟨fun h => ⟨h.1, h.2.1, h.2.2.1, h.2.2.2⟩, fun h => ⟨h.1, h.2, h.3, h.4⟩⟩
theorem here_range {F : Fe} (hT : T8 F) {b : Bk} (hb : 0 ≤ b.f_Near ∧ b.f_Near ≤ 255) : 0 ≤ here F b ∧ here F b ≤ 255 := by
  have hall := all_range hT
  unfold here
  by_cases c : b.f_Far = true
  · rw [if_pos c]
    have := @andNot_range (allF F) b.f_Near ⟨by omega, by omega⟩
    omega
  · rw [if_neg c]; exact hb
theorem cross_spec {N : Nat} {F : Fe} (h : OkF F) (hN : 40 < N) {b : Bk} (hb : 0 ≤ b.f_Near ∧ b.f_Near ≤ 255) {l : Int} (hl : 0 ≤ l ∧ l ≤ 65535) :
    spec_l05Cross.f N F b l = some (if codeF F b l = 0 then (crossedB b l, 0) else (⟨0, false⟩, codeF F b l)) := by
  have hr := here_range h.t8 hb
  have hh : spec_l05Here.f N F b = some (here F b) := by
    simp only [spec_l05Here.f, F_eta, spec_all N h.t8, Option.bind_some, here]
    cases b.f_Far <;> simp
  simp only [spec_l05Cross.f, F_eta, hh, Option.bind_some, bank_spec h.t8 h.len hN]
  by_cases c : bAndNot .u16 l (here F b) = 0
  · have := andNot_le hl ⟨hr.1, by omega⟩ c
    have ht := h.t8
    have hbo := h.boat
    unfold T8 at ht
    simp only [if_pos c, size_eq (N := N) (by omega) ⟨hl.1, show l ≤ 255 by omega⟩, Option.bind_some]
    rw [i64w_id (by omega) (by omega)]
    by_cases c2 : cnt l > F.f_Boat
    · have hv : codeF F b l = 3 := by unfold codeF; rw [if_pos c, if_pos c2]
      rw [if_pos c2, hv]; rfl
    · rw [if_neg c2]
      by_cases c3 : bankF F (crossedB b l) = true
      · have hv : codeF F b l = 0 := by unfold codeF; rw [if_pos c, if_neg c2, if_pos c3]
        have c3' : bankF F ⟨bXor .u16 b.f_Near l, !b.f_Far⟩ = true := c3
        rw [if_pos c3', hv]; rfl
      · have hv : codeF F b l = 4 := by unfold codeF; rw [if_pos c, if_neg c2, if_neg c3]
        have c3' : ¬ bankF F ⟨bXor .u16 b.f_Near l, !b.f_Far⟩ = true := c3
        rw [if_neg c3', hv]; rfl
  · have hv : codeF F b l = 2 := by unfold codeF; rw [if_neg c]
    rw [if_neg c, hv]; rfl
theorem cross_impl {N : Nat} {F : Fe} (h : OkF F) (hN : 40 < N) {b : Bk} (hb : 0 ≤ b.f_Near ∧ b.f_Near ≤ 255) {l : Int} (hl : 0 ≤ l ∧ l ≤ 65535) :
    _impl_Ferry_crossCode.f N F b l = some (codeF F b l) := by
  have hr := here_range h.t8 hb
  have hh : ∃ y, _impl_Ferry_sides.f N F b = some (here F b, y) := by
    simp only [_impl_Ferry_sides.f, F_eta, impl_all N h.t8, Option.bind_some, here]
    cases b.f_Far
    · exact ⟨_, rfl⟩
    · exact ⟨_, rfl⟩
  obtain ⟨y, hh⟩ := hh
  simp only [_impl_Ferry_crossCode.f, F_eta, hh, Option.bind_some, codeF, bank_impl h.t8 h.len hN, impl_inside.f, impl_crossed.f, impl_unless.f]
  by_cases c : bAndNot .u16 l (here F b) = 0
  · have := andNot_le hl ⟨hr.1, by omega⟩ c
    have ht := h.t8
    have hbo := h.boat
    unfold T8 at ht
    simp only [c, beq_self_eq_true, if_true, ones_eq N ⟨hl.1, show l ≤ 255 by omega⟩, Option.bind_some]
    rw [i64w_id (by omega) (by omega)]
    by_cases c2 : cnt l > F.f_Boat
    · rw [if_pos c2, if_pos c2]
    · rw [if_neg c2, if_neg c2]
      show (if bankF F (crossedB b l) = true then some 0 else some 4).bind _ = _
      by_cases c3 : bankF F (crossedB b l) = true
      · rw [if_pos c3, if_pos c3]; rfl
      · rw [if_neg c3, if_neg c3]; rfl
  · simp [c]
theorem codeF_bank {F : Fe} {b : Bk} {l : Int} (h : codeF F b l = 0) : bankF F (crossedB b l) = true ∧ bAndNot .u16 l (here F b) = 0 := by
  unfold codeF at h
  by_cases c : bAndNot .u16 l (here F b) = 0
  · rw [if_pos c] at h
    by_cases c2 : cnt l > F.f_Boat
    · rw [if_pos c2] at h; omega
    · rw [if_neg c2] at h
      by_cases c3 : bankF F (crossedB b l) = true
      · exact ⟨c3, c⟩
      · rw [if_neg c3] at h; omega
  · rw [if_neg c] at h; omega
theorem bankF_range {F : Fe} (hT : T8 F) {b : Bk} (h : bankF F b = true) (hb : 0 ≤ b.f_Near ∧ b.f_Near ≤ 65535) : 0 ≤ b.f_Near ∧ b.f_Near ≤ allF F ∧ b.f_Near ≤ 255 := by
  have hall := all_range hT
  unfold bankF at h
  simp only [Bool.and_eq_true, beq_iff_eq] at h
  have := andNot_le hb ⟨by omega, by omega⟩ h.1
  omega
theorem crossedB_range {F : Fe} (hT : T8 F) {b : Bk} {l : Int} (h : codeF F b l = 0) : 0 ≤ (crossedB b l).f_Near ∧ (crossedB b l).f_Near ≤ allF F ∧ (crossedB b l).f_Near ≤ 255 :=
  bankF_range hT (codeF_bank h).1 (bXor_range _ _)
/-- The loads with which a crossing can be made, below n. -/
def loadsTo (F : Fe) (b : Bk) (n : Nat) : List Int := ((List.range n).map fun (i : Nat) => (i : Int)).filter fun l => codeF F b l == 0
theorem loadsTo_succ (F : Fe) (b : Bk) (n : Nat) : loadsTo F b (n + 1) = if codeF F b (n : Int) = 0 then loadsTo F b n ++ [(n : Int)] else loadsTo F b n := by
  unfold loadsTo
  rw [List.range_succ, List.map_append, List.filter_append]
  by_cases c : codeF F b (n : Int) = 0
  · rw [if_pos c]; simp [c]
  · rw [if_neg c]; simp [c]
theorem loadsTo_len (F : Fe) (b : Bk) (n : Nat) : (loadsTo F b n).length ≤ n := by
  unfold loadsTo
  exact Nat.le_trans (List.length_filter_le _ _) (by simp)
def loadsF (F : Fe) (b : Bk) : List Int := loadsTo F b ((allF F).toNat + 1)
theorem loadsF_len {F : Fe} (hT : T8 F) (b : Bk) : (loadsF F b).length ≤ 256 := by
  have := loadsTo_len F b ((allF F).toNat + 1)
  have := all_range hT
  unfold loadsF
  omega
theorem loadsF_mem {F : Fe} {b : Bk} {l : Int} (h : l ∈ loadsF F b) : codeF F b l = 0 ∧ 0 ≤ l ∧ l ≤ allF F ∨ allF F < 0 := by
  unfold loadsF loadsTo at h
  simp only [List.mem_filter, List.mem_map, List.mem_range, beq_iff_eq] at h
  obtain ⟨⟨i, hi, rfl⟩, hc⟩ := h
  by_cases c : allF F < 0
  · exact Or.inr c
  · exact Or.inl ⟨hc, by omega, by omega⟩
theorem loads_spec {N : Nat} {F : Fe} (h : OkF F) (hN : 300 < N) {b : Bk} (hb : 0 ≤ b.f_Near ∧ b.f_Near ≤ 255) : spec_l05Loads.f N F b = some (loadsF F b) := by
  have hall := all_range h.t8
  unfold spec_l05Loads.f
  have q := rounds_for (b := fun s => spec_l05Loads.b0 N F b s.1 s.2) (e := .go (loadsF F b)) (fun k => (loadsTo F b k, (k : Int))) ((allF F).toNat + 1) 0 N (by omega) (by omega) (by
    intro i _ hi
    have hlen := loadsTo_len F b i
    have hw : u16w ((i : Int) + 1) = ((i + 1 : Nat) : Int) := by rw [u16w_id (by omega) (by omega)]; omega
    simp only [spec_l05Loads.b0, F_eta, spec_all N h.t8, Option.bind_some]
    rw [if_pos (by omega), cross_spec h (by omega) hb ⟨by omega, by omega⟩, loadsTo_succ]
    simp only [Option.bind_some, spec_l05Loads.j2, hw, List.length_singleton]
    by_cases c : codeF F b (i : Int) = 0
    · simp only [if_pos c, if_true]; rw [if_pos (by omega)]
    · simp only [if_neg c]) (by
    simp only [spec_l05Loads.b0, F_eta, spec_all N h.t8, Option.bind_some]
    rw [if_neg (by omega)]; rfl)
  have q' : rounds (fun s => spec_l05Loads.b0 N F b s.1 s.2) N (([] : List Int), 0) = some (.go (loadsF F b)) := q
  rw [q']; rfl
theorem loads_impl {N : Nat} {F : Fe} (h : OkF F) (hN : 300 < N) {b : Bk} (hb : 0 ≤ b.f_Near ∧ b.f_Near ≤ 255) : _impl_Ferry_loads.f N F b = some (loadsF F b) := by
  have hall := all_range h.t8
  unfold _impl_Ferry_loads.f
  simp only [F_eta, impl_all N h.t8, Option.bind_some]
  have hw1 : u16w (allF F + 1) = allF F + 1 := u16w_id (by omega) (by omega)
  have q := rounds_for (b := fun s => _impl_Ferry_loads.b0 N (allF F) F b s.1 s.2) (e := .go (loadsF F b)) (fun k => (loadsTo F b k, (k : Int))) ((allF F).toNat + 1) 0 N (by omega) (by omega) (by
    intro i _ hi
    have hlen := loadsTo_len F b i
    have hw : u16w ((i : Int) + 1) = ((i + 1 : Nat) : Int) := by rw [u16w_id (by omega) (by omega)]; omega
    simp only [_impl_Ferry_loads.b0, F_eta, hw1]
    rw [if_pos (by omega), cross_impl h (by omega) hb ⟨by omega, by omega⟩, loadsTo_succ]
    simp only [Option.bind_some, _impl_Ferry_loads.j2, hw, List.length_singleton]
    by_cases c : codeF F b (i : Int) = 0
    · simp only [if_pos c]; rw [if_pos (by omega)]
    · simp only [if_neg c]) (by
    simp only [_impl_Ferry_loads.b0, F_eta, hw1]
    rw [if_neg (by omega)]; rfl)
  have q' : rounds (fun s => _impl_Ferry_loads.b0 N (allF F) F b s.1 s.2) N (([] : List Int), 0) = some (.go (loadsF F b)) := q
  rw [q']; rfl
end Go.Proofs.YtcaokmnajnfpiaaX

/- What the laws about ferries do besides: copies, comparisons, marks. -/
namespace Go.Proofs.YtcaokmnajnfpiaaX
open Go
set_option linter.unusedVariables false
set_option linter.unusedSimpArgs false
theorem min_i8 : IntKind.min .i8 = -128 := rfl
theorem max_i8 : IntKind.max .i8 = 127 := rfl
end Go.Proofs.YtcaokmnajnfpiaaX

/- Ferries, plainly: numbers of banks, and tables as proofs. -/
namespace Go.Proofs.YtcaokmnajnfpiaaX
open Go
set_option linter.unusedVariables false
set_option linter.unusedSimpArgs false
def numF (F : Fe) (b : Bk) : Int := if b.f_Far = true then b.f_Near + allF F + 1 else b.f_Near
def atF (F : Fe) (i : Int) : Bk := ⟨i % (allF F + 1), decide (i ≥ allF F + 1)⟩
theorem index_spec {N : Nat} {F : Fe} (h : T8 F) {b : Bk} (hb : 0 ≤ b.f_Near ∧ b.f_Near ≤ 255) : spec_l05Index.f N F b = some (numF F b) := by
  have hall := all_range h
  simp only [spec_l05Index.f, F_eta, spec_all N h, Option.bind_some, numF]
  rw [i64w_id (x := b.f_Near) (by omega) (by omega), i64w_id (x := allF F) (by omega) (by omega), i64w_id (x := b.f_Near + allF F) (by omega) (by omega), i64w_id (by omega) (by omega)]
  cases b.f_Far <;> rfl
theorem shl_tab : ∀ t : Nat, t < 9 → shlI .i64 1 (t : Int) = (2 : Int) ^ t ∧ shlI .i64 2 (t : Int) = 2 * (2 : Int) ^ t := by decide +kernel
theorem shl_one {F : Fe} (h : T8 F) : shlI .i64 1 F.f_Things = allF F + 1 ∧ shlI .i64 2 F.f_Things = 2 * (allF F + 1) := by
  have := shl_tab F.f_Things.toNat (by have := h.2; omega)
  rw [Int.toNat_of_nonneg (by have := h.1; omega)] at this
  unfold allF
  exact ⟨by rw [this.1]; omega, by rw [this.2]; omega⟩
theorem at_tab : ∀ t : Nat, t < 9 → ∀ i : Nat, i < 512 → i < 2 * 2 ^ t → u16w (Int.tmod (i : Int) ((2 : Int) ^ t)) = (i : Int) % ((2 : Int) ^ t) ∧ bAnd .u16 (u16w (i : Int)) ((2 : Int) ^ t - 1) = (i : Int) % ((2 : Int) ^ t) ∧ (shrI .i64 (i : Int) (t : Int) == 1) = decide ((i : Int) ≥ (2 : Int) ^ t) := by decide +kernel
theorem at_both {F : Fe} (h : T8 F) {i : Nat} (hi : (i : Int) < 2 * (allF F + 1)) : u16w (Int.tmod (i : Int) (allF F + 1)) = (i : Int) % (allF F + 1) ∧ bAnd .u16 (u16w (i : Int)) (allF F) = (i : Int) % (allF F + 1) ∧ (shrI .i64 (i : Int) F.f_Things == 1) = decide ((i : Int) ≥ allF F + 1) := by
  have hall := all_range h
  have e : (2 : Int) ^ F.f_Things.toNat = allF F + 1 := by unfold allF; omega
  have e2 : ((2 ^ F.f_Things.toNat : Nat) : Int) = allF F + 1 := by rw [← e]; simp
  have := at_tab F.f_Things.toNat (by have := h.2; omega) i (by omega) (by omega)
  rw [Int.toNat_of_nonneg (by have := h.1; omega), e, show allF F + 1 - 1 = allF F by omega] at this
  exact this
theorem at_spec {N : Nat} {F : Fe} (h : T8 F) {i : Nat} (hi : (i : Int) < 2 * (allF F + 1)) : spec_l05At.f N F (i : Int) = some (atF F i) := by
  have hall := all_range h
  simp only [spec_l05At.f, F_eta, spec_all N h, Option.bind_some]
  rw [i64w_id (x := allF F) (by omega) (by omega), i64w_id (by omega) (by omega), if_pos (by omega), (at_both h hi).1]
  rfl
theorem atF_range {F : Fe} (h : T8 F) (i : Int) : 0 ≤ (atF F i).f_Near ∧ (atF F i).f_Near ≤ 255 := by
  have hall := all_range h
  have h1 := Int.emod_nonneg i (show allF F + 1 ≠ 0 by omega)
  have h2 := Int.emod_lt_of_pos i (show 0 < allF F + 1 by omega)
  exact ⟨h1, show i % (allF F + 1) ≤ 255 by omega⟩
theorem numF_range {F : Fe} (h : T8 F) {b : Bk} (hb : 0 ≤ b.f_Near ∧ b.f_Near ≤ allF F) : 0 ≤ numF F b ∧ numF F b < 2 * (allF F + 1) := by
  have hall := all_range h
  unfold numF
  split <;> omega
def idx (n : Nat) : List Int := (List.range n).map fun (i : Nat) => (i : Int)
theorem idx_len (n : Nat) : (idx n).length = n := by simp [idx]
theorem idx_get {n i : Nat} (h : i < (idx n).length) : (idx n)[i] = (i : Int) := by simp [idx]
theorem rd_range {t : List Int} (ht : ∀ x ∈ t, -32768 ≤ x ∧ x ≤ 32767) (i : Int) : -32768 ≤ rdL t i 0 ∧ rdL t i 0 ≤ 32767 := by
  unfold rdL
  rw [List.getD_eq_getElem?_getD]
  by_cases h : i.toNat < t.length
  · rw [List.getElem?_eq_getElem h]; exact ht _ (List.getElem_mem h)
  · rw [List.getElem?_eq_none_iff.2 (by omega)]; simp
theorem step_code {F : Fe} (h : OkF F) {b : Bk} {i : Nat} (hi : i < (loadsF F b).length) : codeF F b (loadsF F b)[i] = 0 ∧ 0 ≤ (loadsF F b)[i] ∧ (loadsF F b)[i] ≤ 255 ∧ 0 ≤ (crossedB b (loadsF F b)[i]).f_Near ∧ (crossedB b (loadsF F b)[i]).f_Near ≤ allF F := by
  have hall := all_range h.t8
  rcases loadsF_mem (List.getElem_mem hi) with q | q
  · have := crossedB_range h.t8 q.1
    exact ⟨q.1, q.2.1, by omega, this.1, this.2.1⟩
  · omega
theorem any_congr {α : Type} {p q : α → Bool} : ∀ (l : List α), (∀ x ∈ l, p x = q x) → l.any p = l.any q
  | [], _ => rfl
  | a :: l, h => by rw [List.any_cons, List.any_cons, h a (by simp), any_congr l fun x hx => h x (by simp [hx])]
end Go.Proofs.YtcaokmnajnfpiaaX

/- Ferries, plainly: the program's search and the reference's. -/
namespace Go.Proofs.YtcaokmnajnfpiaaX
open Go
set_option linter.unusedVariables false
set_option linter.unusedSimpArgs false
abbrev Cr := S_impl_crossing
abbrev zc : Cr := z_S_impl_crossing
/- maps -/
theorem mGet_cons {κ ν : Type} [DecidableEq κ] (p : κ × ν) (kv : List (κ × ν)) (k : κ) (z : ν) : mGet (p :: kv) k z = if k = p.1 then p.2 else mGet kv k z := by
  unfold mGet mIdx
  rw [List.findIdx?_cons]
  by_cases c : k = p.1
  · simp [c]
  · simp only [c, decide_false, Bool.false_eq_true, if_false]
    cases List.findIdx? (fun p => decide (k = p.1)) kv with
    | none => rfl
    | some i => simp
theorem mSet_cons {κ ν : Type} [DecidableEq κ] (p : κ × ν) (kv : List (κ × ν)) (k : κ) (v : ν) : mSet (p :: kv) k v = if k = p.1 then (k, v) :: kv else p :: mSet kv k v := by
  unfold mSet mIdx
  rw [List.findIdx?_cons]
  by_cases c : k = p.1
  · simp [c]
  · simp only [c, decide_false, Bool.false_eq_true, if_false]
    cases List.findIdx? (fun p => decide (k = p.1)) kv with
    | none => rfl
    | some i => simp
theorem mGet_set {κ ν : Type} [DecidableEq κ] (k k' : κ) (v z : ν) : ∀ kv : List (κ × ν), mGet (mSet kv k v) k' z = if k' = k then v else mGet kv k' z
  | [] => by
    have e : mSet ([] : List (κ × ν)) k v = [(k, v)] := rfl
    rw [e, mGet_cons]
  | p :: kv => by
    rw [mSet_cons]
    by_cases c : k = p.1
    · rw [if_pos c, mGet_cons, mGet_cons]
      by_cases d : k' = k
      · rw [if_pos d, if_pos d]
      · rw [if_neg d, if_neg d, if_neg (fun e => d (e.trans c.symm))]
    · rw [if_neg c, mGet_cons, mGet_cons, mGet_set k k' v z kv]
      by_cases d : k' = p.1
      · rw [if_pos d, if_pos d, if_neg (fun e => c (e.symm.trans d))]
      · rw [if_neg d, if_neg d]
/- lists -/
theorem rdL_st {xs : List Int} {a b v : Int} (ha : 0 ≤ a ∧ a < xs.length) (hb : 0 ≤ b ∧ b < xs.length) : rdL (stL xs a v) b 0 = if b = a then v else rdL xs b 0 := by
  obtain ⟨a, rfl⟩ := Int.eq_ofNat_of_zero_le ha.1
  obtain ⟨b, rfl⟩ := Int.eq_ofNat_of_zero_le hb.1
  unfold rdL stL
  simp only [Int.toNat_natCast, List.getD_eq_getElem?_getD, List.getElem?_set]
  by_cases e : a = b
  · subst e
    rw [if_pos rfl, if_pos (by omega), if_pos rfl]; rfl
  · rw [if_neg e, if_neg (by omega)]
theorem stL_len (xs : List Int) (a v : Int) : (stL xs a v).length = xs.length := by simp [stL]
theorem rdL_app {α : Type} (xs : List α) (c z : α) {p : Nat} (hp : p < xs.length) : rdL (xs ++ [c]) (p : Int) z = rdL xs (p : Int) z := by
  unfold rdL
  simp [List.getD_eq_getElem?_getD, List.getElem?_append_left hp]
theorem rdL_new {α : Type} (xs : List α) (c z : α) : rdL (xs ++ [c]) (xs.length : Int) z = c := by
  unfold rdL
  simp [List.getD_eq_getElem?_getD]
theorem rdL_memb {α : Type} {xs : List α} {z : α} {p : Nat} (hp : p < xs.length) : rdL xs (p : Int) z ∈ xs := by rw [rdL_nat hp]; exact List.getElem_mem hp
theorem memb_rdL {α : Type} {xs : List α} {x : α} (z : α) (h : x ∈ xs) : ∃ p : Nat, p < xs.length ∧ rdL xs (p : Int) z = x := by
  obtain ⟨p, hp, rfl⟩ := List.mem_iff_getElem.1 h
  exact ⟨p, hp, rdL_nat hp⟩
/- numbers of banks -/
def nearOk (F : Fe) (b : Bk) : Prop := 0 ≤ b.f_Near ∧ b.f_Near ≤ allF F
theorem numF_inj {F : Fe} {a b : Bk} (ha : nearOk F a) (hb : nearOk F b) (h : numF F a = numF F b) : a = b := by
  obtain ⟨x, u⟩ := a
  obtain ⟨y, v⟩ := b
  unfold nearOk at ha hb
  unfold numF at h
  simp only at ha hb h
  cases u <;> cases v <;> simp only [Bool.false_eq_true, if_false, if_true] at h
  · rw [h]
  · omega
  · omega
  · have : x = y := by omega
    rw [this]
theorem atF_num {F : Fe} (hT : T8 F) {b : Bk} (hb : nearOk F b) : atF F (numF F b) = b := by
  have hall := all_range hT
  obtain ⟨x, u⟩ := b
  unfold nearOk at hb
  simp only at hb
  unfold atF numF
  cases u
  · simp only [Bool.false_eq_true, if_false]
    have h1 : x % (allF F + 1) = x := Int.emod_eq_of_lt hb.1 (by omega)
    have h2 : ¬ x ≥ allF F + 1 := by omega
    rw [h1, decide_eq_false h2]
  · simp only [if_true]
    have h1 : (x + allF F + 1) % (allF F + 1) = x := by
      rw [show x + allF F + 1 = x + (allF F + 1) by omega, Int.add_emod_right]
      exact Int.emod_eq_of_lt hb.1 (by omega)
    have h2 : x + allF F + 1 ≥ allF F + 1 := by omega
    rw [h1, decide_eq_true h2]
def nB (F : Fe) : Int := 2 * (allF F + 1)
/-- What the two searches have found alike. -/
structure Rel (F : Fe) (out : List Cr) (met : List (Bk × Bool)) (tb fr ba qu : List Int) : Prop where
  pos : 0 < out.length
  q : qu = out.map fun c => numF F c.f_bank
  near : ∀ c ∈ out, nearOk F c.f_bank
  nd : (out.map fun c => numF F c.f_bank).Nodup
  met : ∀ b, mGet met b false = true ↔ b ∈ out.map (·.f_bank)
  lt : (tb.length : Int) = nB F ∧ (fr.length : Int) = nB F ∧ (ba.length : Int) = nB F
  no : ∀ j : Int, 0 ≤ j → j < nB F → j ∉ (out.map fun c => numF F c.f_bank) → rdL tb j 0 = -1
  yes : ∀ p : Nat, p < out.length → rdL tb (numF F (rdL out (p : Int) zc).f_bank) 0 = (rdL out (p : Int) zc).f_many ∧
    (p = 0 → (rdL out (p : Int) zc).f_before = -1 ∧ (rdL out (p : Int) zc).f_many = 0) ∧
    (0 < p → 0 ≤ (rdL out (p : Int) zc).f_before ∧ (rdL out (p : Int) zc).f_before < p ∧ 1 ≤ (rdL out (p : Int) zc).f_many ∧ (rdL out (p : Int) zc).f_many ≤ p ∧
      rdL ba (numF F (rdL out (p : Int) zc).f_bank) 0 = (rdL out (p : Int) zc).f_load ∧ rdL fr (numF F (rdL out (p : Int) zc).f_bank) 0 = numF F (rdL out ((rdL out (p : Int) zc).f_before) zc).f_bank)
theorem nodup_range_len {l : List Int} {n : Nat} (hd : l.Nodup) (hr : ∀ x ∈ l, 0 ≤ x ∧ x < n) : l.length ≤ n := by
  have := hd.length_le_of_subset (l₂ := idx n) (fun x hx => by
    have := hr x hx
    exact List.mem_map.2 ⟨x.toNat, List.mem_range.2 (by omega), by omega⟩)
  rwa [idx_len] at this
theorem Rel.len {F : Fe} (hT : T8 F) {out met tb fr ba qu} (h : Rel F out met tb fr ba qu) : (out.length : Int) ≤ nB F := by
  have hall := all_range hT
  have := nodup_range_len (n := (nB F).toNat) h.nd (fun x hx => by
    obtain ⟨c, hc, rfl⟩ := List.mem_map.1 hx
    have := numF_range hT (h.near c hc)
    unfold nB
    omega)
  rw [List.length_map] at this
  unfold nB at this ⊢
  omega
theorem Rel.found {F : Fe} {out met tb fr ba qu} (h : Rel F out met tb fr ba qu) {b : Bk} (hb : nearOk F b) : b ∈ out.map (·.f_bank) ↔ numF F b ∈ out.map fun c => numF F c.f_bank := by
  constructor
  · intro hm
    obtain ⟨c, hc, rfl⟩ := List.mem_map.1 hm
    exact List.mem_map.2 ⟨c, hc, rfl⟩
  · intro hm
    obtain ⟨c, hc, he⟩ := List.mem_map.1 hm
    exact List.mem_map.2 ⟨c, hc, numF_inj (h.near c hc) hb he⟩
theorem Rel.tb_nonneg {F : Fe} {out met tb fr ba qu} (h : Rel F out met tb fr ba qu) {p : Nat} (hp : p < out.length) : 0 ≤ (rdL out (p : Int) zc).f_many ∧ (rdL out (p : Int) zc).f_many ≤ p := by
  have := h.yes p hp
  by_cases c : p = 0
  · have := this.2.1 c; omega
  · have := this.2.2 (by omega); omega
/-- Met or not, as the table says. -/
theorem Rel.tells {F : Fe} (hT : T8 F) {out met tb fr ba qu} (h : Rel F out met tb fr ba qu) {b : Bk} (hb : nearOk F b) : rdL tb (numF F b) 0 < 0 ↔ ¬ mGet met b false = true := by
  have hr := numF_range hT hb
  rw [h.met b, h.found hb]
  constructor
  · intro hlt hm
    obtain ⟨c, hc, he⟩ := List.mem_map.1 hm
    obtain ⟨p, hp, rfl⟩ := memb_rdL zc hc
    have := (h.yes p hp).1
    have := h.tb_nonneg hp
    rw [← he] at hlt
    omega
  · intro hm
    rw [h.no _ hr.1 hr.2 hm]
    decide
/-- A bank that is new. -/
theorem Rel.add {F : Fe} (hT : T8 F) {out met tb fr ba qu} (h : Rel F out met tb fr ba qu) {b : Bk} (hb : nearOk F b) (hm : ¬ mGet met b false = true) {i : Nat} (hi : i < out.length) (l : Int) :
    Rel F (out ++ [⟨b, (i : Int), l, (rdL out (i : Int) zc).f_many + 1⟩]) (mSet met b true) (stL tb (numF F b) ((rdL out (i : Int) zc).f_many + 1)) (stL fr (numF F b) (numF F (rdL out (i : Int) zc).f_bank)) (stL ba (numF F b) l) (qu ++ [numF F b]) := by
  have hr := numF_range hT hb
  have hnot : numF F b ∉ out.map fun c => numF F c.f_bank := fun hx => hm ((h.met b).2 ((h.found hb).2 hx))
  have hl := h.lt
  have hrT : 0 ≤ numF F b ∧ numF F b < tb.length := ⟨hr.1, by unfold nB at hl; omega⟩
  have hrF : 0 ≤ numF F b ∧ numF F b < fr.length := ⟨hr.1, by unfold nB at hl; omega⟩
  have hrB : 0 ≤ numF F b ∧ numF F b < ba.length := ⟨hr.1, by unfold nB at hl; omega⟩
  refine ⟨by simp, by rw [h.q]; simp, ?_, ?_, ?_, ⟨by rw [stL_len]; exact hl.1, by rw [stL_len]; exact hl.2.1, by rw [stL_len]; exact hl.2.2⟩, ?_, ?_⟩
  · intro c hc
    rcases List.mem_append.1 hc with hc | hc
    · exact h.near c hc
    · rw [List.mem_singleton] at hc; subst hc; exact hb
  · rw [List.map_append, List.nodup_append]
    refine ⟨h.nd, by simp, ?_⟩
    intro x hx y hy e
    simp only [List.map_cons, List.map_nil, List.mem_singleton] at hy
    subst hy
    exact hnot (e ▸ hx)
  · intro b'
    rw [mGet_set, List.map_append, List.mem_append]
    by_cases e : b' = b
    · subst e; simp
    · rw [if_neg e, h.met b']
      simp [e]
  · intro j j0 j1 hj
    rw [List.map_append, List.mem_append] at hj
    have h1 : j ∉ out.map fun c => numF F c.f_bank := fun x => hj (.inl x)
    have h2 : ¬ j = numF F b := fun x => hj (.inr (by simp [x]))
    rw [rdL_st hrT ⟨j0, by omega⟩, if_neg h2]
    exact h.no j j0 j1 h1
  · intro p hp
    rw [List.length_append, List.length_singleton] at hp
    by_cases hpo : p < out.length
    · rw [rdL_app _ _ _ hpo]
      have hc := rdL_memb (z := zc) hpo
      have hrp := numF_range hT (h.near _ hc)
      have hne : ¬ numF F (rdL out (p : Int) zc).f_bank = numF F b := fun e => hnot (e ▸ List.mem_map.2 ⟨_, hc, rfl⟩)
      obtain ⟨y1, y2, y3⟩ := h.yes p hpo
      refine ⟨by rw [rdL_st hrT ⟨hrp.1, by unfold nB at hl; omega⟩, if_neg hne]; exact y1, y2, fun h0 => ?_⟩
      obtain ⟨z1, z2, z3, z4, z5, z6⟩ := y3 h0
      refine ⟨z1, z2, z3, z4, by rw [rdL_st hrB ⟨hrp.1, by unfold nB at hl; omega⟩, if_neg hne]; exact z5, ?_⟩
      rw [rdL_st hrF ⟨hrp.1, by unfold nB at hl; omega⟩, if_neg hne, z6]
      obtain ⟨q, hq⟩ := Int.eq_ofNat_of_zero_le z1
      rw [hq] at z2 ⊢
      rw [rdL_app _ _ _ (by omega)]
    · obtain rfl : p = out.length := by omega
      rw [rdL_new]
      have hmn := h.tb_nonneg hi
      refine ⟨by rw [rdL_st hrT hrT, if_pos rfl], fun h0 => by have := h.pos; omega, fun _ => ⟨by dsimp only; omega, by dsimp only; omega, by dsimp only; omega, by dsimp only; omega, by rw [rdL_st hrB hrB, if_pos rfl], ?_⟩⟩
      rw [rdL_st hrF hrF, if_pos rfl]
      dsimp only
      rw [rdL_app _ _ _ hi]
end Go.Proofs.YtcaokmnajnfpiaaX

/- Ferries, plainly: the two searches side by side. -/
namespace Go.Proofs.YtcaokmnajnfpiaaX
open Go
set_option linter.unusedVariables false
set_option linter.unusedSimpArgs false
theorem rdL_map {α : Type} (g : α → Int) (xs : List α) (z : α) {p : Nat} (hp : p < xs.length) : rdL (xs.map g) (p : Int) 0 = g (rdL xs (p : Int) z) := by
  rw [rdL_nat (by simpa using hp), rdL_nat hp, List.getElem_map]
theorem rdL_pre {α : Type} (xs ys : List α) (z : α) {p : Nat} (hp : p < xs.length) : rdL (xs ++ ys) (p : Int) z = rdL xs (p : Int) z := by
  unfold rdL
  simp [List.getD_eq_getElem?_getD, List.getElem?_append_left hp]
theorem j7_next {N : Nat} {to k j : Int} {qu0 ways tb fr ba qu : List Int} {n : Int} (h1 : 0 ≤ to ∧ to < n) (h2 : 0 ≤ rdL qu0 k 0 ∧ rdL qu0 k 0 < n) (ht : (tb.length : Int) = n) (hw : (ways.length : Int) = n) :
    ∃ ways', (ways'.length : Int) = n ∧ spec_l05Find.j7 N to qu0 k ways j tb fr ba qu = some (.next (tb, ways', fr, ba, qu, i64w (j + 1))) := by
  unfold spec_l05Find.j7
  rw [if_pos ⟨h1.1, by omega⟩, if_pos ⟨h2.1, by omega⟩]
  by_cases c : rdL tb to 0 = i16w (rdL tb (rdL qu0 k 0) 0 + 1)
  · rw [if_pos c, if_pos ⟨h1.1, by omega⟩, if_pos ⟨h2.1, by omega⟩, if_pos ⟨h1.1, by omega⟩]
    exact ⟨_, by rw [stL_len]; exact hw, rfl⟩
  · rw [if_neg c]
    exact ⟨_, hw, rfl⟩
/-- All crossings from the first i banks lead to banks that are met. -/
def Closed (F : Fe) (out : List Cr) (i : Int) : Prop := ∀ p : Nat, (p : Int) < i → ∀ l ∈ loadsF F (rdL out (p : Int) zc).f_bank, crossedB (rdL out (p : Int) zc).f_bank l ∈ out.map (·.f_bank)
theorem inner {N : Nat} {F : Fe} (h : OkF F) (hN : 2000 < N) {out0 : List Cr} {met0 : List (Bk × Bool)} {tb0 fr0 ba0 qu0 wy0 : List Int} (hR : Rel F out0 met0 tb0 fr0 ba0 qu0) (hw0 : (wy0.length : Int) = nB F) {i : Nat} (hi : i < out0.length) :
    ∃ tb wy fr ba qu out met, rounds (fun s => spec_l05Find.b4 N (loadsF F (rdL out0 (i : Int) zc).f_bank) F (rdL out0 (i : Int) zc).f_bank qu0 (i : Int) s.1 s.2.1 s.2.2.1 s.2.2.2.1 s.2.2.2.2.1 s.2.2.2.2.2) N (tb0, wy0, fr0, ba0, qu0, 0) = some (.go (tb, wy, fr, ba, qu)) ∧
      rounds (fun s => _impl_Ferry_search.b2 N (loadsF F (rdL out0 (i : Int) zc).f_bank) (i : Int) s.1 s.2.1 s.2.2) N (out0, met0, 0) = some (.go (out, met)) ∧ Rel F out met tb fr ba qu ∧ (wy.length : Int) = nB F ∧ (∃ ext, out = out0 ++ ext) ∧
      ∀ l ∈ loadsF F (rdL out0 (i : Int) zc).f_bank, crossedB (rdL out0 (i : Int) zc).f_bank l ∈ out.map (·.f_bank) := by
  have hall := all_range h.t8
  generalize hb : (rdL out0 (i : Int) zc).f_bank = b
  have hbn : nearOk F b := by rw [← hb]; exact hR.near _ (rdL_memb hi)
  have hb255 : 0 ≤ b.f_Near ∧ b.f_Near ≤ 255 := ⟨hbn.1, by have := hbn.2; omega⟩
  have hll := loadsF_len h.t8 b
  have hat : rdL qu0 (i : Int) 0 = numF F b := by rw [hR.q, rdL_map _ _ zc hi, hb]
  have hnb := numF_range h.t8 hbn
  obtain ⟨e, e', h1, h2, h3⟩ := rounds_both (b := fun s => spec_l05Find.b4 N (loadsF F b) F b qu0 (i : Int) s.1 s.2.1 s.2.2.1 s.2.2.2.1 s.2.2.2.2.1 s.2.2.2.2.2) (b' := fun s => _impl_Ferry_search.b2 N (loadsF F b) (i : Int) s.1 s.2.1 s.2.2)
    (fun s s' => s.2.2.2.2.2 = s'.2.2 ∧ 0 ≤ s'.2.2 ∧ s'.2.2 ≤ ((loadsF F b).length : Int) ∧ Rel F s'.1 s'.2.1 s.1 s.2.2.1 s.2.2.2.1 s.2.2.2.2.1 ∧ (s.2.1.length : Int) = nB F ∧ (∃ ext, s'.1 = out0 ++ ext) ∧ ∀ m : Nat, (hm : m < (loadsF F b).length) → (m : Int) < s'.2.2 → crossedB b (loadsF F b)[m] ∈ s'.1.map (·.f_bank))
    (fun s => (((loadsF F b).length : Int) - s.2.2.2.2.2).toNat)
    (fun e e' => ∃ tb wy fr ba qu out met, e = .go (tb, wy, fr, ba, qu) ∧ e' = .go (out, met) ∧ Rel F out met tb fr ba qu ∧ (wy.length : Int) = nB F ∧ (∃ ext, out = out0 ++ ext) ∧ ∀ l ∈ loadsF F b, crossedB b l ∈ out.map (·.f_bank)) (by
    rintro ⟨tb, wy, fr, ba, qu, j⟩ ⟨out, met, j'⟩ ⟨r1, r2, r3, r4, r5, r6, r7⟩
    simp only at r1 r2 r3 r4 r5 r6 r7
    subst r1
    obtain ⟨j, rfl⟩ := Int.eq_ofNat_of_zero_le r2
    by_cases hj : j < (loadsF F b).length
    · right
      have g1 : (j : Int) < (loadsF F b).length := by omega
      have g2 : (0 : Int) ≤ j := by omega
      obtain ⟨hcode, hl0, hl1, hn0, hn1⟩ := step_code h hj
      have hnb' : nearOk F (crossedB b (loadsF F b)[j]) := ⟨hn0, hn1⟩
      have hto := numF_range h.t8 hnb'
      have hlt := r4.lt
      have hlen := r4.len h.t8
      obtain ⟨ext, hext⟩ := r6
      have hio : i < out.length := by rw [hext, List.length_append]; omega
      have hoi : rdL out (i : Int) zc = rdL out0 (i : Int) zc := by rw [hext]; exact rdL_pre _ _ _ hi
      have hmn := r4.tb_nonneg hio
      have hyes := (r4.yes i hio).1
      rw [hoi, hb] at hyes
      have hi512 : (i : Int) < 512 := by unfold nB at hlen; omega
      have hw1 : i16w ((rdL out0 (i : Int) zc).f_many + 1) = (rdL out0 (i : Int) zc).f_many + 1 := by rw [hoi] at hmn; exact i16w_id (by omega) (by omega)
      have hw2 : i64w ((rdL out0 (i : Int) zc).f_many + 1) = (rdL out0 (i : Int) zc).f_many + 1 := by rw [hoi] at hmn; exact i64w_id (by omega) (by omega)
      have hcr : ∀ b l, impl_crossed.f N b l = some (crossedB b l) := fun _ _ => rfl
      have hnext : i64w ((j : Int) + 1) = ((j + 1 : Nat) : Int) := i64w_succ hj (by omega)
      have gi : (0 : Int) ≤ (i : Int) ∧ (i : Int) < (out.length : Int) := ⟨by omega, by omega⟩
      have gT : 0 ≤ numF F (crossedB b (loadsF F b)[j]) ∧ numF F (crossedB b (loadsF F b)[j]) < (tb.length : Int) := ⟨hto.1, by unfold nB at hlt; omega⟩
      have gA : 0 ≤ numF F b ∧ numF F b < (tb.length : Int) := ⟨hnb.1, by unfold nB at hlt; omega⟩
      have gF : 0 ≤ numF F (crossedB b (loadsF F b)[j]) ∧ numF F (crossedB b (loadsF F b)[j]) < (fr.length : Int) := ⟨hto.1, by unfold nB at hlt; omega⟩
      have gB : 0 ≤ numF F (crossedB b (loadsF F b)[j]) ∧ numF F (crossedB b (loadsF F b)[j]) < (ba.length : Int) := ⟨hto.1, by unfold nB at hlt; omega⟩
      have hql : qu.length = out.length := by rw [r4.q, List.length_map]
      simp only [spec_l05Find.b4, _impl_Ferry_search.b2, g1, g2, and_self, if_true, rdL_nat hj, F_eta, cross_spec h (show 40 < N by omega) hb255 ⟨hl0, show (loadsF F b)[j] ≤ 65535 by omega⟩, hcode, Option.bind_some, index_spec h.t8 (N := N) ⟨hn0, show (crossedB b (loadsF F b)[j]).f_Near ≤ 255 by omega⟩, if_pos gi, hoi, hb, hcr, if_pos gT, hat, if_pos gA, if_pos gF, if_pos gB, List.length_singleton, hyes, hw1, hw2]
      by_cases hnew : rdL tb (numF F (crossedB b (loadsF F b)[j])) 0 < 0
      · have hmet := (r4.tells h.t8 hnb').1 hnew
        rw [if_pos hnew, if_neg hmet, if_pos (by unfold nB at hlen; omega), if_pos (by unfold nB at hlen; omega)]
        have hadd := r4.add h.t8 hnb' hmet hio (loadsF F b)[j]
        rw [hoi, hb] at hadd
        obtain ⟨wy', hwl, hj7⟩ := j7_next (N := N) (to := numF F (crossedB b (loadsF F b)[j])) (k := (i : Int)) (j := (j : Int)) (qu0 := qu0) (ways := wy) (tb := stL tb (numF F (crossedB b (loadsF F b)[j])) ((rdL out0 (i : Int) zc).f_many + 1)) (fr := stL fr (numF F (crossedB b (loadsF F b)[j])) (numF F b)) (ba := stL ba (numF F (crossedB b (loadsF F b)[j])) (loadsF F b)[j]) (qu := qu ++ [numF F (crossedB b (loadsF F b)[j])]) (n := nB F) hto (by rw [hat]; exact hnb) hadd.lt.1 r5
        rw [hj7]
        simp only [_impl_Ferry_search.j4, hnext]
        refine ⟨_, _, rfl, rfl, ⟨rfl, by dsimp only; omega, by dsimp only; omega, hadd, hwl, ⟨ext ++ [⟨crossedB b (loadsF F b)[j], (i : Int), (loadsF F b)[j], (rdL out0 (i : Int) zc).f_many + 1⟩], by rw [hext, List.append_assoc]⟩, ?_⟩, by dsimp only; omega⟩
        intro m hm hmj
        rw [List.map_append, List.mem_append]
        by_cases e : m = j
        · subst e; right; simp
        · left; exact r7 m hm (by dsimp only at hmj; omega)
      · have hmet : mGet met (crossedB b (loadsF F b)[j]) false = true := by
          have := (not_congr (r4.tells h.t8 hnb')).1 hnew
          simpa using this
        rw [if_neg hnew, if_pos hmet]
        obtain ⟨wy', hwl, hj7⟩ := j7_next (N := N) (to := numF F (crossedB b (loadsF F b)[j])) (k := (i : Int)) (j := (j : Int)) (qu0 := qu0) (ways := wy) (tb := tb) (fr := fr) (ba := ba) (qu := qu) (n := nB F) hto (by rw [hat]; exact hnb) hlt.1 r5
        rw [hj7]
        simp only [_impl_Ferry_search.j4, hnext]
        refine ⟨_, _, rfl, rfl, ⟨rfl, by dsimp only; omega, by dsimp only; omega, r4, hwl, ⟨ext, hext⟩, ?_⟩, by dsimp only; omega⟩
        intro m hm hmj
        by_cases e : m = j
        · subst e; exact (r4.met _).1 hmet
        · exact r7 m hm (by dsimp only at hmj; omega)
    · left
      have g1 : ¬ (j : Int) < (loadsF F b).length := by omega
      simp only [spec_l05Find.b4, _impl_Ferry_search.b2, g1, if_false]
      refine ⟨_, _, rfl, rfl, _, _, _, _, _, _, _, rfl, rfl, r4, r5, r6, ?_⟩
      intro l hl
      obtain ⟨m, hm, rfl⟩ := List.mem_iff_getElem.1 hl
      exact r7 m hm (by omega)) N N (tb0, wy0, fr0, ba0, qu0, 0) (out0, met0, 0) ⟨rfl, by simp, by simp, hR, hw0, ⟨[], by simp⟩, fun m hm hmj => by dsimp only at hmj; omega⟩ (by dsimp only; omega) (by dsimp only; omega)
  obtain ⟨tb, wy, fr, ba, qu, out, met, rfl, rfl, q1, q2, q3, q4⟩ := h3
  exact ⟨tb, wy, fr, ba, qu, out, met, h1, h2, q1, q2, q3, q4⟩
theorem outer {N : Nat} {F : Fe} (h : OkF F) (hN : 2000 < N) {out0 : List Cr} {met0 : List (Bk × Bool)} {tb0 fr0 ba0 qu0 wy0 : List Int} (hR : Rel F out0 met0 tb0 fr0 ba0 qu0) (hw0 : (wy0.length : Int) = nB F) :
    ∃ tb wy fr ba qu out met, rounds (fun s => spec_l05Find.b2 N F s.1 s.2.1 s.2.2.1 s.2.2.2.1 s.2.2.2.2.1 s.2.2.2.2.2) N (tb0, wy0, fr0, ba0, qu0, 0) = some (.go (tb, wy, fr, ba)) ∧
      rounds (fun s => _impl_Ferry_search.b0 N F s.1 s.2.1 s.2.2) N (out0, met0, 0) = some (.go out) ∧ Rel F out met tb fr ba qu ∧ (∃ ext, out = out0 ++ ext) ∧ Closed F out (out.length : Int) := by
  have hall := all_range h.t8
  obtain ⟨e, e', h1, h2, h3⟩ := rounds_both (b := fun s => spec_l05Find.b2 N F s.1 s.2.1 s.2.2.1 s.2.2.2.1 s.2.2.2.2.1 s.2.2.2.2.2) (b' := fun s => _impl_Ferry_search.b0 N F s.1 s.2.1 s.2.2)
    (fun s s' => s.2.2.2.2.2 = s'.2.2 ∧ 0 ≤ s'.2.2 ∧ s'.2.2 ≤ (s'.1.length : Int) ∧ Rel F s'.1 s'.2.1 s.1 s.2.2.1 s.2.2.2.1 s.2.2.2.2.1 ∧ (s.2.1.length : Int) = nB F ∧ (∃ ext, s'.1 = out0 ++ ext) ∧ Closed F s'.1 s'.2.2)
    (fun s => (513 - s.2.2.2.2.2).toNat)
    (fun e e' => ∃ tb wy fr ba qu out met, e = .go (tb, wy, fr, ba) ∧ e' = .go out ∧ Rel F out met tb fr ba qu ∧ (∃ ext, out = out0 ++ ext) ∧ Closed F out (out.length : Int)) (by
    rintro ⟨tb, wy, fr, ba, qu, i⟩ ⟨out, met, i'⟩ ⟨r1, r2, r3, r4, r5, r6, r7⟩
    simp only at r1 r2 r3 r4 r5 r6 r7
    subst r1
    obtain ⟨i, rfl⟩ := Int.eq_ofNat_of_zero_le r2
    have hlen := r4.len h.t8
    have hql : qu.length = out.length := by rw [r4.q, List.length_map]
    by_cases hi : i < out.length
    · right
      have g1 : (i : Int) < out.length := by omega
      have g1' : (i : Int) < qu.length := by omega
      have g2 : (0 : Int) ≤ i := by omega
      have hbn : nearOk F (rdL out (i : Int) zc).f_bank := r4.near _ (rdL_memb hi)
      have hat : rdL qu (i : Int) 0 = numF F (rdL out (i : Int) zc).f_bank := by rw [r4.q, rdL_map _ _ zc hi]
      have hnb := numF_range h.t8 hbn
      obtain ⟨n, hn⟩ := Int.eq_ofNat_of_zero_le hnb.1
      have hat2 : spec_l05At.f N F (numF F (rdL out (i : Int) zc).f_bank) = some (rdL out (i : Int) zc).f_bank := by
        rw [hn, at_spec h.t8 (by omega), ← hn, atF_num h.t8 hbn]
      have hb255 : 0 ≤ (rdL out (i : Int) zc).f_bank.f_Near ∧ (rdL out (i : Int) zc).f_bank.f_Near ≤ 255 := ⟨hbn.1, by have := hbn.2; omega⟩
      obtain ⟨tb', wy', fr', ba', qu', out', met', q1, q2, q3, q4, ⟨ext, q5⟩, q6⟩ := inner h hN r4 r5 hi
      have hnext : i64w ((i : Int) + 1) = ((i + 1 : Nat) : Int) := i64w_succ hi (by unfold nB at hlen; omega)
      have hlen' := q3.len h.t8
      simp only [spec_l05Find.b2, _impl_Ferry_search.b0, g1, g1', g2, and_self, if_true, hat, hat2, F_eta, Option.bind_some, loads_spec h (show 300 < N by omega) hb255, loads_impl h (show 300 < N by omega) hb255]
      rw [show (zc : Cr) = z_S_impl_crossing from rfl] at q1 q2
      rw [q1, q2]
      simp only [Option.bind_some, Ex.finB, spec_l05Find.a4, _impl_Ferry_search.a2, hnext]
      obtain ⟨ext0, r6⟩ := r6
      have hl2 : out.length ≤ out'.length := by rw [q5, List.length_append]; omega
      refine ⟨_, _, rfl, rfl, ⟨rfl, by dsimp only; omega, by dsimp only; omega, q3, q4, ⟨ext0 ++ ext, by dsimp only; rw [q5, r6, List.append_assoc]⟩, ?_⟩, by dsimp only; unfold nB at hlen; omega⟩
      intro p hp l hl
      dsimp only at hp hl ⊢
      have hpo : p < out.length := by omega
      have hpe : rdL out' (p : Int) zc = rdL out (p : Int) zc := by rw [q5]; exact rdL_pre _ _ _ hpo
      rw [hpe] at hl ⊢
      by_cases e : p = i
      · subst e; exact q6 l hl
      · rw [q5, List.map_append, List.mem_append]
        left; exact r7 p (by omega) l hl
    · left
      have g1 : ¬ (i : Int) < out.length := by omega
      have g1' : ¬ (i : Int) < qu.length := by omega
      simp only [spec_l05Find.b2, _impl_Ferry_search.b0, g1, g1', if_false]
      refine ⟨_, _, rfl, rfl, _, _, _, _, _, _, _, rfl, rfl, r4, r6, ?_⟩
      have : i = out.length := by omega
      rw [this] at r7
      exact r7) N N (tb0, wy0, fr0, ba0, qu0, 0) (out0, met0, 0) ⟨rfl, by simp, by simp, hR, hw0, ⟨[], by simp⟩, fun p hp => by dsimp only at hp; omega⟩ (by dsimp only; omega) (by dsimp only; omega)
  obtain ⟨tb, wy, fr, ba, qu, out, met, rfl, rfl, q1, q2, q3⟩ := h3
  exact ⟨tb, wy, fr, ba, qu, out, met, h1, h2, q1, q2, q3⟩
end Go.Proofs.YtcaokmnajnfpiaaX

/- Ferries, plainly: what the searches find; a list turned round; the shortest crossing. -/
namespace Go.Proofs.YtcaokmnajnfpiaaX
open Go
set_option linter.unusedVariables false
set_option linter.unusedSimpArgs false
def spec_ShortestCrossing.b0 (N : Nat) (r7 : S_spec_l05Search) (x24 : Int) (x27 : (List Int)) : Option (Bd ((List Int) × Int) ((List Int)) (Int × (List Int))) := if (0 : Int) ≤ x24 ∧ x24 < (r7.f_table.length : Int) then (if (rdL r7.f_table x24 0) > 0 then (if (0 : Int) ≤ x24 ∧ x24 < (r7.f_by.length : Int) then (if ([rdL r7.f_by x24 0]).length + x27.length ≤ 70368744177664 then (if (0 : Int) ≤ x24 ∧ x24 < (r7.f_from.length : Int) then (some (.next (rdL r7.f_from x24 0, ([rdL r7.f_by x24 0]) ++ x27))) else none) else none) else none) else (some (.out (.go x27)))) else none
def spec_ShortestCrossing.a0 (N : Nat) (x36 : (List Int)) : Option ((List Int) × Int) := some (x36, 0)
def spec_ShortestCrossing.f (N : Nat) (a1 : S_impl_Ferry) : Option ((List Int) × Int) := (spec_l05Ok.f N (⟨a1.f_Things, a1.f_Boat, a1.f_Rules⟩ : S_impl_Ferry)).bind fun r6 => (if r6 = true then ((spec_l05Find.f N (⟨a1.f_Things, a1.f_Boat, a1.f_Rules⟩ : S_impl_Ferry)).bind fun r7 => ((spec_l05Last.f N (⟨a1.f_Things, a1.f_Boat, a1.f_Rules⟩ : S_impl_Ferry)).bind fun r18 => (if (0 : Int) ≤ r18 ∧ r18 < (r7.f_table.length : Int) then (if (rdL r7.f_table r18 0) < 0 then (some (([] : List Int), 6)) else ((rounds (fun s => spec_ShortestCrossing.b0 N r7 s.1 s.2) N (r18, ([] : List Int))).bind (Ex.fin fun s => spec_ShortestCrossing.a0 N s))) else none))) else (some (([] : List Int), 1)))
theorem rounds_first {α ρ : Type} {b : Int → Option (Bd ρ Unit Int)} (a : List α) (p : α → Bool) (r : Nat → ρ) {N : Nat} (hN : a.length < N)
    (h : ∀ i (hi : i < a.length), b (i : Int) = if p a[i] = true then some (.out (.ret (r i))) else some (.next ((i + 1 : Nat) : Int)))
    (he : b (a.length : Int) = some (.out (.go ()))) : ∃ e, rounds b N 0 = some e ∧ ((∃ i, ∃ hi : i < a.length, p a[i] = true ∧ e = .ret (r i)) ∨ ((∀ x ∈ a, p x = false) ∧ e = .go ())) := by
  have main : ∀ (n k : Nat), k ≤ a.length → a.length - k < n → (∀ m (hm : m < a.length), m < k → p a[m] = false) → ∃ e, rounds b n (k : Int) = some e ∧ ((∃ i, ∃ hi : i < a.length, p a[i] = true ∧ e = .ret (r i)) ∨ ((∀ x ∈ a, p x = false) ∧ e = .go ())) := by
    intro n
    induction n with
    | zero => intro k _ hk; omega
    | succ n ih =>
      intro k hk hn hpre
      by_cases hl : k < a.length
      · have hb := h k hl
        by_cases hp : p a[k] = true
        · rw [if_pos hp] at hb
          exact ⟨_, rounds_out hb, .inl ⟨k, hl, hp, rfl⟩⟩
        · rw [if_neg hp] at hb
          obtain ⟨e, h1, h2⟩ := ih (k + 1) hl (by omega) (fun m hm hmk => by
            by_cases c : m = k
            · subst c; simpa using hp
            · exact hpre m hm (by omega))
          exact ⟨e, (rounds_next hb).trans h1, h2⟩
      · obtain rfl : k = a.length := by omega
        refine ⟨_, rounds_out he, .inr ⟨fun x hx => ?_, rfl⟩⟩
        obtain ⟨m, hm, rfl⟩ := List.mem_iff_getElem.1 hx
        exact hpre m hm hm
  exact main N 0 (Nat.zero_le _) (by omega) (fun m _ hm => by omega)
def c0F (F : Fe) : Cr := ⟨⟨allF F, false⟩, -1, 0, 0⟩
theorem repl_len {F : Fe} (hT : T8 F) (v : Int) : ((List.replicate (nB F).toNat v).length : Int) = nB F := by
  have := all_range hT
  simp [nB]
  omega
theorem repl_rd {n : Nat} {v j : Int} (h0 : 0 ≤ j) (h1 : j < n) : rdL (List.replicate n v) j 0 = v := by
  obtain ⟨j, rfl⟩ := Int.eq_ofNat_of_zero_le h0
  rw [rdL_nat (by simp; omega), List.getElem_replicate]
theorem rel0 {F : Fe} (hT : T8 F) : Rel F [c0F F] (mSet [] (⟨allF F, false⟩ : Bk) true) (stL (List.replicate (nB F).toNat (-1)) (allF F) 0) (List.replicate (nB F).toNat 0) (List.replicate (nB F).toNat 0) [allF F] := by
  have hall := all_range hT
  have hn : numF F (c0F F).f_bank = allF F := rfl
  have hl1 := repl_len hT (-1)
  have hl0 := repl_len hT 0
  have hA : 0 ≤ allF F ∧ allF F < ((List.replicate (nB F).toNat (-1 : Int)).length : Int) := ⟨by omega, by rw [hl1]; unfold nB; omega⟩
  refine ⟨by simp, by simp [hn], ?_, by simp, ?_, ⟨by rw [stL_len]; exact hl1, hl0, hl0⟩, ?_, ?_⟩
  · intro c hc
    rw [List.mem_singleton] at hc
    subst hc
    exact ⟨show 0 ≤ allF F by omega, Int.le_refl _⟩
  · intro b
    rw [mGet_set]
    have e : mGet ([] : List (Bk × Bool)) b false = false := rfl
    rw [e]
    by_cases c : b = ⟨allF F, false⟩
    · rw [if_pos c]; simp [c, c0F]
    · rw [if_neg c]; simp [c, c0F]
  · intro j j0 j1 hj
    simp only [List.map_cons, List.map_nil, List.mem_singleton, hn] at hj
    rw [rdL_st hA ⟨j0, by rw [hl1]; exact j1⟩, if_neg hj]
    exact repl_rd j0 (by have := all_range hT; unfold nB at j1 ⊢; omega)
  · intro p hp
    simp only [List.length_singleton] at hp
    obtain rfl : p = 0 := by omega
    have e : rdL [c0F F] ((0 : Nat) : Int) zc = c0F F := rfl
    rw [e, hn, rdL_st hA hA, if_pos rfl]
    exact ⟨rfl, fun _ => ⟨rfl, rfl⟩, fun h => absurd h (by decide)⟩
theorem search_both {N : Nat} {F : Fe} (h : OkF F) (hN : 2000 < N) : ∃ tb wy fr ba qu out met, spec_l05Find.f N F = some ⟨tb, wy, fr, ba⟩ ∧ _impl_Ferry_search.f N F = some out ∧ Rel F out met tb fr ba qu ∧ (∃ ext, out = c0F F :: ext) ∧ Closed F out (out.length : Int) := by
  have hall := all_range h.t8
  have hl1 := repl_len h.t8 (-1)
  have hl0 := repl_len h.t8 0
  have hnB : (nB F).toNat ≤ 512 ∧ 0 ≤ nB F := by unfold nB; omega
  obtain ⟨tb, wy, fr, ba, qu, out, met, q1, q2, q3, ⟨ext, q4⟩, q5⟩ := outer h hN (rel0 h.t8) (wy0 := stL (List.replicate (nB F).toNat 0) (allF F) 1) (by rw [stL_len]; exact hl0)
  refine ⟨tb, wy, fr, ba, qu, out, met, ?_, ?_, q3, ⟨ext, by rw [q4]; rfl⟩, q5⟩
  · have e1 : i64w (2 * i64w (i64w (allF F) + 1)) = nB F := by
      rw [i64w_id (x := allF F) (by omega) (by omega), i64w_id (x := allF F + 1) (by omega) (by omega), i64w_id (by omega) (by omega)]; rfl
    have hf := rounds_copy (b := fun s => spec_l05Find.b0 N (allF F) s.1 s.2) (List.replicate (nB F).toNat (-1)) (0 : Int) (N := N) (by simp; omega) (by
      intro x i hi hx
      rw [List.length_replicate] at hi
      rw [List.length_replicate] at hx
      have g1 : (i : Int) < nB F := by omega
      have g2 : (0 : Int) ≤ (i : Int) ∧ (i : Int) < (x.length : Int) := ⟨by omega, by omega⟩
      simp only [spec_l05Find.b0, e1, if_pos g1, if_pos g2, stL_nat, List.getElem_replicate]
      rw [i64w_id (by omega) (by omega)]
      rfl) (by
      intro x hx
      rw [List.length_replicate] at hx ⊢
      simp only [spec_l05Find.b0, e1]
      rw [if_neg (by omega)])
    rw [List.length_replicate] at hf
    have e2 : i64w (2 * i64w (allF F + 1)) = nB F := by
      rw [i64w_id (x := allF F + 1) (by omega) (by omega), i64w_id (by omega) (by omega)]; rfl
    have hA : (0 : Int) ≤ allF F ∧ allF F < ((List.replicate (nB F).toNat (-1 : Int)).length : Int) := ⟨by omega, by rw [hl1]; unfold nB; omega⟩
    have hA0 : (0 : Int) ≤ allF F ∧ allF F < ((List.replicate (nB F).toNat (0 : Int)).length : Int) := ⟨by omega, by rw [hl0]; unfold nB; omega⟩
    have hg1 : (0 : Int) ≤ nB F ∧ nB F ≤ 140737488355328 := ⟨hnB.2, by omega⟩
    have hg2 : (0 : Int) ≤ nB F ∧ nB F ≤ 35184372088832 := ⟨hnB.2, by omega⟩
    simp only [spec_l05Find.f, F_eta, spec_all N h.t8, Option.bind_some, e1, e2, if_pos hg1, if_pos hg2, hf, Ex.fin, spec_l05Find.a0, i64w_id (x := allF F) (by omega) (by omega), if_pos hA, if_pos hA0, q1, spec_l05Find.a2]
  · simp only [_impl_Ferry_search.f, F_eta, impl_all N h.t8, Option.bind_some]
    have e : ([(⟨(⟨allF F, false⟩ : S_impl_Bank), (-1), 0, 0⟩ : S_impl_crossing)] : List Cr) = [c0F F] := rfl
    rw [e, q2]
    rfl
/- turning round -/
def rvf (xs : List Int) (k m : Nat) : Int := if m < k ∨ xs.length - k ≤ m then xs.getD (xs.length - 1 - m) 0 else xs.getD m 0
def rv (xs : List Int) (k : Nat) : List Int := (List.range xs.length).map (rvf xs k)
theorem rv_len (xs : List Int) (k : Nat) : (rv xs k).length = xs.length := by simp [rv]
theorem rv_rd {xs : List Int} {k m : Nat} (hm : m < xs.length) : rdL (rv xs k) (m : Int) 0 = rvf xs k m := by
  rw [rdL_nat (by rw [rv_len]; exact hm)]
  simp [rv]
theorem map_set (f : Nat → Int) (n k : Nat) (v : Int) : ((List.range n).map f).set k v = (List.range n).map fun m => if m = k then v else f m := by
  apply List.ext_getElem
  · simp
  · intro m h1 h2
    rw [List.getElem_set]
    simp only [List.getElem_map, List.getElem_range]
    by_cases c : k = m
    · rw [if_pos c, if_pos c.symm]
    · rw [if_neg c, if_neg (fun e => c e.symm)]
theorem rev_eq {N : Nat} (xs : List Int) (hl : xs.length ≤ 1000) (hN : 2000 < N) : slices_Reverse_uint16_uint16.f N xs = some xs.reverse := by
  have q := rounds_for (b := fun s => slices_Reverse_uint16_uint16.b0 N s.1 s.2.1 s.2.2) (e := .go xs.reverse) (fun k => (rv xs k, (k : Int), (xs.length : Int) - 1 - (k : Int))) (xs.length / 2) 0 N (by omega) (by omega) (by
    intro k _ hk
    have g0 : (k : Int) < (xs.length : Int) - 1 - (k : Int) := by omega
    have gk : (0 : Int) ≤ (k : Int) ∧ (k : Int) < ((rv xs k).length : Int) := ⟨by omega, by rw [rv_len]; omega⟩
    obtain ⟨j, hj⟩ : ∃ j : Nat, (xs.length : Int) - 1 - (k : Int) = (j : Int) := ⟨xs.length - 1 - k, by omega⟩
    have gj : (0 : Int) ≤ (j : Int) ∧ (j : Int) < ((rv xs k).length : Int) := ⟨by omega, by rw [rv_len]; omega⟩
    have gj2 : ∀ v, (0 : Int) ≤ (j : Int) ∧ (j : Int) < ((stL (rv xs k) (k : Int) v).length : Int) := fun v => ⟨by omega, by rw [stL_len, rv_len]; omega⟩
    rw [hj] at g0 ⊢
    simp only [slices_Reverse_uint16_uint16.b0, if_pos g0, if_pos gk, if_pos gj, if_pos (gj2 _)]
    rw [rv_rd (by omega), rv_rd (by omega), i64w_id (by omega) (by omega), i64w_id (by omega) (by omega)]
    have e1 : stL (stL (rv xs k) (k : Int) (rvf xs k j)) (j : Int) (rvf xs k k) = rv xs (k + 1) := by
      rw [stL_nat, stL_nat]
      unfold rv
      rw [map_set, map_set]
      apply List.map_congr_left
      intro m hm
      have := List.mem_range.1 hm
      have hjn : j = xs.length - 1 - k := by omega
      unfold rvf
      by_cases c1 : m = j
      · rw [if_pos c1, if_neg (by omega), if_pos (by omega)]
        congr 1; omega
      · rw [if_neg c1]
        by_cases c2 : m = k
        · rw [if_pos c2, if_neg (by omega), if_pos (by omega)]
          congr 1; omega
        · rw [if_neg c2]
          by_cases c3 : m < k ∨ xs.length - k ≤ m
          · rw [if_pos c3, if_pos (by omega)]
          · rw [if_neg c3, if_neg (by omega)]
    rw [e1, show (k : Int) + 1 = ((k + 1 : Nat) : Int) by omega, show (j : Int) - 1 = (xs.length : Int) - 1 - ((k + 1 : Nat) : Int) by omega]) (by
    simp only [slices_Reverse_uint16_uint16.b0]
    rw [if_neg (by omega)]
    have : rv xs (xs.length / 2) = xs.reverse := by
      apply List.ext_getElem
      · simp [rv]
      · intro m h1 h2
        rw [rv_len] at h1
        simp only [rv, List.getElem_map, List.getElem_range, List.getElem_reverse]
        unfold rvf
        by_cases c : m < xs.length / 2 ∨ xs.length - xs.length / 2 ≤ m
        · rw [if_pos c]
          simp [List.getD_eq_getElem?_getD, List.getElem?_eq_getElem (show xs.length - 1 - m < xs.length by omega)]
        · rw [if_neg c]
          have e : xs.length - 1 - m = m := by omega
          simp only [e]
          simp [List.getD_eq_getElem?_getD, List.getElem?_eq_getElem h1]
    rw [this])
  have e0 : rv xs 0 = xs := by
    apply List.ext_getElem
    · simp [rv]
    · intro m h1 h2
      simp only [rv, List.getElem_map, List.getElem_range]
      unfold rvf
      rw [if_neg (by omega)]
      simp [List.getD_eq_getElem?_getD, List.getElem?_eq_getElem h2]
  have q' : rounds (fun s => slices_Reverse_uint16_uint16.b0 N s.1 s.2.1 s.2.2) N (xs, 0, i64w ((xs.length : Int) - 1)) = some (.go xs.reverse) := by
    rw [i64w_id (by omega) (by omega)]
    have := q
    simp only [e0] at this
    simpa using this
  unfold slices_Reverse_uint16_uint16.f
  rw [q']; rfl
/- the shortest crossing -/
def endB : Bk := ⟨0, true⟩
theorem end_near {F : Fe} (hT : T8 F) : nearOk F endB := ⟨Int.le_refl _, by have := all_range hT; show (0 : Int) ≤ allF F; omega⟩
theorem num_end (F : Fe) : numF F endB = allF F + 1 := by simp [numF, endB]
theorem Short_ok {N : Nat} {F : Fe} (h : OkF F) (hN : 3000 < N) {tb wy fr ba qu : List Int} {out : List Cr} {met : List (Bk × Bool)} (e1 : spec_l05Find.f N F = some ⟨tb, wy, fr, ba⟩) (e2 : _impl_Ferry_search.f N F = some out) (hR : Rel F out met tb fr ba qu) (hok1 : spec_l05Ok.f N F = some true) (hok2 : impl_ValidFerry.f N F = some true) :
    ∃ l c, spec_ShortestCrossing.f N F = some (l, c) ∧ impl_ShortestCrossing.f N F = some (l, c) ∧ l.length ≤ 512 ∧ (c = 0 ↔ endB ∈ out.map (·.f_bank)) ∧ (c = 0 ∨ c = 6) := by
  have hall := all_range h.t8
  have hlen := hR.len h.t8
  have hlt := hR.lt
  have hlen512 : out.length ≤ 512 := by unfold nB at hlen; omega
  have hlast : spec_l05Last.f N F = some (allF F + 1) := by
    simp only [spec_l05Last.f, F_eta, spec_all N h.t8, Option.bind_some, i64w_id (x := allF F) (by omega) (by omega), i64w_id (x := allF F + 1) (by omega) (by omega)]
  have hgl : (0 : Int) ≤ allF F + 1 ∧ allF F + 1 < (tb.length : Int) := ⟨by omega, by unfold nB at hlt; omega⟩
  have htell := (hR.tells h.t8 (end_near h.t8)).trans (not_congr (hR.met endB))
  rw [num_end] at htell
  obtain ⟨e, he, hq⟩ := rounds_first (b := fun s => slices_IndexFunc_impl_crossing_impl_crossing_at_impl_ShortestCrossing_1.b0 N out s) out (fun c => decide (c.f_bank = endB)) (fun i => (i : Int)) (N := N) (by omega) (by
    intro i hi
    have g1 : (i : Int) < out.length := by omega
    have g2 : (0 : Int) ≤ i := by omega
    simp only [slices_IndexFunc_impl_crossing_impl_crossing_at_impl_ShortestCrossing_1.b0, impl_ShortestCrossing_1.f, g1, g2, and_self, if_true, rdL_nat hi, Option.bind_some, i64w_succ hi (show out.length ≤ 9223372036854775807 by omega)]
    rfl) (by
    simp only [slices_IndexFunc_impl_crossing_impl_crossing_at_impl_ShortestCrossing_1.b0]
    rw [if_neg (by omega)])
  simp only [spec_ShortestCrossing.f, impl_ShortestCrossing.f, F_eta, hok1, hok2, Option.bind_some, if_true, e1, e2, hlast, if_pos hgl, slices_IndexFunc_impl_crossing_impl_crossing_at_impl_ShortestCrossing_1.f, he]
  rcases hq with ⟨p, hp, hpb, rfl⟩ | ⟨hno, rfl⟩
  · -- found
    have hpb := of_decide_eq_true hpb
    have hin : endB ∈ out.map (·.f_bank) := List.mem_map.2 ⟨out[p], List.getElem_mem hp, hpb⟩
    have hnl : ¬ rdL tb (allF F + 1) 0 < 0 := fun x => (htell.1 x) hin
    simp only [if_neg hnl, Option.bind_some, Ex.fin, if_neg (show ¬ (p : Int) < 0 by omega)]
    obtain ⟨f, f', h1, h2, h3⟩ := rounds_both (b := fun s => impl_ShortestCrossing.b0 N out s.1 s.2) (b' := fun s => spec_ShortestCrossing.b0 N ⟨tb, wy, fr, ba⟩ s.1 s.2)
      (fun s s' => ∃ k : Nat, s.1 = (k : Int) ∧ k < out.length ∧ s'.1 = numF F (rdL out (k : Int) zc).f_bank ∧ s'.2 = s.2.reverse ∧ s.2.length + k ≤ 512) (fun s => s.1.toNat) (fun f f' => ∃ l : List Int, f = .go l ∧ f' = .go l.reverse ∧ l.length ≤ 512) (by
      rintro ⟨i, acc⟩ ⟨a, acc'⟩ ⟨k, r1, r2, r3, r4, r5⟩
      simp only at r1 r2 r3 r4 r5
      subst r1 r3 r4
      have hy := hR.yes k r2
      have hnr := numF_range h.t8 (hR.near _ (rdL_memb (z := zc) r2))
      have gk : (0 : Int) ≤ (k : Int) ∧ (k : Int) < (out.length : Int) := ⟨by omega, by omega⟩
      have gT : 0 ≤ numF F (rdL out (k : Int) zc).f_bank ∧ numF F (rdL out (k : Int) zc).f_bank < (tb.length : Int) := ⟨hnr.1, by unfold nB at hlt; omega⟩
      have gF : 0 ≤ numF F (rdL out (k : Int) zc).f_bank ∧ numF F (rdL out (k : Int) zc).f_bank < (fr.length : Int) := ⟨hnr.1, by unfold nB at hlt; omega⟩
      have gB : 0 ≤ numF F (rdL out (k : Int) zc).f_bank ∧ numF F (rdL out (k : Int) zc).f_bank < (ba.length : Int) := ⟨hnr.1, by unfold nB at hlt; omega⟩
      by_cases hk : k = 0
      · left
        obtain ⟨z1, z2⟩ := hy.2.1 hk
        have d1 : ¬ (rdL out (k : Int) zc).f_before ≥ 0 := by omega
        have d2 : ¬ rdL tb (numF F (rdL out (k : Int) zc).f_bank) 0 > 0 := by rw [hy.1]; omega
        simp only [impl_ShortestCrossing.b0, spec_ShortestCrossing.b0, if_pos gk, if_pos gT]
        refine ⟨.go acc, .go acc.reverse, ?_, ?_, acc, rfl, rfl, by omega⟩
        · exact if_neg d1
        · exact if_neg d2
      · right
        obtain ⟨z1, z2, z3, z4, z5, z6⟩ := hy.2.2 (by omega)
        obtain ⟨q, hq⟩ := Int.eq_ofNat_of_zero_le z1
        have d1 : (rdL out (k : Int) zc).f_before ≥ 0 := z1
        have d2 : rdL tb (numF F (rdL out (k : Int) zc).f_bank) 0 > 0 := by rw [hy.1]; omega
        have d3 : acc.length + ([(rdL out (k : Int) zc).f_load]).length ≤ 70368744177664 := by simp; omega
        have d4 : ([(rdL out (k : Int) zc).f_load]).length + acc.reverse.length ≤ 70368744177664 := by simp; omega
        refine ⟨((rdL out (k : Int) zc).f_before, acc ++ [(rdL out (k : Int) zc).f_load]), (numF F (rdL out ((rdL out (k : Int) zc).f_before) zc).f_bank, [(rdL out (k : Int) zc).f_load] ++ acc.reverse), ?_, ?_, ⟨q, by dsimp only; exact hq, by omega, by dsimp only; rw [hq], by simp, by simp; omega⟩, by dsimp only; omega⟩
        · simp only [impl_ShortestCrossing.b0, if_pos gk]
          rw [if_pos d1, if_pos d3]
        · simp only [spec_ShortestCrossing.b0, if_pos gT, if_pos gF, if_pos gB, z5, z6]
          rw [if_pos d2, if_pos d4]) N N ((p : Int), []) (allF F + 1, []) ⟨p, rfl, hp, by dsimp only; rw [rdL_nat hp, hpb, num_end], rfl, by simp; omega⟩ (by dsimp only; omega) (by dsimp only; omega)
    obtain ⟨l, rfl, rfl, hl⟩ := h3
    rw [h1, h2]
    simp only [Option.bind_some, Ex.fin, spec_ShortestCrossing.a0, impl_ShortestCrossing.a0, rev_eq l (by omega) (show 2000 < N by omega)]
    exact ⟨_, _, rfl, rfl, by simp; exact hl, ⟨fun _ => hin, fun _ => rfl⟩, .inl rfl⟩
  · have hni : ¬ endB ∈ out.map (·.f_bank) := by
      intro hm
      obtain ⟨c, hc, hb⟩ := List.mem_map.1 hm
      have := hno c hc
      rw [decide_eq_false_iff_not] at this
      exact this hb
    simp only [if_pos (htell.2 hni), Option.bind_some, Ex.fin, slices_IndexFunc_impl_crossing_impl_crossing_at_impl_ShortestCrossing_1.a0, show ((-1 : Int) < 0) from by decide, if_true]
    exact ⟨_, _, rfl, rfl, by simp, ⟨fun x => absurd x (by decide), fun x => absurd x hni⟩, .inr rfl⟩
theorem Short_same {N : Nat} {F : Fe} (hF : InF F) (hN : 3000 < N) : ∃ l c, spec_ShortestCrossing.f N F = some (l, c) ∧ impl_ShortestCrossing.f N F = some (l, c) ∧ l.length ≤ 512 := by
  by_cases hk : okF F = true
  · have h := okF_iff.1 hk
    obtain ⟨tb, wy, fr, ba, qu, out, met, e1, e2, hR, _, _⟩ := search_both h (show 2000 < N by omega)
    obtain ⟨l, c, q1, q2, q3, _⟩ := Short_ok h hN e1 e2 hR (by rw [okF_spec hF (by omega), hk]) (by rw [okF_impl hF (by omega), hk])
    exact ⟨l, c, q1, q2, q3⟩
  · simp only [spec_ShortestCrossing.f, impl_ShortestCrossing.f, F_eta, okF_spec hF (show 40 < N by omega), okF_impl hF (show 40 < N by omega), Option.bind_some, if_neg hk]
    exact ⟨_, _, rfl, rfl, by simp⟩
end Go.Proofs.YtcaokmnajnfpiaaX

/- The least boat, alike in both. -/
namespace Go.Proofs.YtcaokmnajnfpiaaX
open Go
set_option linter.unusedVariables false
set_option linter.unusedSimpArgs false
/-- The ferry with another boat. -/
def wb (F : Fe) (x : Int) : Fe := ⟨F.f_Things, x, F.f_Rules⟩
theorem wb_ok {F : Fe} (h : OkF F) {x : Int} (h0 : 0 ≤ x) (h1 : x ≤ F.f_Things) : OkF (wb F x) := ⟨h.t8, ⟨h0, h1⟩, h.len, h.rules⟩
theorem wb_in {F : Fe} (hF : InF F) {x : Int} (h0 : 0 ≤ x) (h1 : x ≤ 127) : InF (wb F x) := ⟨hF.1, ⟨by show -128 ≤ x; omega, h1⟩, hF.2.2⟩
/-- The greatest boat takes all at once. -/
theorem all_tabs : ∀ t : Nat, t < 9 → 1 ≤ t → bAndNot .u16 ((2 : Int) ^ t - 1) ((2 : Int) ^ t - 1) = 0 ∧ cnt ((2 : Int) ^ t - 1) = (t : Int) ∧ bXor .u16 ((2 : Int) ^ t - 1) ((2 : Int) ^ t - 1) = 0 ∧ bAndNot .u16 0 ((2 : Int) ^ t - 1) = 0 := by decide +kernel
theorem cnt_zero : cnt 0 = 0 := by decide +kernel
theorem great {F : Fe} (hF : InF F) (h : OkF F) : codeF (wb F F.f_Things) ⟨allF F, false⟩ (allF F) = 0 := by
  have ht := h.t8
  unfold T8 at ht
  obtain ⟨a1, a2, a3, a4⟩ := all_tabs F.f_Things.toNat (by omega) (by omega)
  rw [Int.toNat_of_nonneg (by omega)] at a2
  have hall := all_range h.t8
  have e : (2 : Int) ^ F.f_Things.toNat - 1 = allF F := rfl
  rw [e] at a1 a2 a3 a4
  have hsafe : safe F.f_Rules 0 = true := by
    unfold safe
    rw [Bool.not_eq_true', List.any_eq_false]
    intro r hr hz
    have hb := h.rules
    rw [List.any_eq_false] at hb
    have := hb r hr
    unfold bad at this
    simp only [Bool.or_eq_true, Bool.not_eq_true', decide_eq_true_eq, not_or] at this
    have hz := eq_of_beq hz
    have hr0 := andNot_le (hF.2.2 r hr) ⟨Int.le_refl 0, by decide⟩ hz
    have hr1 := (hF.2.2 r hr).1
    have : r = 0 := by omega
    subst this
    have := cnt_zero
    omega
  have hbank : bankF (wb F F.f_Things) (crossedB ⟨allF F, false⟩ (allF F)) = true := by
    unfold bankF crossedB alone
    show (bAndNot .u16 (bXor .u16 (allF F) (allF F)) (allF F) == 0 && safe F.f_Rules (if (!false) = true then bXor .u16 (allF F) (allF F) else _)) = true
    rw [a3, a4]
    simp [hsafe]
  unfold codeF here
  show (if bAndNot .u16 (allF F) (if false = true then _ else allF F) = 0 then (if cnt (allF F) > F.f_Things then 3 else if bankF (wb F F.f_Things) (crossedB ⟨allF F, false⟩ (allF F)) = true then 0 else 4) else 2) = (0 : Int)
  rw [if_neg (show ¬ (false = true) by decide), if_pos a1, if_neg (by rw [a2]; omega), if_pos hbank]
theorem Least_same {N : Nat} {F : Fe} (hF : InF F) (hN : 3000 < N) : ∃ r, spec_LeastBoat.f N F = some r ∧ impl_LeastBoat.f N F = some r := by
  simp only [spec_LeastBoat.f, impl_LeastBoat.f, F_eta, okF_spec hF (show 40 < N by omega), okF_impl hF (show 40 < N by omega), Option.bind_some]
  by_cases hk : okF F = true
  · have h := okF_iff.1 hk
    have ht := h.t8
    unfold T8 at ht
    have hall := all_range h.t8
    simp only [if_pos hk]
    obtain ⟨e, e', h1, h2, h3⟩ := rounds_both (b := fun s => spec_LeastBoat.b0 N F s) (b' := fun s => impl_LeastBoat.b0 N F s) (fun s s' => s = s' ∧ 0 ≤ s ∧ s ≤ F.f_Things) (fun s => (20 - s).toNat)
      (fun e e' => ∃ r, e = .ret r ∧ e' = .ret r) (by
      rintro x x' ⟨rfl, r1, r2⟩
      have hw := wb_ok h r1 r2
      have hwin := wb_in hF r1 (by omega)
      have hokw : okF (wb F x) = true := okF_iff.2 hw
      obtain ⟨tb, wy, fr, ba, qu, out, met, e1, e2, hR, ⟨ext, hext⟩, hcl⟩ := search_both hw (show 2000 < N by omega)
      obtain ⟨l, c, q1, q2, q3, q4, _⟩ := Short_ok hw hN e1 e2 hR (by rw [okF_spec hwin (by omega), hokw]) (by rw [okF_impl hwin (by omega), hokw])
      have hlt := hR.lt
      have hA : allF (wb F x) = allF F := rfl
      have hlast : spec_l05Last.f N (wb F x) = some (allF F + 1) := by
        simp only [spec_l05Last.f, F_eta, spec_all N hw.t8, Option.bind_some, hA, i64w_id (x := allF F) (by omega) (by omega), i64w_id (x := allF F + 1) (by omega) (by omega)]
      have hgl : (0 : Int) ≤ allF F + 1 ∧ allF F + 1 < (tb.length : Int) := ⟨by omega, by have := hlt.1; unfold nB at this; rw [hA] at this; omega⟩
      have htell := (hR.tells hw.t8 (end_near hw.t8)).trans (not_congr (hR.met endB))
      rw [num_end, hA] at htell
      have g1 : x < i8w (F.f_Things + 1) := by rw [i8w_id (by omega) (by omega)]; omega
      have e1' : spec_l05Find.f N (⟨F.f_Things, x, F.f_Rules⟩ : S_impl_Ferry) = some ⟨tb, wy, fr, ba⟩ := e1
      have q2' : impl_ShortestCrossing.f N (⟨F.f_Things, x, F.f_Rules⟩ : S_impl_Ferry) = some (l, c) := q2
      have hlast' : spec_l05Last.f N (⟨F.f_Things, x, F.f_Rules⟩ : S_impl_Ferry) = some (allF F + 1) := hlast
      simp only [spec_LeastBoat.b0, impl_LeastBoat.b0, if_pos g1, e1', q2', hlast', Option.bind_some, if_pos hgl]
      by_cases hin : endB ∈ out.map (·.f_bank)
      · left
        have d1 : rdL tb (allF F + 1) 0 ≥ 0 := by
          have := not_congr htell
          have h5 := this.2 (fun x => x hin)
          omega
        rw [if_pos d1, if_pos (q4.2 hin)]
        exact ⟨_, _, rfl, rfl, _, rfl, rfl⟩
      · right
        have d1 : ¬ rdL tb (allF F + 1) 0 ≥ 0 := by have := htell.2 hin; omega
        rw [if_neg d1, if_neg (fun x => hin (q4.1 x)), i8w_id (by omega) (by omega)]
        have hlt2 : x < F.f_Things := by
          by_cases ex : x = F.f_Things
          · exfalso
            subst ex
            have hg := great hF h
            have hmem : allF F ∈ loadsF (wb F F.f_Things) ⟨allF F, false⟩ := by
              unfold loadsF loadsTo
              rw [List.mem_filter]
              refine ⟨List.mem_map.2 ⟨(allF F).toNat, List.mem_range.2 (by rw [hA]; omega), by omega⟩, by rw [hg]; rfl⟩
            have hpos : ((0 : Nat) : Int) < (out.length : Int) := by rw [hext]; simp
            have e0 : rdL out ((0 : Nat) : Int) zc = c0F (wb F F.f_Things) := by rw [hext]; rfl
            have := hcl 0 hpos (allF F) (by rw [e0]; exact hmem)
            rw [e0] at this
            have eb : crossedB (c0F (wb F F.f_Things)).f_bank (allF F) = endB := by
              have ht3 := (all_tabs F.f_Things.toNat (by omega) (by omega)).2.2.1
              show (⟨bXor .u16 (allF F) (allF F), true⟩ : Bk) = ⟨0, true⟩
              have : bXor .u16 (allF F) (allF F) = 0 := ht3
              rw [this]
            rw [eb] at this
            exact hin this
          · omega
        exact ⟨_, _, rfl, rfl, ⟨rfl, by omega, by omega⟩, by omega⟩) N N 0 0 ⟨rfl, Int.le_refl _, by omega⟩ (by omega) (by omega)
    obtain ⟨r, rfl, rfl⟩ := h3
    rw [h1, h2]
    exact ⟨r, rfl, rfl⟩
  · simp only [if_neg hk]
    exact ⟨_, rfl, rfl⟩
end Go.Proofs.YtcaokmnajnfpiaaX
