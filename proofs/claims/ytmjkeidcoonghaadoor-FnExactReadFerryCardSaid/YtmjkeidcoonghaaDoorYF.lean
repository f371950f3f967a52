/- Ferries, plainly: what the program's functions and the reference's come to. -/
import Derived.Test.YtmjkeidcoonghaaDoorXR
import Derived.Test.YtmjkeidcoonghaaDoorXWalk
import Derived.Test.YtmjkeidcoonghaaDoorXMark
namespace Go.Proofs.YtmjkeidcoonghaaDoorX
open Go
set_option linter.unusedVariables false
set_option linter.unusedSimpArgs false
abbrev Fe := S_impl_Ferry
theorem F_eta (F : Fe) : (⟨F.f_Things, F.f_Boat, F.f_Rules⟩ : Fe) = F := rfl

/- sets of 16 bits -/
def B16 (x : Int) : BitVec 16 := BitVec.ofInt 16 x
theorem wrapB (b : BitVec 16) : u16w (b.toNat : Int) = b.toNat := u16w_id (by omega) (by have := b.isLt; omega)
theorem bAndNot_eq (x y : Int) : bAndNot .u16 x y = ((B16 x &&& ~~~ B16 y).toNat : Int) := wrapB (B16 x &&& ~~~ B16 y)
theorem bXor_eq (x y : Int) : bXor .u16 x y = ((B16 x ^^^ B16 y).toNat : Int) := wrapB (B16 x ^^^ B16 y)
theorem bAnd_eq (x y : Int) : bAnd .u16 x y = ((B16 x &&& B16 y).toNat : Int) := wrapB (B16 x &&& B16 y)
theorem B16_nat {x : Int} (h : 0 ≤ x ∧ x ≤ 65535) : ((B16 x).toNat : Int) = x := by simp [B16]; omega
theorem andNot_range {x y : Int} (h : 0 ≤ x ∧ x ≤ 65535) : 0 ≤ bAndNot .u16 x y ∧ bAndNot .u16 x y ≤ x := by
  rw [bAndNot_eq, BitVec.toNat_and]
  have := @Nat.and_le_left (B16 x).toNat (~~~ B16 y).toNat
  have := B16_nat h
  omega
theorem bXor_range (x y : Int) : 0 ≤ bXor .u16 x y ∧ bXor .u16 x y ≤ 65535 := by
  rw [bXor_eq]
  have := (B16 x ^^^ B16 y).isLt
  omega
theorem andNot_le {x y : Int} (h : 0 ≤ x ∧ x ≤ 65535) (h' : 0 ≤ y ∧ y ≤ 65535) (e : bAndNot .u16 x y = 0) : x ≤ y := by
  rw [bAndNot_eq] at e
  have e0 : B16 x &&& ~~~ B16 y = 0#16 := by
    apply BitVec.eq_of_toNat_eq
    simpa using e
  have e1 : B16 x &&& B16 y = B16 x := by
    apply BitVec.eq_of_getLsbD_eq
    intro i hi
    have q := congrArg (fun b => b.getLsbD i) e0
    simp [hi] at q ⊢
    exact q
  have e2 := congrArg BitVec.toNat e1
  rw [BitVec.toNat_and] at e2
  have := @Nat.and_le_right (B16 x).toNat (B16 y).toNat
  have := B16_nat h
  have := B16_nat h'
  omega

/-- How many bits. -/
def cnt (x : Int) : Int := (bits_OnesCount16.f 0 x).getD 0
theorem cnt_all : ∀ n : Nat, n < 256 → (rounds (fun s => spec_l05Size.b0 0 s.1 s.2) 10 ((n : Int), 0)).bind (Ex.fin fun s => spec_l05Size.a0 0 s) = some (cnt n) ∧ bits_OnesCount16.f 0 (n : Int) = some (cnt n) ∧ 0 ≤ cnt n ∧ cnt n ≤ 8 := by decide +kernel
theorem cnt_at {x : Int} (h : 0 ≤ x ∧ x ≤ 255) : (rounds (fun s => spec_l05Size.b0 0 s.1 s.2) 10 (x, 0)).bind (Ex.fin fun s => spec_l05Size.a0 0 s) = some (cnt x) ∧ bits_OnesCount16.f 0 x = some (cnt x) ∧ 0 ≤ cnt x ∧ cnt x ≤ 8 := by
  have := cnt_all x.toNat (by omega)
  rwa [Int.toNat_of_nonneg h.1] at this
theorem ones_eq (N : Nat) {x : Int} (h : 0 ≤ x ∧ x ≤ 255) : bits_OnesCount16.f N x = some (cnt x) := (cnt_at h).2.1
theorem size_eq {N : Nat} (hN : 10 ≤ N) {x : Int} (h : 0 ≤ x ∧ x ≤ 255) : spec_l05Size.f N x = some (cnt x) := by
  have q := (cnt_at h).1
  obtain ⟨e, he, hf⟩ := bind_get q
  unfold spec_l05Size.f
  rw [show (fun s : Int × Int => spec_l05Size.b0 N s.1 s.2) = (fun s => spec_l05Size.b0 0 s.1 s.2) from rfl, rounds_mono he hN]
  exact hf

/-- All things. -/
def allF (F : Fe) : Int := 2 ^ F.f_Things.toNat - 1
def T8 (F : Fe) : Prop := 1 ≤ F.f_Things ∧ F.f_Things ≤ 8
theorem all_tab : ∀ t : Nat, t < 9 → (if (0 : Int) ≤ (u64w t) then (some (u16w ((shlI .u16 1 (u64w t)) - 1))) else none) = some ((2 : Int) ^ t - 1) ∧ (if (0 : Int) ≤ (t : Int) then (some (u16w ((shlI .u16 1 t) - 1))) else none) = some ((2 : Int) ^ t - 1) := by decide +kernel
theorem pow_tab : ∀ t : Nat, t < 9 → 1 ≤ t → 1 ≤ (2 : Int) ^ t - 1 ∧ (2 : Int) ^ t - 1 ≤ 255 := by decide +kernel
theorem all_range {F : Fe} (h : T8 F) : 1 ≤ allF F ∧ allF F ≤ 255 := pow_tab _ (by have := h.2; omega) (by have := h.1; omega)
theorem spec_all (N : Nat) {F : Fe} (h : T8 F) : spec_l05All.f N F = some (allF F) := by
  have := (all_tab F.f_Things.toNat (by have := h.2; omega)).1
  rwa [Int.toNat_of_nonneg (by have := h.1; omega)] at this
theorem impl_all (N : Nat) {F : Fe} (h : T8 F) : _impl_Ferry_all.f N F = some (allF F) := by
  have := (all_tab F.f_Things.toNat (by have := h.2; omega)).2
  rwa [Int.toNat_of_nonneg (by have := h.1; omega)] at this

/-- A loop that ends at the first element with p. -/
theorem rounds_any {ρ : Type} {b : Int → Option (Bd ρ Unit Int)} (a : List Int) (p : Int → Bool) (r : Nat → ρ) {N : Nat} (hN : a.length < N)
    (h : ∀ i (hi : i < a.length), b (i : Int) = if p a[i] = true then some (.out (.ret (r i))) else some (.next ((i + 1 : Nat) : Int)))
    (he : b (a.length : Int) = some (.out (.go ()))) : ∃ e, rounds b N 0 = some e ∧ (if a.any p = true then ∃ i, e = .ret (r i) else e = .go ()) := by
  have main : ∀ (n k : Nat), k ≤ a.length → a.length - k < n → ∃ e, rounds b n (k : Int) = some e ∧ (if (a.drop k).any p = true then ∃ i, e = .ret (r i) else e = .go ()) := by
    intro n
    induction n with
    | zero => intro k _ hk; omega
    | succ n ih =>
      intro k hk hn
      by_cases hl : k < a.length
      · have hb := h k hl
        by_cases hp : p a[k] = true
        · rw [if_pos hp] at hb
          have e1 : (a.drop k).any p = true := by rw [List.drop_eq_getElem_cons hl, List.any_cons, hp]; rfl
          exact ⟨_, rounds_out hb, by rw [if_pos e1]; exact ⟨_, rfl⟩⟩
        · rw [if_neg hp] at hb
          obtain ⟨e, h1, h2⟩ := ih (k + 1) hl (by omega)
          have e1 : (a.drop k).any p = (a.drop (k + 1)).any p := by rw [List.drop_eq_getElem_cons hl, List.any_cons, (Bool.not_eq_true _).mp hp, Bool.false_or]
          exact ⟨e, (rounds_next hb).trans h1, by rw [e1]; exact h2⟩
      · obtain rfl : k = a.length := by omega
        exact ⟨_, rounds_out he, by simp⟩
  exact main N 0 (Nat.zero_le _) (by omega)

def bad (a x : Int) : Bool := !(bAndNot .u16 x a == 0) || decide (cnt x < 2)
instance (F : Fe) : Decidable (T8 F) := by unfold T8; infer_instance
def okF (F : Fe) : Bool := decide (T8 F) && (decide (0 ≤ F.f_Boat ∧ F.f_Boat ≤ F.f_Things) && (decide (F.f_Rules.length ≤ 20) && !(F.f_Rules.any (bad (allF F)))))
/-- What a Go value of the type is. -/
def InF (F : Fe) : Prop := (-128 ≤ F.f_Things ∧ F.f_Things ≤ 127) ∧ (-128 ≤ F.f_Boat ∧ F.f_Boat ≤ 127) ∧ ∀ x ∈ F.f_Rules, 0 ≤ x ∧ x ≤ 65535
theorem okF_spec {N : Nat} {F : Fe} (hF : InF F) (hN : 40 < N) : spec_l05Ok.f N F = some (okF F) := by
  obtain ⟨h1, h2, h3⟩ := hF
  unfold spec_l05Ok.f spec_l00In.f okF
  rw [i64w_id (by omega) (by omega), i64w_id (by omega) (by omega)]
  by_cases c1 : T8 F
  · rw [if_pos c1.1]
    simp only [Option.bind_some, decide_eq_true c1.2, if_true, decide_eq_true c1, Bool.true_and]
    by_cases c2 : 0 ≤ F.f_Boat ∧ F.f_Boat ≤ F.f_Things
    · rw [if_pos c2.1]
      simp only [Option.bind_some, decide_eq_true c2.2, if_true, decide_eq_true c2, Bool.true_and]
      by_cases c3 : F.f_Rules.length ≤ 20
      · rw [if_neg (by omega)]
        simp only [decide_eq_true c3, Bool.true_and]
        have hall := all_range c1
        obtain ⟨e, he, hq⟩ := rounds_any (b := fun s => spec_l05Ok.b0 N F s) F.f_Rules (bad (allF F)) (fun _ => false) (N := N) (by omega) (by
          intro i hi
          have g1 : (i : Int) < F.f_Rules.length := by omega
          have g2 : (0 : Int) ≤ i := by omega
          have hx := h3 _ (List.getElem_mem hi)
          simp only [spec_l05Ok.b0, g1, g2, and_self, if_true, rdL_nat hi, i64w_succ hi (show F.f_Rules.length ≤ 9223372036854775807 by omega), F_eta, spec_all N c1, Option.bind_some, bad]
          by_cases c4 : bAndNot .u16 F.f_Rules[i] (allF F) = 0
          · have := andNot_le hx ⟨by omega, by omega⟩ c4
            simp only [c4, if_true, size_eq (N := N) (by omega) ⟨hx.1, show F.f_Rules[i] ≤ 255 by omega⟩, Option.bind_some]
            by_cases c5 : cnt F.f_Rules[i] < 2
            · simp [c5]
            · simp [c5]
          · simp [c4]) (by
          simp only [spec_l05Ok.b0]
          rw [if_neg (by omega)])
        rw [he]
        by_cases c4 : F.f_Rules.any (bad (allF F)) = true
        · rw [if_pos c4] at hq
          obtain ⟨i, rfl⟩ := hq
          simp only [Option.bind_some, Ex.fin, c4, Bool.not_true]
        · rw [if_neg c4] at hq
          subst hq
          rw [Bool.not_eq_true] at c4
          simp only [Option.bind_some, Ex.fin, c4, Bool.not_false, spec_l05Ok.a0]
      · rw [if_pos (by omega)]
        simp [c3]
    · simp only [decide_eq_false c2, Bool.false_and]
      by_cases c3 : F.f_Boat ≥ 0
      · rw [if_pos c3]
        have : ¬ F.f_Boat ≤ F.f_Things := fun h => c2 ⟨c3, h⟩
        simp [this]
      · rw [if_neg c3]; rfl
  · simp only [decide_eq_false c1, Bool.false_and]
    by_cases c3 : F.f_Things ≥ 1
    · rw [if_pos c3]
      have : ¬ F.f_Things ≤ 8 := fun h => c1 ⟨c3, h⟩
      simp [this]
    · rw [if_neg c3]; rfl
theorem okF_impl {N : Nat} {F : Fe} (hF : InF F) (hN : 40 < N) : impl_ValidFerry.f N F = some (okF F) := by
  obtain ⟨h1, h2, h3⟩ := hF
  unfold impl_ValidFerry.f impl_within.f okF
  rw [i64w_id (by omega) (by omega), i64w_id (by omega) (by omega)]
  by_cases c1 : T8 F
  · rw [if_pos c1.1]
    simp only [Option.bind_some, decide_eq_true c1.2, if_true, decide_eq_true c1, Bool.true_and]
    by_cases c2 : 0 ≤ F.f_Boat ∧ F.f_Boat ≤ F.f_Things
    · rw [if_pos c2.1]
      simp only [Option.bind_some, decide_eq_true c2.2, if_true, decide_eq_true c2, Bool.true_and]
      by_cases c3 : F.f_Rules.length ≤ 20
      · rw [if_neg (by omega)]
        simp only [decide_eq_true c3, Bool.true_and]
        have hall := all_range c1
        obtain ⟨e, he, hq⟩ := rounds_any (b := fun s => slices_IndexFunc_uint16_uint16_at_impl_ValidFerry_1.b0 N F.f_Rules F s) F.f_Rules (bad (allF F)) (fun i => (i : Int)) (N := N) (by omega) (by
          intro i hi
          have g1 : (i : Int) < F.f_Rules.length := by omega
          have g2 : (0 : Int) ≤ i := by omega
          have hx := h3 _ (List.getElem_mem hi)
          simp only [slices_IndexFunc_uint16_uint16_at_impl_ValidFerry_1.b0, impl_ValidFerry_1.f, impl_inside.f, g1, g2, and_self, if_true, rdL_nat hi, i64w_succ hi (show F.f_Rules.length ≤ 9223372036854775807 by omega), F_eta, impl_all N c1, Option.bind_some, bad]
          by_cases c4 : bAndNot .u16 F.f_Rules[i] (allF F) = 0
          · have := andNot_le hx ⟨by omega, by omega⟩ c4
            simp only [c4, beq_self_eq_true, if_true, ones_eq N ⟨hx.1, show F.f_Rules[i] ≤ 255 by omega⟩, Option.bind_some]
            by_cases c5 : cnt F.f_Rules[i] < 2
            · simp [c5]
            · simp [c5]
          · simp [c4]) (by
          simp only [slices_IndexFunc_uint16_uint16_at_impl_ValidFerry_1.b0]
          rw [if_neg (by omega)])
        simp only [slices_ContainsFunc_uint16_uint16_at_impl_ValidFerry_1.f, slices_IndexFunc_uint16_uint16_at_impl_ValidFerry_1.f, F_eta, he]
        by_cases c4 : F.f_Rules.any (bad (allF F)) = true
        · rw [if_pos c4] at hq
          obtain ⟨i, rfl⟩ := hq
          simp only [Option.bind_some, Ex.fin, c4, Bool.not_true, decide_eq_true (show (i : Int) ≥ 0 by omega)]
        · rw [if_neg c4] at hq
          subst hq
          rw [Bool.not_eq_true] at c4
          simp only [Option.bind_some, Ex.fin, c4, Bool.not_false, slices_IndexFunc_uint16_uint16_at_impl_ValidFerry_1.a0]
          rfl
      · rw [if_pos (by omega)]
        simp [c3]
    · simp only [decide_eq_false c2, Bool.false_and]
      by_cases c3 : 0 ≤ F.f_Boat
      · rw [if_pos c3]
        have : ¬ F.f_Boat ≤ F.f_Things := fun h => c2 ⟨c3, h⟩
        simp [this]
      · rw [if_neg c3]; rfl
  · simp only [decide_eq_false c1, Bool.false_and]
    by_cases c3 : 1 ≤ F.f_Things
    · rw [if_pos c3]
      have : ¬ F.f_Things ≤ 8 := fun h => c1 ⟨c3, h⟩
      simp [this]
    · rw [if_neg c3]; rfl
theorem eqUint16S_same {N : Nat} {a : List Int} (h : a.length ≤ 1048576) (hN : a.length < N) : laws_eqUint16S.f N a a = some true := by
  unfold laws_eqUint16S.f
  rw [if_pos rfl, rounds_same a a rfl hN ?_ ?_]
  · simp [Ex.fin, laws_eqUint16S.a0]
  · intro i hi
    have g1 : (i : Int) < a.length := by omega
    have g2 : (0 : Int) ≤ i := by omega
    simp only [laws_eqUint16S.b0, g1, g2, and_self, if_true, i64w_succ hi (show a.length ≤ 9223372036854775807 by omega)]
  · simp only [laws_eqUint16S.b0]
    rw [if_neg (by omega)]
theorem eqFerry_same {N : Nat} {F : Fe} (h : F.f_Rules.length ≤ 1048576) (hN : F.f_Rules.length < N) : laws_eqFerry.f N F F = some true := by
  simp only [laws_eqFerry.f, if_true, eqUint16S_same h hN, Option.bind_some]
theorem markUint16S_eq {N : Nat} {a : List Int} {k : Int} (hk : 0 ≤ k ∧ k ≤ 1048578) (h : a.length ≤ 1048576) (hN : a.length < N) : laws_markUint16S.f N a k = some (k + a.length, marked u16w k a.length) := by
  unfold laws_markUint16S.f
  rw [rounds_mark u16w a k hN ?_ ?_]
  · rfl
  · intro x i hi hx
    simp only [laws_markUint16S.b0]
    rw [if_pos (by omega), if_pos ⟨by omega, by omega⟩, stL_nat, i64w_succ hi (by omega), i64w_id (x := k + (i : Int) + 1) (by omega) (by omega), show k + (i : Int) + 1 = k + ((i + 1 : Nat) : Int) by omega]
  · intro x hx
    simp only [laws_markUint16S.b0]
    rw [if_neg (by omega)]
theorem heldUint16S_eq {N n : Nat} {k : Int} (hk : 0 ≤ k ∧ k ≤ 1048578) (h : n ≤ 1048576) (hN : n < N) : laws_heldUint16S.f N (marked u16w k n) k = some (k + n) := by
  unfold laws_heldUint16S.f
  have hl := marked_len u16w k n
  rw [rounds_held n k hN ?_ ?_]
  · rfl
  · intro i hi
    simp only [laws_heldUint16S.b0]
    rw [if_pos (by omega), if_pos ⟨by omega, by omega⟩, rdL_nat (by omega), marked_get, if_pos rfl, i64w_succ hi (by omega), i64w_id (x := k + (i : Int) + 1) (by omega) (by omega), show k + (i : Int) + 1 = k + ((i + 1 : Nat) : Int) by omega]
  · simp only [laws_heldUint16S.b0]
    rw [if_neg (by omega)]
end Go.Proofs.YtmjkeidcoonghaaDoorX
