/- Plain laws of loops ('rounds') and of wrapped numbers, for the plain side of a row. -/
import Derived.Test.YtgpdpedpmhonkaaXPure
namespace Go.Proofs.YtgpdpedpmhonkaaX
open Go
set_option linter.unusedVariables false

theorem i64w_id {x : Int} (h : -9223372036854775808 ≤ x) (h' : x ≤ 9223372036854775807) : i64w x = x := by
  simp [IntKind.wrap, IntKind.bits, IntKind.signed]; omega
theorem i32w_id {x : Int} (h : -2147483648 ≤ x) (h' : x ≤ 2147483647) : i32w x = x := by
  simp [IntKind.wrap, IntKind.bits, IntKind.signed]; omega
theorem i16w_id {x : Int} (h : -32768 ≤ x) (h' : x ≤ 32767) : i16w x = x := by
  simp [IntKind.wrap, IntKind.bits, IntKind.signed]; omega
theorem i8w_id {x : Int} (h : -128 ≤ x) (h' : x ≤ 127) : i8w x = x := by
  simp [IntKind.wrap, IntKind.bits, IntKind.signed]; omega
theorem u8w_id {x : Int} (h : 0 ≤ x) (h' : x ≤ 255) : u8w x = x := by
  simp [IntKind.wrap, IntKind.bits, IntKind.signed]; omega
theorem u16w_id {x : Int} (h : 0 ≤ x) (h' : x ≤ 65535) : u16w x = x := by
  simp [IntKind.wrap, IntKind.bits, IntKind.signed]; omega
theorem u32w_id {x : Int} (h : 0 ≤ x) (h' : x ≤ 4294967295) : u32w x = x := by
  simp [IntKind.wrap, IntKind.bits, IntKind.signed]; omega
theorem u64w_id {x : Int} (h : 0 ≤ x) (h' : x ≤ 18446744073709551615) : u64w x = x := by
  simp [IntKind.wrap, IntKind.bits, IntKind.signed]; omega
theorem i64w_succ {i n : Nat} (h : i < n) (hn : n ≤ 9223372036854775807) : i64w ((i : Int) + 1) = ((i + 1 : Nat) : Int) := by
  rw [i64w_id (by omega) (by omega)]; omega

theorem min_i16 : IntKind.min .i16 = -32768 := rfl
theorem max_i16 : IntKind.max .i16 = 32767 := rfl
theorem min_u8 : IntKind.min .u8 = 0 := rfl
theorem max_u8 : IntKind.max .u8 = 255 := rfl
theorem min_i64 : IntKind.min .i64 = -9223372036854775808 := rfl
theorem max_i64 : IntKind.max .i64 = 9223372036854775807 := rfl
theorem min_u16 : IntKind.min .u16 = 0 := rfl
theorem max_u16 : IntKind.max .u16 = 65535 := rfl
theorem min_i32 : IntKind.min .i32 = -2147483648 := rfl
theorem max_i32 : IntKind.max .i32 = 2147483647 := rfl

theorem rdL_nat {α : Type} {xs : List α} {i : Nat} {z : α} (h : i < xs.length) : rdL xs (i : Int) z = xs[i] := by simp [rdL, h]
theorem stL_nat {α : Type} (xs : List α) (i : Nat) (v : α) : stL xs (i : Int) v = xs.set i v := by simp [stL]

section
variable {ρ σ τ α : Type}
/-- A loop whose states are known. -/
theorem rounds_for {b : τ → Option (Bd ρ σ τ)} {e : Ex ρ σ} (mk : Nat → τ) : ∀ (n k N : Nat), k ≤ n → n - k < N → (∀ i, k ≤ i → i < n → b (mk i) = some (.next (mk (i + 1)))) → b (mk n) = some (.out e) → rounds b N (mk k) = some e
  | n, k, 0, _, h, _, _ => absurd h (Nat.not_lt_zero _)
  | n, k, N + 1, hk, hN, hs, he => by
    by_cases hkn : k = n
    · subst hkn; exact rounds_out he
    · rw [rounds_next (hs k (Nat.le_refl _) (by omega))]
      exact rounds_for mk n (k + 1) N (by omega) (by omega) (fun i h1 h2 => hs i (by omega) h2) he

theorem rounds_mono {b : τ → Option (Bd ρ σ τ)} {e : Ex ρ σ} : ∀ {n m : Nat} {s : τ}, rounds b n s = some e → n ≤ m → rounds b m s = some e
  | 0, _, _, h, _ => by cases h
  | n + 1, 0, _, _, h => absurd h (Nat.not_succ_le_zero _)
  | n + 1, m + 1, s, h, hm => by
    simp only [rounds] at h ⊢
    cases hb : b s with
    | none => rw [hb] at h; cases h
    | some x =>
      rw [hb] at h
      cases x with
      | next s' => exact rounds_mono (by simpa using h) (Nat.le_of_succ_le_succ hm)
      | out e' => exact h

/-- What a loop over a list comes to. -/
def walk {β : Type} (step : β → α → Ex (Ex ρ σ) β) (fin : β → Ex ρ σ) : β → List α → Ex ρ σ
  | acc, [] => fin acc
  | acc, x :: xs => match step acc x with
    | .ret e => e
    | .go acc' => walk step fin acc' xs

/-- A loop over a list, which may stop before its end. -/
theorem rounds_walk {β : Type} {b : τ → Option (Bd ρ σ τ)} (mk : β → Int → τ) (a : List α) (step : β → α → Ex (Ex ρ σ) β) (fin : β → Ex ρ σ) (I : Nat → β → Prop)
    (h1 : ∀ acc (i : Nat) (hi : i < a.length), I i acc → match step acc a[i] with
      | .ret e => b (mk acc i) = some (.out e)
      | .go acc' => I (i + 1) acc' ∧ b (mk acc i) = some (.next (mk acc' ((i + 1 : Nat) : Int))))
    (h2 : ∀ acc, I a.length acc → b (mk acc a.length) = some (.out (fin acc))) :
    ∀ (N k : Nat) (acc : β), k ≤ a.length → a.length - k < N → I k acc → rounds b N (mk acc k) = some (walk step fin acc (a.drop k))
  | 0, k, acc, _, h, _ => absurd h (Nat.not_lt_zero _)
  | N + 1, k, acc, hk, hN, hI => by
    by_cases hkn : k = a.length
    · subst hkn
      rw [rounds_out (h2 acc hI), List.drop_length]
      rfl
    · have hlt : k < a.length := by omega
      have q := h1 acc k hlt hI
      rw [List.drop_eq_getElem_cons hlt]
      simp only [walk]
      revert q
      cases step acc a[k] with
      | ret e => exact fun q => rounds_out q
      | go acc' =>
        intro q
        rw [rounds_next q.2]
        exact rounds_walk mk a step fin I h1 h2 N (k + 1) acc' (by omega) (by omega) q.1

theorem rounds_walk0 {β : Type} {b : τ → Option (Bd ρ σ τ)} (mk : β → Int → τ) (a : List α) (step : β → α → Ex (Ex ρ σ) β) (fin : β → Ex ρ σ) (I : Nat → β → Prop) {N : Nat} {acc : β}
    (hN : a.length < N) (h0 : I 0 acc)
    (h1 : ∀ acc (i : Nat) (hi : i < a.length), I i acc → match step acc a[i] with
      | .ret e => b (mk acc i) = some (.out e)
      | .go acc' => I (i + 1) acc' ∧ b (mk acc i) = some (.next (mk acc' ((i + 1 : Nat) : Int))))
    (h2 : ∀ acc, I a.length acc → b (mk acc a.length) = some (.out (fin acc))) :
    rounds b N (mk acc 0) = some (walk step fin acc a) := by
  have := rounds_walk mk a step fin I h1 h2 N 0 acc (Nat.zero_le _) (by simpa using hN) h0
  simpa using this

/-- A loop that ends. -/
theorem rounds_ends {b : τ → Option (Bd ρ σ τ)} (I : τ → Prop) (m : τ → Nat) (Q : Ex ρ σ → Prop)
    (h : ∀ s, I s → (∃ e, b s = some (.out e) ∧ Q e) ∨ ∃ s', b s = some (.next s') ∧ I s' ∧ m s' < m s) : ∀ (N : Nat) (s : τ), I s → m s < N → ∃ e, rounds b N s = some e ∧ Q e
  | 0, s, _, h => absurd h (Nat.not_lt_zero _)
  | N + 1, s, hI, hN => by
    rcases h s hI with ⟨e, he, hq⟩ | ⟨s', hs, hI', hm⟩
    · exact ⟨e, rounds_out he, hq⟩
    · rw [rounds_next hs]
      exact rounds_ends I m Q h N s' hI' (by omega)

/-- Two loops that go side by side. -/
theorem rounds_both {ρ' σ' τ' : Type} {b : τ → Option (Bd ρ σ τ)} {b' : τ' → Option (Bd ρ' σ' τ')} (R : τ → τ' → Prop) (m : τ → Nat) (Q : Ex ρ σ → Ex ρ' σ' → Prop)
    (h : ∀ s t, R s t → (∃ e e', b s = some (.out e) ∧ b' t = some (.out e') ∧ Q e e') ∨ ∃ s' t', b s = some (.next s') ∧ b' t = some (.next t') ∧ R s' t' ∧ m s' < m s) :
    ∀ (N N' : Nat) (s : τ) (t : τ'), R s t → m s < N → m s < N' → ∃ e e', rounds b N s = some e ∧ rounds b' N' t = some e' ∧ Q e e'
  | 0, N', s, _, _, h, _ => absurd h (Nat.not_lt_zero _)
  | N + 1, 0, s, _, _, _, h => absurd h (Nat.not_lt_zero _)
  | N + 1, N' + 1, s, t, hI, hN, hN' => by
    rcases h s t hI with ⟨e, e', he, he', hq⟩ | ⟨s', t', hs, ht, hI', hm⟩
    · exact ⟨e, e', rounds_out he, rounds_out he', hq⟩
    · rw [rounds_next hs, rounds_next ht]
      exact rounds_both R m Q h N N' s' t' hI' (by omega) (by omega)

theorem copy_len (a : List α) (z : α) (k : Nat) (h : k ≤ a.length) : (a.take k ++ List.replicate (a.length - k) z).length = a.length := by simp; omega
theorem copy_set (a : List α) (z : α) (k : Nat) (h : k < a.length) : (a.take k ++ List.replicate (a.length - k) z).set k a[k] = a.take (k + 1) ++ List.replicate (a.length - (k + 1)) z := by
  apply List.ext_getElem?
  intro i
  by_cases h1 : i = k
  · subst h1
    rw [List.getElem?_set_self (by simp; omega), List.getElem?_append_left (by simp; omega), List.getElem?_take]
    simp [h]
  · rw [List.getElem?_set_ne (by omega)]
    by_cases h2 : i < k
    · rw [List.getElem?_append_left (by simp; omega), List.getElem?_append_left (by simp; omega), List.getElem?_take, List.getElem?_take]
      simp [h2, show i < k + 1 by omega]
    · rw [List.getElem?_append_right (by simp; omega), List.getElem?_append_right (by simp; omega)]
      simp only [List.length_take, List.getElem?_replicate]
      rw [Nat.min_eq_left (by omega), Nat.min_eq_left (by omega)]
      by_cases h3 : i < a.length
      · simp [show i - k < a.length - k by omega, show i - (k + 1) < a.length - (k + 1) by omega]
      · simp [show ¬ i - k < a.length - k by omega, show ¬ i - (k + 1) < a.length - (k + 1) by omega]

/-- A loop that copies a list into a new one of its length. -/
theorem rounds_copy {b : List α × Int → Option (Bd ρ (List α) (List α × Int))} (a : List α) (z : α) {N : Nat} (hN : a.length < N)
    (hs : ∀ (x : List α) (i : Nat) (hi : i < a.length), x.length = a.length → b (x, (i : Int)) = some (.next (x.set i a[i], ((i + 1 : Nat) : Int))))
    (he : ∀ x, x.length = a.length → b (x, (a.length : Int)) = some (.out (.go x))) :
    rounds b N (List.replicate a.length z, 0) = some (.go a) := by
  have q := rounds_for (b := b) (e := .go a) (fun k => (a.take k ++ List.replicate (a.length - k) z, (k : Int))) a.length 0 N (Nat.zero_le _) (by simpa using hN)
    (fun i _ hi => by
      rw [hs _ i hi (copy_len a z i (by omega)), copy_set a z i hi])
    (by
      rw [he _ (copy_len a z _ (Nat.le_refl _))]
      simp)
  simpa using q

/-- A loop that compares two lists of one length. -/
theorem rounds_same [DecidableEq α] {b : Int → Option (Bd Bool Unit Int)} (a c : List α) (hl : a.length = c.length) {N : Nat} (hN : a.length < N)
    (hs : ∀ (i : Nat) (hi : i < a.length), b (i : Int) = if a[i] = c[i] then some (.next ((i + 1 : Nat) : Int)) else some (.out (.ret false)))
    (he : b (a.length : Int) = some (.out (.go ()))) :
    rounds b N 0 = some (if a = c then .go () else .ret false) := by
  have main : ∀ (N k : Nat), k ≤ a.length → a.length - k < N → rounds b N (k : Int) = some (if a.drop k = c.drop k then .go () else .ret false) := by
    intro N
    induction N with
    | zero => intro k _ h; exact absurd h (Nat.not_lt_zero _)
    | succ N ih =>
      intro k hk hN
      by_cases hkn : k = a.length
      · subst hkn
        rw [rounds_out he, List.drop_length, hl, List.drop_length]
        simp
      · have h1 : k < a.length := by omega
        have h2 : k < c.length := by omega
        rw [List.drop_eq_getElem_cons h1, List.drop_eq_getElem_cons h2]
        by_cases hq : a[k] = c[k]
        · rw [rounds_next (by rw [hs k h1, if_pos hq]), ih (k + 1) (by omega) (by omega)]
          simp only [hq, List.cons.injEq, true_and]
        · rw [rounds_out (by rw [hs k h1, if_neg hq])]
          simp only [List.cons.injEq, hq, false_and, if_false]
  simpa using main N 0 (Nat.zero_le _) (by simpa using hN)
end
end Go.Proofs.YtgpdpedpmhonkaaX
