/- Numbers read from their texts. -/
import Derived.Test.YtmjkeidcoonghaaDoorYW
namespace Go.Proofs.YtmjkeidcoonghaaDoorX
open Go
set_option linter.unusedVariables false
set_option linter.unusedSimpArgs false
/-- Decimal digits, with a bound on their number. -/
def dd : Nat → Nat → List UInt8
  | 0, _ => []
  | k + 1, n => if n < 10 then [UInt8.ofNat (48 + n)] else dd k (n / 10) ++ [UInt8.ofNat (48 + n % 10)]
theorem dd_eq (k : Nat) : ∀ n : Nat, n < 10 ^ (k + 1) → Lib.decDigits n = dd (k + 1) n := by
  induction k with
  | zero =>
    intro n h
    have h10 : n < 10 := by simpa using h
    rw [Lib.decDigits, dif_pos h10, dd, if_pos h10]
  | succ k ih =>
    intro n h
    by_cases h10 : n < 10
    · rw [Lib.decDigits, dif_pos h10, dd, if_pos h10]
    · rw [Nat.pow_succ] at h
      rw [Lib.decDigits, dif_neg h10, dd, if_neg h10, ih (n / 10) (by omega)]
theorem dd5 {n : Nat} (h : n ≤ 2000) : Lib.decDigits n = dd 4 n := dd_eq 3 n (by omega)
theorem parse_lit : ∀ n : Nat, n < 2001 → parsed (dd 4 n) = ((n : Int), false) := by decide +kernel
theorem parsed_lit {n : Nat} (h : n ≤ 2000) : parsed (Lib.decDigits n) = ((n : Int), false) := by rw [dd5 h]; exact parse_lit n (by omega)
theorem parsed_range {l : List UInt8} (h : (parsed l).2 = false) : -9223372036854775808 ≤ (parsed l).1 ∧ (parsed l).1 ≤ 9223372036854775807 := by
  unfold parsed at h ⊢
  cases hp : Lib.parseIntB 64 l with
  | ok v =>
    show -9223372036854775808 ≤ v ∧ v ≤ 9223372036854775807
    unfold Lib.parseIntB at hp
    cases l with
    | nil => cases hp
    | cons c r =>
      simp only at hp
      cases hq : Lib.parseUintB 64 (if c.toNat = 43 ∨ c.toNat = 45 then r else c :: r) with
      | ok u =>
        rw [hq] at hp
        simp only at hp
        split at hp
        · cases hp
        · split at hp
          · cases hp
          · rename_i h1 h2
            have := Lib.NumEnd.ok.inj hp
            by_cases hn : c.toNat = 45
            · rw [if_pos hn] at this
              have : ¬ (2 ^ 63 < u) := fun g => h2 ⟨hn, g⟩
              omega
            · rw [if_neg hn] at this
              have : ¬ (2 ^ 63 ≤ u) := fun g => h1 ⟨hn, g⟩
              omega
      | _ => rw [hq] at hp; cases hp
  | _ => rw [hp] at h; cases h
/-- What the program's reader of numbers comes to. -/
def nuI (most : Int) (l : List UInt8) : Int × Bool := if (parsed l).2 = true then (0, false) else if Lib.itoa (parsed l).1 = l then (if 0 ≤ (parsed l).1 then (if (parsed l).1 ≤ most then ((parsed l).1, true) else (0, false)) else (0, false)) else (0, false)
theorem ba_litI {w : ByteArray} {l : List UInt8} : ((⟨l.toArray⟩ : ByteArray).toList = w.toList) ↔ l = w.data.toList := by
  rw [Lib.toList_data, Lib.toList_data]
theorem number_impl (N : Nat) {w : ByteArray} {most : Int} (hs : w.size ≤ 1048576) : impl_number.f N w most = some (nuI most w.data.toList) := by
  unfold impl_number.f strconv_ParseInt.f nuI
  rw [if_pos ⟨by omega, rfl, rfl⟩, Option.bind_some]
  by_cases h2 : (parsed w.data.toList).2 = true
  · rw [if_pos h2, if_pos h2]
  · have hr := parsed_range (l := w.data.toList) (by simpa using h2)
    have hd : impl_decimal.f N (parsed w.data.toList).1 = some ⟨(Lib.itoa (parsed w.data.toList).1).toArray⟩ := by
      unfold impl_decimal.f strconv_FormatInt.f
      rw [if_pos ⟨hr, rfl⟩]
      rfl
    rw [if_neg h2, if_neg h2, hd, Option.bind_some]
    by_cases h3 : Lib.itoa (parsed w.data.toList).1 = w.data.toList
    · rw [if_pos (ba_litI.2 h3), if_pos h3]
      unfold impl_within.f
      by_cases h4 : 0 ≤ (parsed w.data.toList).1
      · rw [if_pos h4, if_pos h4, Option.bind_some]
        by_cases h5 : (parsed w.data.toList).1 ≤ most
        · rw [decide_eq_true h5, if_pos rfl, if_pos h5]
        · rw [decide_eq_false h5, if_neg Bool.false_ne_true, if_neg h5]
      · rw [if_neg h4, if_neg h4, Option.bind_some, if_neg Bool.false_ne_true]
    · rw [if_neg (fun g => h3 (ba_litI.1 g)), if_neg h3]
theorem nuI_ok {most : Int} {l : List UInt8} (h : (nuI most l).2 = true) : (0 ≤ (nuI most l).1 ∧ (nuI most l).1 ≤ most) ∧ l = Lib.decDigits (nuI most l).1.toNat := by
  unfold nuI at h ⊢
  by_cases h2 : (parsed l).2 = true
  · rw [if_pos h2] at h; cases h
  · rw [if_neg h2] at h ⊢
    by_cases h3 : Lib.itoa (parsed l).1 = l
    · rw [if_pos h3] at h ⊢
      by_cases h4 : 0 ≤ (parsed l).1
      · rw [if_pos h4] at h ⊢
        by_cases h5 : (parsed l).1 ≤ most
        · rw [if_pos h5]
          refine ⟨⟨h4, h5⟩, ?_⟩
          have e : Lib.itoa (parsed l).1 = Lib.decDigits (parsed l).1.toNat := by unfold Lib.itoa; rw [if_neg (by omega)]
          exact h3.symm.trans e
        · rw [if_neg h5] at h; cases h
      · rw [if_neg h4] at h; cases h
    · rw [if_neg h3] at h; cases h
theorem nuI_lit {most : Int} (hm : most ≤ 2000) {n : Nat} (h : (n : Int) ≤ most) : nuI most (Lib.decDigits n) = ((n : Int), true) := by
  unfold nuI
  rw [parsed_lit (by omega)]
  have e : Lib.itoa (n : Int) = Lib.decDigits n := by unfold Lib.itoa; rw [if_neg (by omega), Int.toNat_natCast]
  rw [if_neg Bool.false_ne_true, if_pos e, if_pos (by omega), if_pos h]
/- the reference -/
abbrev nmS (acc : Int) (ch : UInt8) : Ex (Ex (Int × Bool) Int) Int := if (ch.toNat : Int) < 48 then .ret (.ret (0, false)) else if (ch.toNat : Int) > 57 then .ret (.ret (0, false)) else .go (10 * acc + ((ch.toNat : Int) - 48))
abbrev nmF (acc : Int) : Ex (Int × Bool) Int := .go acc
def fin2 : Ex (Int × Bool) Int → Int × Bool
  | .ret r => r
  | .go v => (v, true)
/-- What the reference's reader of numbers comes to. -/
def nuS (l : List UInt8) : Int × Bool := match l with
  | [] => (0, false)
  | h :: t => if t.length + 1 > 10 then (0, false) else if (h.toNat : Int) = 48 ∧ t.length + 1 > 1 then (0, false) else fin2 (walk nmS nmF 0 (h :: t))
theorem digit_back {ch : UInt8} (h : ¬ (ch.toNat : Int) < 48) : UInt8.ofNat (48 + (ch.toNat - 48)) = ch := by
  have : 48 + (ch.toNat - 48) = ch.toNat := by omega
  rw [this]
  exact UInt8.ofNat_toNat
theorem num_walk : ∀ (t : List UInt8) (v : Nat) (pre : List UInt8), 1 ≤ v → Lib.decDigits v = pre → walk nmS nmF (v : Int) t = .ret (0, false) ∨ ∃ u : Nat, walk nmS nmF (v : Int) t = .go (u : Int) ∧ Lib.decDigits u = pre ++ t
  | [], v, pre, _, h => .inr ⟨v, rfl, by simpa using h⟩
  | ch :: t, v, pre, hv, h => by
    unfold walk
    by_cases c1 : (ch.toNat : Int) < 48
    · rw [show nmS (v : Int) ch = .ret (.ret (0, false)) from if_pos c1]; exact .inl rfl
    · by_cases c2 : (ch.toNat : Int) > 57
      · rw [show nmS (v : Int) ch = .ret (.ret (0, false)) by unfold nmS; rw [if_neg c1, if_pos c2]]; exact .inl rfl
      · have e : (10 * (v : Int) + ((ch.toNat : Int) - 48)) = ((10 * v + (ch.toNat - 48) : Nat) : Int) := by omega
        rw [show nmS (v : Int) ch = .go ((10 * v + (ch.toNat - 48) : Nat) : Int) by unfold nmS; rw [if_neg c1, if_neg c2, e]]
        have hd : Lib.decDigits (10 * v + (ch.toNat - 48)) = pre ++ [ch] := by
          rw [Lib.decDigits, dif_neg (by omega), show (10 * v + (ch.toNat - 48)) / 10 = v by omega, show (10 * v + (ch.toNat - 48)) % 10 = ch.toNat - 48 by omega, h, digit_back c1]
        rcases num_walk t (10 * v + (ch.toNat - 48)) (pre ++ [ch]) (by omega) hd with g | ⟨u, g1, g2⟩
        · exact .inl g
        · exact .inr ⟨u, g1, by rw [g2, List.append_assoc]; rfl⟩
theorem nuS_ok {l : List UInt8} (h : (nuS l).2 = true) : ∃ n : Nat, (nuS l).1 = (n : Int) ∧ Lib.decDigits n = l := by
  unfold nuS at h ⊢
  cases l with
  | nil => cases h
  | cons x t =>
    simp only at h ⊢
    by_cases c0 : t.length + 1 > 10
    · rw [if_pos c0] at h; cases h
    · rw [if_neg c0] at h ⊢
      by_cases c1 : (x.toNat : Int) = 48 ∧ t.length + 1 > 1
      · rw [if_pos c1] at h; cases h
      · rw [if_neg c1] at h ⊢
        unfold walk at h ⊢
        by_cases d1 : (x.toNat : Int) < 48
        · rw [show nmS 0 x = .ret (.ret (0, false)) from if_pos d1] at h; cases h
        · by_cases d2 : (x.toNat : Int) > 57
          · rw [show nmS 0 x = .ret (.ret (0, false)) by unfold nmS; rw [if_neg d1, if_pos d2]] at h; cases h
          · have e : nmS 0 x = .go ((x.toNat - 48 : Nat) : Int) := by
              unfold nmS
              rw [if_neg d1, if_neg d2]
              exact congrArg _ (by omega)
            rw [e] at h ⊢
            simp only at h ⊢
            have hd : Lib.decDigits (x.toNat - 48) = [x] := by
              rw [Lib.decDigits, dif_pos (by omega), digit_back d1]
            by_cases z : x.toNat - 48 = 0
            · have ht : t = [] := by
                cases t with
                | nil => rfl
                | cons y t => exact absurd ⟨by omega, by simp⟩ c1
              subst ht
              exact ⟨x.toNat - 48, rfl, hd⟩
            · rcases num_walk t (x.toNat - 48) [x] (by omega) hd with g | ⟨u, g1, g2⟩
              · rw [g] at h; cases h
              · rw [g1]; exact ⟨u, rfl, g2⟩
theorem nuS_lit4 : ∀ n : Nat, n < 2001 → nuS (dd 4 n) = ((n : Int), true) := by decide +kernel
theorem nuS_lit {n : Nat} (h : n ≤ 2000) : nuS (Lib.decDigits n) = ((n : Int), true) := by rw [dd5 h]; exact nuS_lit4 n (by omega)
/-- Both read the same numbers. -/
theorem nuS_of_nuI {most : Int} (hm : most ≤ 2000) {l : List UInt8} (h : (nuI most l).2 = true) : nuS l = ((nuI most l).1, true) ∧ (0 ≤ (nuI most l).1 ∧ (nuI most l).1 ≤ most) := by
  obtain ⟨hr, hl⟩ := nuI_ok h
  have := nuS_lit (n := (nuI most l).1.toNat) (by omega)
  rw [← hl, Int.toNat_of_nonneg hr.1] at this
  exact ⟨this, hr⟩
theorem nuI_of_nuS {most : Int} (hm : most ≤ 2000) {l : List UInt8} (h : (nuS l).2 = true) (hle : (nuS l).1 ≤ most) : nuI most l = ((nuS l).1, true) := by
  obtain ⟨n, hn, hl⟩ := nuS_ok h
  rw [hn] at hle ⊢
  rw [← hl]
  exact nuI_lit hm hle
theorem pow_le : ∀ i : Nat, i < 11 → (10 : Int) ^ i ≤ 10000000000 := by decide
theorem number_spec {N : Nat} {w : ByteArray} (hN : 20 < N) : spec_l01Number.f N w = some (nuS w.data.toList) := by
  have hL := sz w
  have e0 : (w.toList = (⟨#[]⟩ : ByteArray).toList) ↔ w.data.toList = [] := by
    rw [Lib.toList_data, Lib.toList_data]
  unfold spec_l01Number.f
  cases hl : w.data.toList with
  | nil => rw [if_pos (e0.2 hl)]; rfl
  | cons x t =>
    have hlen : w.size = t.length + 1 := by rw [hL, hl]; rfl
    rw [if_neg (fun g => by rw [e0.1 g] at hl; cases hl)]
    unfold nuS
    simp only
    by_cases c0 : t.length + 1 > 10
    · rw [if_pos c0, if_pos (by omega)]
    · have g0 : (0 : Int) ≤ 0 ∧ (0 : Int) < w.size := ⟨by omega, by omega⟩
      have eb : btS w 0 = (x.toNat : Int) := by
        have := btS_nat w (i := 0) (by rw [hl]; simp)
        rw [show ((0 : Nat) : Int) = 0 from rfl] at this
        rw [this]
        simp [hl]
      have q : rounds (fun s => spec_l01Number.b1 N w s.1 s.2) N (0, 0) = some (walk nmS nmF 0 w.data.toList) := by
        refine rounds_walk0 (fun acc i => (acc, i)) w.data.toList nmS nmF (fun i acc => 0 ≤ acc ∧ acc + 1 ≤ 10 ^ i) (by omega) ⟨by omega, by simp⟩ ?_ ?_
        · intro acc i hi hI
          have g1 : (i : Int) < w.size := by omega
          have g2 : (0 : Int) ≤ i := by omega
          have hp := pow_le i (by omega)
          have hb : spec_l01Number.b1 N w acc (i : Int) = if ((w.data.toList[i]).toNat : Int) < 48 then some (.out (.ret (0, false))) else if ((w.data.toList[i]).toNat : Int) > 57 then some (.out (.ret (0, false))) else some (.next (10 * acc + (((w.data.toList[i]).toNat : Int) - 48), ((i + 1 : Nat) : Int))) := by
            unfold spec_l01Number.b1
            rw [if_pos g1, if_pos ⟨g2, g1⟩, btS_nat w hi]
            by_cases c1 : ((w.data.toList[i]).toNat : Int) < 48
            · rw [if_pos c1, if_pos c1]
            · rw [if_neg c1, if_neg c1, if_pos ⟨g2, g1⟩]
              by_cases c2 : ((w.data.toList[i]).toNat : Int) > 57
              · rw [if_pos c2, if_pos c2]
              · have e1 : u8w (((w.data.toList[i]).toNat : Int) - 48) = ((w.data.toList[i]).toNat : Int) - 48 := u8w_id (by omega) (by omega)
                have e2 : i64w (((w.data.toList[i]).toNat : Int) - 48) = ((w.data.toList[i]).toNat : Int) - 48 := i64w_id (by omega) (by omega)
                have e3 : i64w (10 * acc) = 10 * acc := i64w_id (by omega) (by omega)
                have e4 : i64w (10 * acc + (((w.data.toList[i]).toNat : Int) - 48)) = 10 * acc + (((w.data.toList[i]).toNat : Int) - 48) := i64w_id (by omega) (by omega)
                have e5 : i64w ((i : Int) + 1) = ((i + 1 : Nat) : Int) := i64w_succ (n := w.size) (by omega) (by omega)
                rw [if_neg c2, if_neg c2, if_pos ⟨g2, g1⟩, e1, e2, e3, e4, e5]
          by_cases c1 : ((w.data.toList[i]).toNat : Int) < 48
          · rw [show nmS acc w.data.toList[i] = .ret (.ret (0, false)) from if_pos c1]
            show spec_l01Number.b1 N w acc (i : Int) = _
            rw [hb, if_pos c1]
          · by_cases c2 : ((w.data.toList[i]).toNat : Int) > 57
            · rw [show nmS acc w.data.toList[i] = .ret (.ret (0, false)) by unfold nmS; rw [if_neg c1, if_pos c2]]
              show spec_l01Number.b1 N w acc (i : Int) = _
              rw [hb, if_neg c1, if_pos c2]
            · rw [show nmS acc w.data.toList[i] = .go (10 * acc + (((w.data.toList[i]).toNat : Int) - 48)) by unfold nmS; rw [if_neg c1, if_neg c2]]
              refine ⟨⟨by omega, by rw [Int.pow_succ]; omega⟩, ?_⟩
              show spec_l01Number.b1 N w acc (i : Int) = _
              rw [hb, if_neg c1, if_neg c2]
        · intro acc _
          show spec_l01Number.b1 N w acc (w.data.toList.length : Int) = _
          unfold spec_l01Number.b1
          rw [if_neg (by omega)]
      have hj : spec_l01Number.j0 N w = some (fin2 (walk nmS nmF 0 (x :: t))) := by
        unfold spec_l01Number.j0
        rw [q, hl, Option.bind_some]
        cases walk nmS nmF 0 (x :: t) with
        | ret r => rfl
        | go v => rfl
      rw [if_neg c0, if_neg (by omega), if_pos g0, eb, hj]
      by_cases c1 : (x.toNat : Int) = 48
      · rw [if_pos c1]
        by_cases c2 : t.length + 1 > 1
        · rw [if_pos (by omega), if_pos ⟨c1, c2⟩]
        · rw [if_neg (by omega), if_neg (fun g => c2 g.2)]
      · rw [if_neg c1, if_neg (fun g => c1 g.1)]
end Go.Proofs.YtmjkeidcoonghaaDoorX
