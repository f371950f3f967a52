/- Sets read from their texts. -/
import Derived.Test.YtmjkeidcoonghaaDoorYW
namespace Go.Proofs.YtmjkeidcoonghaaDoorX
open Go
set_option linter.unusedVariables false
set_option linter.unusedSimpArgs false
/-- The text of a set. -/
def txt (x : Int) : List UInt8 := ((impl_setText.f 70 x).map (·.data.toList)).getD []
theorem txt_all : ∀ n : Nat, n < 256 → impl_setText.f 70 (n : Int) = some ⟨(txt n).toArray⟩ ∧ spec_l05Text.f 10 (n : Int) = some ⟨(txt n).toArray⟩ := by decide +kernel
theorem txt_at {N : Nat} (hN : 70 < N) {x : Int} (h : 0 ≤ x ∧ x < 256) : impl_setText.f N x = some ⟨(txt x).toArray⟩ ∧ spec_l05Text.f N x = some ⟨(txt x).toArray⟩ := by
  have := txt_all x.toNat (by omega)
  rw [Int.toNat_of_nonneg h.1] at this
  obtain ⟨q1, q2⟩ := this
  refine ⟨?_, ?_⟩
  · unfold impl_setText.f at q1 ⊢
    by_cases hz : x = 0
    · rw [if_pos hz] at q1 ⊢; exact q1
    · rw [if_neg hz] at q1 ⊢
      obtain ⟨e, he, hf⟩ := bind_get q1
      rw [show (fun s : ByteArray × Int => impl_setText.b0 N x s.1 s.2) = (fun s => impl_setText.b0 70 x s.1 s.2) from rfl, rounds_mono he (by omega)]
      exact hf
  · unfold spec_l05Text.f at q2 ⊢
    by_cases hz : x = 0
    · rw [if_pos hz] at q2 ⊢; exact q2
    · rw [if_neg hz] at q2 ⊢
      obtain ⟨e, he, hf⟩ := bind_get q2
      rw [show (fun s : ByteArray × Int => spec_l05Text.b0 N x s.1 s.2) = (fun s => spec_l05Text.b0 10 x s.1 s.2) from rfl, rounds_mono he (by omega)]
      exact hf
/-- The set with one letter more. -/
def st4 (many : Int) (s : Int) (ch : UInt8) : Int := if 97 ≤ (ch.toNat : Int) ∧ (ch.toNat : Int) < 97 + many then bOr .u64 s (shlI .u64 1 ((ch.toNat : Int) - 97)) else s
theorem or_all8 : ∀ s : Nat, s < 256 → ∀ n : Nat, n < 8 → 0 ≤ bOr .u64 (s : Int) (shlI .u64 1 (n : Int)) ∧ bOr .u64 (s : Int) (shlI .u64 1 (n : Int)) < 256 := by decide +kernel
theorem or_all4 : ∀ s : Nat, s < 16 → ∀ n : Nat, n < 4 → 0 ≤ bOr .u64 (s : Int) (shlI .u64 1 (n : Int)) ∧ bOr .u64 (s : Int) (shlI .u64 1 (n : Int)) < 16 := by decide +kernel
theorem or16_all8 : ∀ s : Nat, s < 256 → ∀ n : Nat, n < 8 → 0 ≤ bOr .u16 (s : Int) (shlI .u16 1 (n : Int)) ∧ bOr .u16 (s : Int) (shlI .u16 1 (n : Int)) < 256 := by decide +kernel
/-- How many letters, and how many sets of them. -/
def Kind (many lim : Int) : Prop := (many = 4 ∧ lim = 16) ∨ (many = 8 ∧ lim = 256)
theorem st4_range {many lim : Int} (hk : Kind many lim) {s : Int} (h : 0 ≤ s ∧ s < lim) (ch : UInt8) : 0 ≤ st4 many s ch ∧ st4 many s ch < lim := by
  unfold st4
  by_cases c : 97 ≤ (ch.toNat : Int) ∧ (ch.toNat : Int) < 97 + many
  · rw [if_pos c]
    obtain ⟨n, hn⟩ := Int.eq_ofNat_of_zero_le h.1
    obtain ⟨m, hm⟩ := Int.eq_ofNat_of_zero_le (show 0 ≤ (ch.toNat : Int) - 97 by omega)
    subst hn
    rw [hm]
    rcases hk with ⟨rfl, rfl⟩ | ⟨rfl, rfl⟩
    · exact or_all4 n (by omega) m (by omega)
    · exact or_all8 n (by omega) m (by omega)
  · rw [if_neg c]; exact h
abbrev rdF (many : Int) (l : List UInt8) : Int := l.foldl (st4 many) 0
theorem rdF_range {many lim : Int} (hk : Kind many lim) : ∀ (l : List UInt8) (s : Int), 0 ≤ s ∧ s < lim → 0 ≤ l.foldl (st4 many) s ∧ l.foldl (st4 many) s < lim
  | [], s, h => h
  | x :: l, s, h => rdF_range hk l _ (st4_range hk h x)
/-- What the program's reader of sets comes to. -/
def imR (many : Int) (l : List UInt8) : Int × Bool := (rdF many l, decide (txt (rdF many l) = l))
theorem ba_lit {w : ByteArray} {l : List UInt8} : ((⟨l.toArray⟩ : ByteArray) = w) ↔ l = w.data.toList := by
  constructor
  · intro h; rw [← h]
  · intro h; subst h; rfl
theorem read_impl {N : Nat} {w : ByteArray} {many lim : Int} (hk : Kind many lim) (hs : w.size ≤ 1048576) (hN : w.size + 70 < N) : impl_readSet.f N w many = some (imR many w.data.toList) := by
  have hL := sz w
  have hmany : 0 ≤ many ∧ many ≤ 8 := by rcases hk with ⟨rfl, _⟩ | ⟨rfl, _⟩ <;> omega
  have q : rounds (fun s => impl_readSet.b0 N w many s.1 s.2) N (0, 0) = some (.go (rdF many w.data.toList)) := by
    have q := rounds_for (b := fun s => impl_readSet.b0 N w many s.1 s.2) (e := .go (rdF many w.data.toList)) (fun k => ((w.data.toList.take k).foldl (st4 many) 0, (k : Int))) w.size 0 N (by omega) (by omega) (by
      intro i _ hi
      have hl : i < w.data.toList.length := by omega
      have g1 : (i : Int) < w.size := by omega
      have g2 : (0 : Int) ≤ i := by omega
      have hb : (w.data.toList[i]).toNat < 256 := (w.data.toList[i]).toNat_lt
      have e1 : i64w ((w.data.toList[i]).toNat : Int) = ((w.data.toList[i]).toNat : Int) := i64w_id (by omega) (by omega)
      have e2 : i64w (((w.data.toList[i]).toNat : Int) - 97) = ((w.data.toList[i]).toNat : Int) - 97 := i64w_id (by omega) (by omega)
      have e3 : i64w ((i : Int) + 1) = ((i + 1 : Nat) : Int) := i64w_succ (n := w.size) hi (by omega)
      show impl_readSet.b0 N w many ((w.data.toList.take i).foldl (st4 many) 0) (i : Int) = some (.next ((w.data.toList.take (i + 1)).foldl (st4 many) 0, ((i + 1 : Nat) : Int)))
      rw [List.take_add_one, List.getElem?_eq_getElem hl, List.foldl_append]
      show _ = some (Bd.next (st4 many ((w.data.toList.take i).foldl (st4 many) 0) w.data.toList[i], ((i + 1 : Nat) : Int)))
      unfold impl_readSet.b0 impl_readSet.j2 st4
      rw [if_pos g1, if_pos ⟨g2, g1⟩, btS_nat w hl, e1, e2, e3]
      by_cases c1 : ((w.data.toList[i]).toNat : Int) - 97 ≥ 0
      · rw [if_pos c1]
        by_cases c2 : ((w.data.toList[i]).toNat : Int) - 97 < many
        · rw [if_pos c2, if_pos (show (0 : Int) ≤ ((w.data.toList[i]).toNat : Int) - 97 by omega), if_pos ⟨by omega, by omega⟩]
        · rw [if_neg c2, if_neg (fun g => c2 (by omega))]
      · rw [if_neg c1, if_neg (fun g => c1 (by omega))]) (by
      show impl_readSet.b0 N w many _ (w.size : Int) = _
      unfold impl_readSet.b0
      rw [if_neg (by omega), hL, List.take_length])
    simpa using q
  have hr : 0 ≤ rdF many w.data.toList ∧ rdF many w.data.toList < lim := rdF_range hk w.data.toList 0 ⟨by omega, by rcases hk with ⟨_, rfl⟩ | ⟨_, rfl⟩ <;> omega⟩
  have ht := (txt_at (N := N) (by omega) (x := rdF many w.data.toList) ⟨hr.1, by rcases hk with ⟨_, rfl⟩ | ⟨_, rfl⟩ <;> omega⟩).1
  unfold impl_readSet.f
  rw [q, Option.bind_some]
  show impl_readSet.a0 N w (rdF many w.data.toList) = _
  unfold impl_readSet.a0 imR
  rw [ht, Option.bind_some, ba_eq]
  simp only [ba_lit]
abbrev spS (s : Int) (ch : UInt8) : Ex (Ex (Int × Bool) Int) Int := if (ch.toNat : Int) < 97 then .ret (.ret (0, false)) else if (ch.toNat : Int) ≥ 105 then .ret (.ret (0, false)) else .go (bOr .u16 s (shlI .u16 1 ((ch.toNat : Int) - 97)))
abbrev spF (s : Int) : Ex (Int × Bool) Int := .go s
/-- What the reference's reader of sets comes to. -/
def spR (l : List UInt8) : Int × Bool := if l = [45] then (0, true) else match walk spS spF 0 l with
  | .ret r => r
  | .go v => if l = [] then (v, false) else (v, decide (txt v = l))
theorem sp_inv : ∀ (l : List UInt8) (s : Int), 0 ≤ s ∧ s < 256 → walk spS spF s l = .ret (0, false) ∨ ∃ v, walk spS spF s l = .go v ∧ 0 ≤ v ∧ v < 256
  | [], s, h => .inr ⟨s, rfl, h⟩
  | x :: l, s, h => by
    unfold walk
    by_cases c1 : (x.toNat : Int) < 97
    · rw [show spS s x = .ret (.ret (0, false)) from if_pos c1]; exact .inl rfl
    · by_cases c2 : (x.toNat : Int) ≥ 105
      · rw [show spS s x = .ret (.ret (0, false)) by unfold spS; rw [if_neg c1, if_pos c2]]; exact .inl rfl
      · rw [show spS s x = .go (bOr .u16 s (shlI .u16 1 ((x.toNat : Int) - 97))) by unfold spS; rw [if_neg c1, if_neg c2]]
        obtain ⟨n, hn⟩ := Int.eq_ofNat_of_zero_le h.1
        obtain ⟨m, hm⟩ := Int.eq_ofNat_of_zero_le (show 0 ≤ (x.toNat : Int) - 97 by omega)
        subst hn
        rw [hm]
        exact sp_inv l _ (or16_all8 n (by omega) m (by omega))
theorem u8_97 {n : Nat} (h1 : ¬ (n : Int) < 97) (h2 : ¬ (n : Int) ≥ 105) : u64w (u8w ((n : Int) - 97)) = (n : Int) - 97 := by
  have e1 : u8w ((n : Int) - 97) = (n : Int) - 97 := u8w_id (by omega) (by omega)
  rw [e1, u64w_id (by omega) (by omega)]
theorem read_spec {N : Nat} {w : ByteArray} (hs : w.size ≤ 1048576) (hN : w.size + 70 < N) : spec_l05Read.f N w = some (spR w.data.toList) := by
  have hL := sz w
  have e45 : (w.toList = (⟨#[45]⟩ : ByteArray).toList) ↔ w.data.toList = [45] := by
    rw [Lib.toList_data, Lib.toList_data]
  have e0 : (w.toList = (⟨#[]⟩ : ByteArray).toList) ↔ w.data.toList = [] := by
    rw [Lib.toList_data, Lib.toList_data]
  unfold spec_l05Read.f spR
  by_cases h45 : w.data.toList = [45]
  · rw [if_pos (e45.2 h45), if_pos h45]
  · rw [if_neg (fun g => h45 (e45.1 g)), if_neg h45]
    have q : rounds (fun s => spec_l05Read.b0 N w s.1 s.2) N (0, 0) = some (walk spS spF 0 w.data.toList) := by
      refine rounds_walk0 (fun acc i => (acc, i)) w.data.toList spS spF (fun _ _ => True) (by omega) trivial ?_ ?_
      · intro acc i hl _
        have g1 : (i : Int) < w.size := by omega
        have g2 : (0 : Int) ≤ i := by omega
        have e3 : i64w ((i : Int) + 1) = ((i + 1 : Nat) : Int) := i64w_succ (n := w.size) (by omega) (by omega)
        have hb : spec_l05Read.b0 N w acc (i : Int) = if ((w.data.toList[i]).toNat : Int) < 97 then some (.out (.ret (0, false))) else if ((w.data.toList[i]).toNat : Int) ≥ 105 then some (.out (.ret (0, false))) else some (.next (bOr .u16 acc (shlI .u16 1 (((w.data.toList[i]).toNat : Int) - 97)), ((i + 1 : Nat) : Int))) := by
          unfold spec_l05Read.b0
          rw [if_pos g1, if_pos ⟨g2, g1⟩, btS_nat w hl]
          by_cases c1 : ((w.data.toList[i]).toNat : Int) < 97
          · rw [if_pos c1, if_pos c1]
          · rw [if_neg c1, if_neg c1, if_pos ⟨g2, g1⟩]
            by_cases c2 : ((w.data.toList[i]).toNat : Int) ≥ 105
            · rw [if_pos c2, if_pos c2]
            · rw [if_neg c2, if_neg c2, if_pos ⟨g2, g1⟩, u8_97 c1 c2, if_pos (by omega), e3]
        by_cases c1 : ((w.data.toList[i]).toNat : Int) < 97
        · rw [show spS acc w.data.toList[i] = .ret (.ret (0, false)) from if_pos c1]
          show spec_l05Read.b0 N w acc (i : Int) = _
          rw [hb, if_pos c1]
        · by_cases c2 : ((w.data.toList[i]).toNat : Int) ≥ 105
          · rw [show spS acc w.data.toList[i] = .ret (.ret (0, false)) by unfold spS; rw [if_neg c1, if_pos c2]]
            show spec_l05Read.b0 N w acc (i : Int) = _
            rw [hb, if_neg c1, if_pos c2]
          · rw [show spS acc w.data.toList[i] = .go (bOr .u16 acc (shlI .u16 1 (((w.data.toList[i]).toNat : Int) - 97))) by unfold spS; rw [if_neg c1, if_neg c2]]
            refine ⟨trivial, ?_⟩
            show spec_l05Read.b0 N w acc (i : Int) = _
            rw [hb, if_neg c1, if_neg c2]
      · intro acc _
        show spec_l05Read.b0 N w acc (w.data.toList.length : Int) = _
        unfold spec_l05Read.b0
        rw [if_neg (by omega)]
    rw [q, Option.bind_some]
    rcases sp_inv w.data.toList 0 ⟨by omega, by omega⟩ with h | ⟨v, h, h0, h1⟩
    · rw [h]; rfl
    · rw [h]
      show spec_l05Read.a0 N w v = _
      unfold spec_l05Read.a0
      by_cases hz : w.data.toList = []
      · rw [if_pos (e0.2 hz)]; simp only [hz, if_true]
      · rw [if_neg (fun g => hz (e0.1 g)), (txt_at (N := N) (by omega) ⟨h0, h1⟩).2, Option.bind_some, ba_eq]
        simp only [ba_lit, hz, if_false]
theorem im_lit4 : ∀ n : Nat, n < 16 → imR 4 (txt n) = ((n : Int), true) := by decide +kernel
theorem im_lit8 : ∀ n : Nat, n < 256 → imR 8 (txt n) = ((n : Int), true) := by decide +kernel
theorem sp_lit : ∀ n : Nat, n < 256 → spR (txt n) = ((n : Int), true) := by decide +kernel
theorem im_ok {many lim : Int} (hk : Kind many lim) {l : List UInt8} (h : (imR many l).2 = true) : (0 ≤ (imR many l).1 ∧ (imR many l).1 < lim) ∧ txt (imR many l).1 = l := by
  have hr := rdF_range hk l 0 ⟨by omega, by rcases hk with ⟨_, rfl⟩ | ⟨_, rfl⟩ <;> omega⟩
  exact ⟨hr, of_decide_eq_true h⟩
theorem txt_zero : txt 0 = [45] := by decide +kernel
theorem sp_ok {l : List UInt8} (h : (spR l).2 = true) : (0 ≤ (spR l).1 ∧ (spR l).1 < 256) ∧ txt (spR l).1 = l := by
  unfold spR at h ⊢
  by_cases h45 : l = [45]
  · rw [if_pos h45] at h ⊢
    exact ⟨⟨by decide, by decide⟩, by rw [h45]; exact txt_zero⟩
  · rw [if_neg h45] at h ⊢
    rcases sp_inv l 0 ⟨by omega, by omega⟩ with e | ⟨v, e, h0, h1⟩
    · rw [e] at h; cases h
    · rw [e] at h ⊢
      by_cases hz : l = []
      · simp only [hz, if_true] at h; cases h
      · simp only [hz, if_false] at h ⊢
        exact ⟨⟨h0, h1⟩, of_decide_eq_true h⟩
/-- Both read the same sets. -/
theorem im_of_sp4 {l : List UInt8} (h : (spR l).2 = true) (hlt : (spR l).1 < 16) : imR 4 l = ((spR l).1, true) := by
  obtain ⟨⟨h0, _⟩, ht⟩ := sp_ok h
  have := im_lit4 (spR l).1.toNat (by omega)
  rw [Int.toNat_of_nonneg h0, ht] at this
  exact this
theorem im_of_sp8 {l : List UInt8} (h : (spR l).2 = true) : imR 8 l = ((spR l).1, true) := by
  obtain ⟨⟨h0, h1⟩, ht⟩ := sp_ok h
  have := im_lit8 (spR l).1.toNat (by omega)
  rw [Int.toNat_of_nonneg h0, ht] at this
  exact this
theorem sp_of_im {many lim : Int} (hk : Kind many lim) {l : List UInt8} (h : (imR many l).2 = true) : spR l = ((imR many l).1, true) := by
  obtain ⟨⟨h0, h1⟩, ht⟩ := im_ok hk h
  have := sp_lit (imR many l).1.toNat (by rcases hk with ⟨_, rfl⟩ | ⟨_, rfl⟩ <;> omega)
  rw [Int.toNat_of_nonneg h0, ht] at this
  exact this
end Go.Proofs.YtmjkeidcoonghaaDoorX
