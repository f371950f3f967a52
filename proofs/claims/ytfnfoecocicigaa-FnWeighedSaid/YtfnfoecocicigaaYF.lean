/- What is drawn from bytes: lies, a state, an ask, a number. -/
import Derived.Test.YtfnfoecocicigaaYE
namespace Go.Proofs.YtfnfoecocicigaaX
open Go
set_option linter.unusedVariables false
set_option linter.unusedSimpArgs false
abbrev Src := S_spec_l00Src
theorem and_255 (x : Int) : 0 ≤ bAnd .u64 x 255 ∧ bAnd .u64 x 255 ≤ 255 := by
  have h : (BitVec.ofInt IntKind.u64.bits x &&& BitVec.ofInt IntKind.u64.bits 255).toNat ≤ 255 := by
    show (BitVec.ofInt 64 x &&& BitVec.ofInt 64 255).toNat ≤ 255
    rw [BitVec.toNat_and]
    have : (BitVec.ofInt 64 255).toNat = 255 := by decide
    rw [this]
    exact Nat.and_le_right
  have e : bAnd .u64 x 255 = ((BitVec.ofInt IntKind.u64.bits x &&& BitVec.ofInt IntKind.u64.bits 255).toNat : Int) := u64w_id (by omega) (by omega)
  omega
/-- A source that may be read on. -/
def SrcOk (s : Src) (b : Int) : Prop := (∀ x ∈ s.f_code, 0 ≤ x ∧ x ≤ 255) ∧ 0 ≤ s.f_at ∧ s.f_at ≤ b ∧ b ≤ 1000000 ∧ s.f_code.length ≤ 1000000
theorem next_ok {N : Nat} {s : Src} {b : Int} (h : SrcOk s b) : ∃ x a d, _spec_l00Src_next.f N s = some (x, ⟨s.f_code, a, d⟩) ∧ 0 ≤ x ∧ x ≤ 255 ∧ a = s.f_at + 1 := by
  obtain ⟨hc, h0, h1, h2, h3⟩ := h
  have e1 : i64w (s.f_at + 1) = s.f_at + 1 := i64w_id (by omega) (by omega)
  have main : ∀ x, 0 ≤ x → x ≤ 255 → ∃ y a d, _spec_l00Src_next.j0 N s x = some (y, ⟨s.f_code, a, d⟩) ∧ 0 ≤ y ∧ y ≤ 255 ∧ a = s.f_at + 1 := by
    intro x x0 x1
    unfold _spec_l00Src_next.j0
    rw [e1]
    by_cases c : s.f_at + 1 ≤ (s.f_code.length : Int)
    · rw [if_pos c]
      exact ⟨_, _, _, rfl, x0, x1, rfl⟩
    · rw [if_neg c]
      have q := and_255 (shrI .u64 (u64w ((u64w ((u64w (s.f_seed * 6364136223846793005)) + (u64w x))) + 1442695040888963407)) 40)
      exact ⟨_, _, _, rfl, by rw [i64w_id (by omega) (by omega)]; exact q.1, by rw [i64w_id (by omega) (by omega)]; exact q.2, rfl⟩
  unfold _spec_l00Src_next.f
  by_cases c : s.f_at < (s.f_code.length : Int)
  · rw [if_pos c, if_pos ⟨h0, c⟩]
    have hm := hc (rdL s.f_code s.f_at 0) (by
      obtain ⟨i, hi⟩ := Int.eq_ofNat_of_zero_le h0
      rw [hi] at c ⊢
      rw [rdL_nat (by omega)]
      exact List.getElem_mem _)
    exact main _ (by rw [i64w_id (by omega) (by omega)]; exact hm.1) (by rw [i64w_id (by omega) (by omega)]; exact hm.2)
  · rw [if_neg c]
    exact main 0 (by decide) (by decide)
theorem pick_ok {N : Nat} {code : List Int} {at_ seed b n : Int} (h : SrcOk ⟨code, at_, seed⟩ b) (hb : b < 1000000) (hn : 1 ≤ n ∧ n ≤ 200) : ∃ x a d, _spec_l00Src_pick.f N ⟨code, at_, seed⟩ n = some (x, ⟨code, a, d⟩) ∧ 0 ≤ x ∧ x < n ∧ SrcOk ⟨code, a, d⟩ (b + 1) := by
  by_cases c : n ≤ 1
  · refine ⟨0, at_, seed, ?_, by omega, by omega, ?_⟩
    · simp only [_spec_l00Src_pick.f, if_pos c]
    · obtain ⟨h1, h2, h3, h4, h5⟩ := h
      exact ⟨h1, h2, by dsimp only at *; omega, by omega, h5⟩
  · obtain ⟨x, a, d, e, x0, x1, ha⟩ := next_ok (N := N) h
    have e' : _spec_l00Src_next.f N (⟨code, at_, seed⟩ : Src) = some (x, ⟨code, a, d⟩) := e
    refine ⟨x.tmod n, a, d, ?_, Int.tmod_nonneg _ x0, Int.tmod_lt_of_pos _ (by omega), ?_⟩
    · simp only [_spec_l00Src_pick.f, if_neg (show ¬ n ≤ 1 by omega), e', Option.bind_some, if_neg (show ¬ n > 200 by omega), if_pos (show ¬ n = 0 by omega)]
    · obtain ⟨h1, h2, h3, h4, h5⟩ := h
      exact ⟨h1, by dsimp only at *; omega, by dsimp only at *; omega, by omega, h5⟩
theorem src0 {code : List Int} (hc : ∀ x ∈ code, 0 ≤ x ∧ x ≤ 255) (hl : code.length ≤ 4096) : SrcOk ⟨code, 0, 0⟩ 0 := ⟨hc, Int.le_refl 0, Int.le_refl 0, by omega, by dsimp only; omega⟩
/-- Nothing beyond the lies. -/
def Zr (L : Nat) (x : Q4) : Prop := (L < 1 → x.2.1 = 0) ∧ (L < 2 → x.2.2.1 = 0) ∧ (L < 3 → x.2.2.2 = 0)
def q4set (x : Q4) (i v : Nat) : Q4 := match i with
  | 0 => (v, x.2.1, x.2.2.1, x.2.2.2)
  | 1 => (x.1, v, x.2.2.1, x.2.2.2)
  | 2 => (x.1, x.2.1, v, x.2.2.2)
  | _ => (x.1, x.2.1, x.2.2.1, v)
def q4get (x : Q4) (i : Nat) : Nat := match i with
  | 0 => x.1
  | 1 => x.2.1
  | 2 => x.2.2.1
  | _ => x.2.2.2
theorem sq_set {x : Q4} {i v : Nat} (hi : i < 4) : (sq x).set (i : Int) (v : Int) = sq (q4set x i v) := by
  match i, hi with
  | 0, _ => rfl
  | 1, _ => rfl
  | 2, _ => rfl
  | 3, _ => rfl
theorem sq_get {x : Q4} {i : Nat} (hi : i < 4) : (sq x).get (i : Int) 0 = ((q4get x i : Nat) : Int) := by
  match i, hi with
  | 0, _ => rfl
  | 1, _ => rfl
  | 2, _ => rfl
  | 3, _ => rfl
theorem get_set {x : Q4} {i v : Nat} (hi : i < 4) : q4get (q4set x i v) i = v := by
  match i, hi with
  | 0, _ => rfl
  | 1, _ => rfl
  | 2, _ => rfl
  | 3, _ => rfl
theorem get_set_ne {x : Q4} {i j v : Nat} (hi : i < 4) (hj : j < 4) (h : j ≠ i) : q4get (q4set x i v) j = q4get x j := by
  match i, hi, j, hj with
  | 0, _, 1, _ => rfl
  | 0, _, 2, _ => rfl
  | 0, _, 3, _ => rfl
  | 1, _, 0, _ => rfl
  | 1, _, 2, _ => rfl
  | 1, _, 3, _ => rfl
  | 2, _, 0, _ => rfl
  | 2, _, 1, _ => rfl
  | 2, _, 3, _ => rfl
  | 3, _, 0, _ => rfl
  | 3, _, 1, _ => rfl
  | 3, _, 2, _ => rfl
  | 0, _, 0, _ => exact absurd rfl h
  | 1, _, 1, _ => exact absurd rfl h
  | 2, _, 2, _ => exact absurd rfl h
  | 3, _, 3, _ => exact absurd rfl h
theorem tot_get (x : Q4) : tot x = q4get x 0 + q4get x 1 + q4get x 2 + q4get x 3 := rfl
theorem tot_set {x : Q4} {i v : Nat} (hi : i < 4) (h0 : q4get x i = 0) : tot (q4set x i v) = tot x + v := by
  match i, hi with
  | 0, _ => unfold tot; simp only [q4set, q4get] at *; omega
  | 1, _ => unfold tot; simp only [q4set, q4get] at *; omega
  | 2, _ => unfold tot; simp only [q4set, q4get] at *; omega
  | 3, _ => unfold tot; simp only [q4set, q4get] at *; omega
theorem st_loop {N : Nat} {code : List Int} {L : Nat} {r8 : Int × Src} (hL : L ≤ 3) (h8 : r8.1 = (L : Int)) : ∀ (m i left : Nat) (at_ seed b : Int) (x : Q4), i ≤ L + 1 → L + 1 - i < m → SrcOk ⟨code, at_, seed⟩ b → b ≤ 10 + i → tot x + left ≤ 8 → (∀ j, i ≤ j → j < 4 → q4get x j = 0) →
    ∃ y : Q4, rounds (fun s => spec_P6State.b0 N r8 code s.1 s.2.1 s.2.2.1 s.2.2.2.1 s.2.2.2.2) m (at_, seed, sq x, (left : Int), (i : Int)) = some (.go (sq y)) ∧ tot y ≤ 8 ∧ ∀ j, L + 1 ≤ j → j < 4 → q4get y j = 0 := by
  intro m
  induction m with
  | zero => intro i left at_ seed b x _ h; exact absurd h (Nat.not_lt_zero _)
  | succ m ih =>
    intro i left at_ seed b x hi hm hS hb ht hz
    by_cases c : i ≤ L
    · obtain ⟨p, a, d, e, p0, p1, hS'⟩ := pick_ok (N := N) (n := (left : Int) + 1) hS (by omega) (by omega)
      obtain ⟨v, rfl⟩ := Int.eq_ofNat_of_zero_le p0
      have hv : v ≤ left := by omega
      have hstep : spec_P6State.b0 N r8 code at_ seed (sq x) (left : Int) (i : Int) = some (.next (a, d, sq (q4set x i v), ((left - v : Nat) : Int), ((i + 1 : Nat) : Int))) := by
        unfold spec_P6State.b0
        rw [if_pos (by omega), idb (x := (left : Int) + 1) (by omega), e, Option.bind_some, if_pos ⟨by omega, by omega⟩, if_pos ⟨by omega, by omega⟩]
        dsimp only
        rw [sq_set (by omega), sq_get (by omega), get_set (by omega), idb (x := (left : Int) - v) (by omega), idb (x := (i : Int) + 1) (by omega), show (left : Int) - v = ((left - v : Nat) : Int) by omega]
        rfl
      obtain ⟨y, h1, h2⟩ := ih (i + 1) (left - v) a d (b + 1) (q4set x i v) (by omega) (by omega) hS' (by omega) (by rw [tot_set (by omega) (hz i (Nat.le_refl _) (by omega))]; omega) (fun j h1 h2 => by rw [get_set_ne (by omega) h2 (by omega)]; exact hz j (by omega) h2)
      exact ⟨y, (rounds_next (n := m) (b := fun s : Int × Int × S4 × Int × Int => spec_P6State.b0 N r8 code s.1 s.2.1 s.2.2.1 s.2.2.2.1 s.2.2.2.2) (s := (at_, seed, sq x, (left : Int), (i : Int))) hstep).trans h1, h2⟩
    · refine ⟨x, rounds_out ?_, by omega, fun j h1 h2 => hz j (by omega) h2⟩
      show spec_P6State.b0 N r8 code at_ seed (sq x) (left : Int) (i : Int) = _
      unfold spec_P6State.b0
      rw [if_neg (by omega)]
theorem state_ok {N : Nat} (hN : 10 ≤ N) {code : List Int} (hc : ∀ x ∈ code, 0 ≤ x ∧ x ≤ 255) (hl : code.length ≤ 4096) : ∃ (L : Nat) (x : Q4), spec_P6State.f N code = some ((L : Int), sq x) ∧ L ≤ 3 ∧ tot x ≤ 8 ∧ Zr L x := by
  obtain ⟨p, a, d, e1, p0, p1, S1⟩ := pick_ok (N := N) (n := 4) (src0 hc hl) (by decide) (by decide)
  obtain ⟨r, a2, d2, e2, r0, r1, S2⟩ := pick_ok (N := N) (n := 9) S1 (by decide) (by decide)
  obtain ⟨L, rfl⟩ := Int.eq_ofNat_of_zero_le p0
  obtain ⟨left, rfl⟩ := Int.eq_ofNat_of_zero_le r0
  obtain ⟨y, h1, h2, h3⟩ := st_loop (N := N) (code := code) (L := L) (r8 := ((L : Int), (⟨code, a, d⟩ : Src))) (by omega) rfl N 0 left a2 d2 2 (0, 0, 0, 0) (by omega) (by omega) S2 (by omega) (by show 0 + 0 + 0 + 0 + left ≤ 8; omega) (fun j _ hj => by
    match j, hj with
    | 0, _ => rfl
    | 1, _ => rfl
    | 2, _ => rfl
    | 3, _ => rfl)
  refine ⟨L, y, ?_, by omega, h2, fun g => h3 1 (by omega) (by omega), fun g => h3 2 (by omega) (by omega), fun g => h3 3 (by omega) (by omega)⟩
  unfold spec_P6State.f spec_l00From.f
  rw [Option.bind_some]
  dsimp only
  rw [e1, Option.bind_some]
  dsimp only
  rw [e2, Option.bind_some]
  dsimp only
  rw [show rounds (fun s => spec_P6State.b0 N ((L : Int), (⟨code, a, d⟩ : Src)) code s.1 s.2.1 s.2.2.1 s.2.2.2.1 s.2.2.2.2) N (a2, d2, (Ar.rep 4 0), (left : Int), 0) = _ from h1]
  rfl
theorem wi_loop {N : Nat} {code : List Int} {x : Q4} (hx : tot x ≤ 8) : ∀ (m i : Nat) (at_ seed b : Int) (y : Q4), i ≤ 4 → 4 - i < m → SrcOk ⟨code, at_, seed⟩ b → b ≤ 10 + i → (∀ j, j < i → q4get y j ≤ q4get x j) →
    ∃ z : Q4, rounds (fun s => spec_P6Within.b0 N code (sq x) s.1 s.2.1 s.2.2.1 s.2.2.2) m (at_, seed, sq y, (i : Int)) = some (.go (sq z)) ∧ ∀ j, j < 4 → q4get z j ≤ q4get x j := by
  intro m
  induction m with
  | zero => intro i at_ seed b y _ h; exact absurd h (Nat.not_lt_zero _)
  | succ m ih =>
    intro i at_ seed b y hi hm hS hb hy
    by_cases c : i < 4
    · have hxi : q4get x i ≤ 8 := by
        rw [tot_get] at hx
        match i, c with
        | 0, _ => omega
        | 1, _ => omega
        | 2, _ => omega
        | 3, _ => omega
      obtain ⟨p, a, d, e, p0, p1, hS'⟩ := pick_ok (N := N) (n := ((q4get x i : Nat) : Int) + 1) hS (by omega) (by omega)
      obtain ⟨v, rfl⟩ := Int.eq_ofNat_of_zero_le p0
      have hstep : spec_P6Within.b0 N code (sq x) at_ seed (sq y) (i : Int) = some (.next (a, d, sq (q4set y i v), ((i + 1 : Nat) : Int))) := by
        unfold spec_P6Within.b0
        rw [if_pos (by omega), if_pos ⟨by omega, by omega⟩, sq_get c, idb (x := ((q4get x i : Nat) : Int) + 1) (by omega), e, Option.bind_some, if_pos ⟨by omega, by omega⟩]
        dsimp only
        rw [sq_set (by omega), idb (x := (i : Int) + 1) (by omega)]
        rfl
      obtain ⟨z, h1, h2⟩ := ih (i + 1) a d (b + 1) (q4set y i v) (by omega) (by omega) hS' (by omega) (fun j hj => by
        by_cases e : j = i
        · subst e; rw [get_set c]; omega
        · rw [get_set_ne c (by omega) e]; exact hy j (by omega))
      exact ⟨z, (rounds_next (n := m) (b := fun s : Int × Int × S4 × Int => spec_P6Within.b0 N code (sq x) s.1 s.2.1 s.2.2.1 s.2.2.2) (s := (at_, seed, sq y, (i : Int))) hstep).trans h1, h2⟩
    · refine ⟨y, rounds_out ?_, fun j hj => hy j (by omega)⟩
      show spec_P6Within.b0 N code (sq x) at_ seed (sq y) (i : Int) = _
      unfold spec_P6Within.b0
      rw [if_neg (by omega)]
theorem within_ok {N : Nat} (hN : 10 ≤ N) {code : List Int} (hc : ∀ x ∈ code, 0 ≤ x ∧ x ≤ 255) (hl : code.length ≤ 4096) {x : Q4} (hx : tot x ≤ 8) : ∃ a : Q4, spec_P6Within.f N code (sq x) = some (sq a) ∧ le4 a x := by
  obtain ⟨z, h1, h2⟩ := wi_loop (N := N) (code := code) hx N 0 0 0 0 (0, 0, 0, 0) (by omega) (by omega) (src0 hc hl) (by omega) (fun j hj => absurd hj (Nat.not_lt_zero _))
  refine ⟨z, ?_, h2 0 (by omega), h2 1 (by omega), h2 2 (by omega), h2 3 (by omega)⟩
  unfold spec_P6Within.f spec_l00From.f
  rw [Option.bind_some]
  dsimp only
  rw [show rounds (fun s => spec_P6Within.b0 N code (sq x) s.1 s.2.1 s.2.2.1 s.2.2.2) N (0, 0, (Ar.rep 4 0), 0) = _ from h1]
  rfl
theorem pick30 {N : Nat} {code : List Int} (hc : ∀ x ∈ code, 0 ≤ x ∧ x ≤ 255) (hl : code.length ≤ 4096) : ∃ q : Nat, spec_P6Pick.f N code 30 = some (q : Int) ∧ q < 30 := by
  obtain ⟨p, a, d, e1, p0, p1, _⟩ := pick_ok (N := N) (n := 30) (src0 hc hl) (by decide) (by decide)
  obtain ⟨q, rfl⟩ := Int.eq_ofNat_of_zero_le p0
  refine ⟨q, ?_, by omega⟩
  unfold spec_P6Pick.f spec_l00From.f
  rw [Option.bind_some]
  dsimp only
  rw [e1, Option.bind_some]
theorem big_ok {N : Nat} (code : List Int) : laws_f6big.f N code = some (decide ((code.length : Int) > 4096)) := rfl
end Go.Proofs.YtfnfoecocicigaaX
