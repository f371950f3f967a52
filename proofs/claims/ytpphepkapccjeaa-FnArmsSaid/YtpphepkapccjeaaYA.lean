/- Scales, plainly: what is drawn from bytes; weights; pans. -/
import Derived.Test.YtpphepkapccjeaaXR
import Derived.Test.YtpphepkapccjeaaXWalk
namespace Go.Proofs.YtpphepkapccjeaaX
open Go
set_option linter.unusedVariables false
set_option linter.unusedSimpArgs false
abbrev Src := S_spec_l00Src
theorem and_255 (x : Int) : 0 ≤ bAnd .u64 x 255 ∧ bAnd .u64 x 255 ≤ 255 := by
  have h : (BitVec.ofInt IntKind.u64.bits x &&& BitVec.ofInt IntKind.u64.bits 255).toNat ≤ 255 := by
    show (BitVec.ofInt 64 x &&& BitVec.ofInt 64 255).toNat ≤ 255
    rw [BitVec.toNat_and]
    have : (BitVec.ofInt 64 255).toNat = 255 := by decide
    rw [this]
    exact Nat.and_le_right
  have e : bAnd .u64 x 255 = ((BitVec.ofInt IntKind.u64.bits x &&& BitVec.ofInt IntKind.u64.bits 255).toNat : Int) := u64w_id (by omega) (by omega)
  omega
/-- A source that may be read on. -/
def SrcOk (s : Src) (b : Int) : Prop := (∀ x ∈ s.f_code, 0 ≤ x ∧ x ≤ 255) ∧ 0 ≤ s.f_at ∧ s.f_at ≤ b ∧ b ≤ 1000000 ∧ s.f_code.length ≤ 1000000
theorem next_ok {N : Nat} {s : Src} {b : Int} (h : SrcOk s b) : ∃ x a d, _spec_l00Src_next.f N s = some (x, ⟨s.f_code, a, d⟩) ∧ 0 ≤ x ∧ x ≤ 255 ∧ a = s.f_at + 1 := by
  obtain ⟨hc, h0, h1, h2, h3⟩ := h
  have e1 : i64w (s.f_at + 1) = s.f_at + 1 := i64w_id (by omega) (by omega)
  have main : ∀ x, 0 ≤ x → x ≤ 255 → ∃ y a d, _spec_l00Src_next.j0 N s x = some (y, ⟨s.f_code, a, d⟩) ∧ 0 ≤ y ∧ y ≤ 255 ∧ a = s.f_at + 1 := by
    intro x x0 x1
    unfold _spec_l00Src_next.j0
    rw [e1]
    by_cases c : s.f_at + 1 ≤ (s.f_code.length : Int)
    · rw [if_pos c]
      exact ⟨_, _, _, rfl, x0, x1, rfl⟩
    · rw [if_neg c]
      have q := and_255 (shrI .u64 (u64w ((u64w ((u64w (s.f_seed * 6364136223846793005)) + (u64w x))) + 1442695040888963407)) 40)
      exact ⟨_, _, _, rfl, by rw [i64w_id (by omega) (by omega)]; exact q.1, by rw [i64w_id (by omega) (by omega)]; exact q.2, rfl⟩
  unfold _spec_l00Src_next.f
  by_cases c : s.f_at < (s.f_code.length : Int)
  · rw [if_pos c, if_pos ⟨h0, c⟩]
    have hm := hc (rdL s.f_code s.f_at 0) (by
      obtain ⟨i, hi⟩ := Int.eq_ofNat_of_zero_le h0
      rw [hi] at c ⊢
      rw [rdL_nat (by omega)]
      exact List.getElem_mem _)
    exact main _ (by rw [i64w_id (by omega) (by omega)]; exact hm.1) (by rw [i64w_id (by omega) (by omega)]; exact hm.2)
  · rw [if_neg c]
    exact main 0 (by decide) (by decide)
theorem pick_ok {N : Nat} {s : Src} {b n : Int} (h : SrcOk s b) (hn : 2 ≤ n ∧ n ≤ 200) : ∃ x a d, _spec_l00Src_pick.f N s n = some (x, ⟨s.f_code, a, d⟩) ∧ 0 ≤ x ∧ x < n ∧ a = s.f_at + 1 := by
  obtain ⟨x, a, d, e, x0, x1, ha⟩ := next_ok (N := N) h
  have e' : _spec_l00Src_next.f N (⟨s.f_code, s.f_at, s.f_seed⟩ : Src) = some (x, ⟨s.f_code, a, d⟩) := e
  refine ⟨x.tmod n, a, d, ?_, Int.tmod_nonneg _ x0, Int.tmod_lt_of_pos _ (by omega), ha⟩
  simp only [_spec_l00Src_pick.f, if_neg (show ¬ n ≤ 1 by omega), e', Option.bind_some, if_neg (show ¬ n > 200 by omega), if_pos (show ¬ n = 0 by omega)]
theorem SrcOk.next {s : Src} {b : Int} (h : SrcOk s b) (hb : b < 1000000) {a d : Int} (ha : a = s.f_at + 1) : SrcOk ⟨s.f_code, a, d⟩ (b + 1) := by
  obtain ⟨h1, h2, h3, h4, h5⟩ := h
  exact ⟨h1, by dsimp only; omega, by dsimp only; omega, by omega, h5⟩
/- weights -/
structure OkW (w : List Int) : Prop where
  pos : 1 ≤ w.length
  len : w.length ≤ 16
  sorted : w.Pairwise (· ≤ ·)
  range : ∀ x ∈ w, 1 ≤ x ∧ x ≤ 2000
  sum : w.sum ≤ 2000
theorem sum_le {w : List Int} (h : ∀ x ∈ w, x ≤ 35) : w.sum ≤ 35 * (w.length : Int) := by
  induction w with
  | nil => simp
  | cons a w ih =>
    have h1 := h a (by simp)
    have h2 := ih (fun x hx => h x (by simp [hx]))
    simp only [List.sum_cons, List.length_cons]
    omega
theorem OkW.small {w : List Int} (h0 : 1 ≤ w.length) (h1 : w.length ≤ 5) (h2 : w.Pairwise (· ≤ ·)) (h3 : ∀ x ∈ w, 1 ≤ x ∧ x ≤ 35) : OkW w :=
  ⟨h0, by omega, h2, fun x hx => by have := h3 x hx; omega, by have := sum_le (fun x hx => (h3 x hx).2); omega⟩
def zeroSrc (code : List Int) : Src := ⟨code, 0, 0⟩
theorem drawn_ok {N : Nat} {code : List Int} (hc : ∀ x ∈ code, 0 ≤ x ∧ x ≤ 255) (hl : code.length ≤ 1000000) (hN : 100 < N) : ∃ w, spec_A2Weights.f N code = some w ∧ OkW w ∧ w.length ≤ 5 := by
  have h0 : SrcOk (zeroSrc code) 0 := ⟨hc, Int.le_refl _, Int.le_refl _, by decide, hl⟩
  have main : ∃ w s, spec_l01Drawn.f N (zeroSrc code) = some (w, s) ∧ OkW w ∧ w.length ≤ 5 := by
    obtain ⟨x1, a1, d1, e1, r1, q1, t1⟩ := pick_ok (N := N) h0 (n := 4) (by decide)
    have h1 := h0.next (d := d1) (by decide) t1
    have e1' : _spec_l00Src_pick.f N (⟨(zeroSrc code).f_code, (zeroSrc code).f_at, (zeroSrc code).f_seed⟩ : Src) 4 = some (x1, ⟨code, a1, d1⟩) := e1
    simp only [spec_l01Drawn.f, e1', Option.bind_some]
    by_cases c0 : x1 = 0
    · obtain ⟨x2, a2, d2, e2, r2, q2, t2⟩ := pick_ok (N := N) h1 (n := 4) (by decide)
      have e2' : _spec_l00Src_pick.f N (⟨(zeroSrc code).f_code, a1, d1⟩ : Src) 4 = some (x2, ⟨code, a2, d2⟩) := e2
      simp only [if_pos c0, e2', Option.bind_some, i64w_id (x := 1 + x2) (by omega) (by omega)]
      rw [if_pos ⟨by omega, by omega, by simp; omega⟩]
      refine ⟨_, _, rfl, ?_⟩
      obtain rfl | rfl | rfl | rfl : x2 = 0 ∨ x2 = 1 ∨ x2 = 2 ∨ x2 = 3 := by omega
      all_goals exact ⟨OkW.small (by decide) (by decide) (by decide) (by decide), by decide⟩
    · by_cases c1 : x1 = 1
      · obtain ⟨x2, a2, d2, e2, r2, q2, t2⟩ := pick_ok (N := N) h1 (n := 5) (by decide)
        have e2' : _spec_l00Src_pick.f N (⟨(zeroSrc code).f_code, a1, d1⟩ : Src) 5 = some (x2, ⟨code, a2, d2⟩) := e2
        simp only [if_neg c0, if_pos c1, e2', Option.bind_some, i64w_id (x := 1 + x2) (by omega) (by omega)]
        rw [if_pos ⟨by omega, by omega, by simp; omega⟩]
        refine ⟨_, _, rfl, ?_⟩
        obtain rfl | rfl | rfl | rfl | rfl : x2 = 0 ∨ x2 = 1 ∨ x2 = 2 ∨ x2 = 3 ∨ x2 = 4 := by omega
        all_goals exact ⟨OkW.small (by decide) (by decide) (by decide) (by decide), by decide⟩
      · obtain ⟨x2, a2, d2, e2, r2, q2, t2⟩ := pick_ok (N := N) h1 (n := 3) (by decide)
        have h2 := h1.next (d := d2) (by decide) t2
        have e2' : _spec_l00Src_pick.f N (⟨(zeroSrc code).f_code, a1, d1⟩ : Src) 3 = some (x2, ⟨code, a2, d2⟩) := e2
        obtain ⟨x3, a3, d3, e3, r3, q3, t3⟩ := pick_ok (N := N) h2 (n := 5) (by decide)
        have h3 := h2.next (d := d3) (by decide) t3
        have e3' : _spec_l00Src_pick.f N (⟨(zeroSrc code).f_code, a2, d2⟩ : Src) 5 = some (x3, ⟨code, a3, d3⟩) := e3
        simp only [if_neg c0, if_neg c1, e2', e3', Option.bind_some, i64w_id (x := 1 + x2) (by omega) (by omega), i64w_id (x := 1 + x3) (by omega) (by omega)]
        obtain ⟨e, he, w, a, d, rfl, hw⟩ := rounds_ends (b := fun s => spec_l01Drawn.b0 N (zeroSrc code) s.1 s.2.1 s.2.2.1 s.2.2.2.1 s.2.2.2.2)
          (fun s => SrcOk ⟨code, s.1, s.2.1⟩ (3 + s.2.2.1.length) ∧ 0 ≤ s.2.2.2.2 ∧ (s.2.2.1.length : Int) + s.2.2.2.2 = 1 + x3 ∧ 1 ≤ s.2.2.2.1 ∧ s.2.2.2.1 ≤ 3 + 8 * (s.2.2.1.length : Int) ∧ s.2.2.1.Pairwise (· ≤ ·) ∧ ∀ y ∈ s.2.2.1, 1 ≤ y ∧ y ≤ 35 ∧ y ≤ s.2.2.2.1)
          (fun s => s.2.2.2.2.toNat) (fun e => ∃ w a d, e = .go (w, a, d) ∧ OkW w ∧ w.length ≤ 5) (by
          rintro ⟨a, d, l, x, k⟩ ⟨i1, i2, i3, i4, i5, i6, i7⟩
          simp only at i1 i2 i3 i4 i5 i6 i7
          by_cases ck : k > 0
          · right
            obtain ⟨y, a', d', ey, y0, y1, ta⟩ := pick_ok (N := N) i1 (n := 9) (by decide)
            have hs := i1.next (d := d') (by omega) ta
            have ey' : _spec_l00Src_pick.f N (⟨(zeroSrc code).f_code, a, d⟩ : Src) 9 = some (y, ⟨code, a', d'⟩) := ey
            simp only [spec_l01Drawn.b0, if_pos ck, List.length_singleton, if_pos (show l.length + 1 ≤ 70368744177664 by omega), ey', Option.bind_some, i16w_id (x := x) (by omega) (by omega), i64w_id (x := x + y) (by omega) (by omega), i64w_id (x := k - 1) (by omega) (by omega)]
            refine ⟨_, rfl, ⟨?_, by dsimp only; omega, by dsimp only; rw [List.length_append]; simp; omega, by dsimp only; omega, by dsimp only; rw [List.length_append]; simp; omega, ?_, ?_⟩, by dsimp only; omega⟩
            · dsimp only
              rw [List.length_append, List.length_singleton]
              have : (3 : Int) + ((l.length + 1 : Nat) : Int) = 3 + (l.length : Int) + 1 := by omega
              rw [this]; exact hs
            · dsimp only
              rw [List.pairwise_append]
              refine ⟨i6, by simp, fun p hp q hq => ?_⟩
              rw [List.mem_singleton] at hq
              subst hq
              exact (i7 p hp).2.2
            · dsimp only
              intro p hp
              rcases List.mem_append.1 hp with hp | hp
              · have := i7 p hp; omega
              · rw [List.mem_singleton] at hp; subst hp; omega
          · left
            simp only [spec_l01Drawn.b0, if_neg ck]
            exact ⟨_, rfl, _, _, _, rfl, OkW.small (by omega) (by omega) i6 (fun y hy => by have := i7 y hy; omega), by omega⟩) N (a3, d3, [], 1 + x2, 1 + x3)
          ⟨by simpa [zeroSrc] using h3, by dsimp only; omega, by simp, by dsimp only; omega, by simp; omega, by simp, by simp⟩ (by dsimp only; omega)
        rw [he]
        exact ⟨_, _, rfl, hw⟩
  obtain ⟨w, s, e, h1, h2⟩ := main
  have e' : spec_l01Drawn.f N (⟨code, 0, 0⟩ : Src) = some (w, s) := e
  refine ⟨w, ?_, h1, h2⟩
  simp only [spec_A2Weights.f, spec_l00From.f, Option.bind_some, e']
theorem placing_ok {N : Nat} {code w : List Int} (hc : ∀ x ∈ code, 0 ≤ x ∧ x ≤ 255) (hl : code.length ≤ 1000000) (hw : w.length ≤ 16) (hN : 100 < N) : ∃ p, spec_A2Placing.f N code w = some p ∧ p.length = w.length ∧ ∀ x ∈ p, -1 ≤ x ∧ x ≤ 1 := by
  have h0 : SrcOk (zeroSrc code) 0 := ⟨hc, Int.le_refl _, Int.le_refl _, by decide, hl⟩
  obtain ⟨e, he, p, rfl, hp⟩ := rounds_ends (b := fun s => spec_A2Placing.b0 N w code s.1 s.2.1 s.2.2.1 s.2.2.2)
    (fun s => SrcOk ⟨code, s.1, s.2.1⟩ s.2.2.2 ∧ 0 ≤ s.2.2.2 ∧ s.2.2.2 ≤ (w.length : Int) ∧ (s.2.2.1.length : Int) = s.2.2.2 ∧ ∀ y ∈ s.2.2.1, -1 ≤ y ∧ y ≤ 1)
    (fun s => ((w.length : Int) - s.2.2.2).toNat) (fun e => ∃ p, e = .go p ∧ p.length = w.length ∧ ∀ x ∈ p, -1 ≤ x ∧ x ≤ 1) (by
    rintro ⟨a, d, l, i⟩ ⟨i1, i2, i3, i4, i5⟩
    simp only at i1 i2 i3 i4 i5
    by_cases ck : i < (w.length : Int)
    · right
      obtain ⟨y, a', d', ey, y0, y1, ta⟩ := pick_ok (N := N) i1 (n := 3) (by decide)
      have hs := i1.next (d := d') (by omega) ta
      have ey' : _spec_l00Src_pick.f N (⟨code, a, d⟩ : Src) 3 = some (y, ⟨code, a', d'⟩) := ey
      simp only [spec_A2Placing.b0, if_pos ck, List.length_singleton, if_pos (show l.length + 1 ≤ 140737488355328 by omega), ey', Option.bind_some, i64w_id (x := y - 1) (by omega) (by omega), i8w_id (x := y - 1) (by omega) (by omega), i64w_id (x := i + 1) (by omega) (by omega)]
      refine ⟨_, rfl, ⟨hs, by dsimp only; omega, by dsimp only; omega, by dsimp only; rw [List.length_append]; simp; omega, ?_⟩, by dsimp only; omega⟩
      intro p hp
      rcases List.mem_append.1 hp with hp | hp
      · exact i5 p hp
      · rw [List.mem_singleton] at hp; subst hp; omega
    · left
      simp only [spec_A2Placing.b0, if_neg ck]
      exact ⟨_, rfl, _, rfl, by omega, i5⟩) N (0, 0, [], 0) ⟨h0, by simp, by simp, by simp, by simp⟩ (by simp; omega)
  refine ⟨p, ?_, hp⟩
  simp only [spec_A2Placing.f, spec_l00From.f, Option.bind_some, he, Ex.fin, spec_A2Placing.a0]
theorem within_eq (N : Nat) (a b c : Int) : impl_within.f N a b c = some (decide (b ≤ a ∧ a ≤ c)) := by
  unfold impl_within.f
  by_cases h : b ≤ a
  · rw [if_pos h]
    simp [h]
  · rw [if_neg h]
    simp [h]
theorem sum_ok {N : Nat} {w : List Int} (h : OkW w) (hN : 100 < N) : _impl_Weights_sum.f N w = some w.sum := by
  have hb : ∀ i : Nat, i ≤ w.length → 0 ≤ (w.take i).sum ∧ (w.take i).sum ≤ 2000 * (i : Int) := by
    intro i
    induction i with
    | zero => intro _; simp
    | succ i ih =>
      intro hi
      have h1 := ih (by omega)
      rw [List.take_succ_eq_append_getElem (by omega), List.sum_append]
      have := h.range _ (List.getElem_mem (show i < w.length by omega))
      simp only [List.sum_cons, List.sum_nil]
      omega
  have hlen := h.len
  have q := rounds_for (b := fun s => _impl_Weights_sum.b0 N w s.1 s.2) (e := .go w.sum) (fun i => ((w.take i).sum, (i : Int))) w.length 0 N (Nat.zero_le _) (by omega) (by
    intro i _ hi
    have g1 : (i : Int) < (w.length : Int) := by omega
    have g2 : (0 : Int) ≤ (i : Int) ∧ (i : Int) < (w.length : Int) := ⟨by omega, g1⟩
    have h1 := hb i (by omega)
    have h2 := h.range _ (List.getElem_mem hi)
    simp only [_impl_Weights_sum.b0, if_pos g1, if_pos g2, rdL_nat hi, i64w_id (x := w[i]) (by omega) (by omega), i64w_id (x := (w.take i).sum + w[i]) (by omega) (by omega), i64w_succ hi (show w.length ≤ 9223372036854775807 by omega)]
    rw [List.take_succ_eq_append_getElem hi, List.sum_append]
    simp) (by
    simp only [_impl_Weights_sum.b0]
    rw [if_neg (by omega), List.take_length])
  have q' : rounds (fun s => _impl_Weights_sum.b0 N w s.1 s.2) N (0, 0) = some (.go w.sum) := by simpa using q
  unfold _impl_Weights_sum.f
  rw [q']; rfl
theorem sorted_ok {N : Nat} {w : List Int} (h : OkW w) (hN : 100 < N) : slices_IsSorted_impl_Weights_int16.f N w = some true := by
  have hlen := h.len
  have hpos := h.pos
  obtain ⟨e, he, rfl⟩ := rounds_ends (b := fun s => slices_IsSorted_impl_Weights_int16.b0 N w s) (fun s => 0 ≤ s ∧ s < (w.length : Int)) (fun s => s.toNat) (fun e => e = .go ()) (by
    intro s ⟨s0, s1⟩
    obtain ⟨i, rfl⟩ := Int.eq_ofNat_of_zero_le s0
    by_cases c : (i : Int) > 0
    · right
      obtain ⟨j, rfl⟩ : ∃ j, i = j + 1 := ⟨i - 1, by omega⟩
      have e1 : i64w (((j + 1 : Nat) : Int) - 1) = (j : Int) := by rw [i64w_id (by omega) (by omega)]; omega
      have hs := List.pairwise_iff_getElem.1 h.sorted j (j + 1) (by omega) (by omega) (by omega)
      have hcl : cmp_Less_int16.f N (w[j + 1]'(by omega)) (w[j]'(by omega)) = some false := by
        simp [cmp_Less_int16.f, cmp_isNaN_int16.f]
        omega
      simp only [slices_IsSorted_impl_Weights_int16.b0, if_pos c, if_pos (show (0 : Int) ≤ ((j + 1 : Nat) : Int) ∧ ((j + 1 : Nat) : Int) < (w.length : Int) from ⟨s0, s1⟩), e1, if_pos (show (0 : Int) ≤ (j : Int) ∧ (j : Int) < (w.length : Int) from ⟨by omega, by omega⟩), rdL_nat (show j + 1 < w.length by omega), rdL_nat (show j < w.length by omega), hcl, Option.bind_some, Bool.false_eq_true, if_false]
      exact ⟨_, rfl, ⟨by omega, by omega⟩, by omega⟩
    · left
      simp only [slices_IsSorted_impl_Weights_int16.b0, if_neg c]
      exact ⟨_, rfl, rfl⟩) N ((w.length : Int) - 1) ⟨by omega, by omega⟩ (by omega)
  unfold slices_IsSorted_impl_Weights_int16.f
  rw [i64w_id (by omega) (by omega), he]; rfl
theorem valid_ok {N : Nat} {w p : List Int} (h : OkW w) (hp : p.length = w.length) (hr : ∀ x ∈ p, -1 ≤ x ∧ x ≤ 1) (hN : 100 < N) : impl_ValidPlacing.f N w p = some true := by
  have hlen := h.len
  have hpos := h.pos
  have h0 : (rdL w 0 0) ≥ 1 := by
    have : rdL w ((0 : Nat) : Int) 0 = w[0] := rdL_nat (by omega)
    have q := h.range w[0] (List.getElem_mem _)
    simp only [Int.natCast_zero] at this
    omega
  have hv : impl_ValidWeights.f N w = some true := by
    have hsum := h.sum
    simp only [impl_ValidWeights.f, impl_size_int16.f, Option.bind_some, within_eq, sorted_ok h hN, sum_ok h hN, decide_eq_true (show (1 : Int) ≤ (w.length : Int) ∧ (w.length : Int) ≤ 16 by omega), if_true, if_pos (show (0 : Int) ≤ 0 ∧ 0 < (w.length : Int) by omega), if_pos h0, decide_eq_true hsum]
  obtain ⟨e, he, rfl⟩ := rounds_ends (b := fun s => slices_IndexFunc_impl_Placing_int8_at_impl_ValidPlacing_1.b0 N p s) (fun s => 0 ≤ s ∧ s ≤ (p.length : Int)) (fun s => ((p.length : Int) - s).toNat) (fun e => e = .go ()) (by
    intro s ⟨s0, s1⟩
    obtain ⟨i, rfl⟩ := Int.eq_ofNat_of_zero_le s0
    by_cases c : i < p.length
    · right
      have q := hr _ (List.getElem_mem c)
      have hf : impl_ValidPlacing_1.f N p[i] = some false := by
        unfold impl_ValidPlacing_1.f
        rw [if_neg (by omega), decide_eq_false (by omega)]
      simp only [slices_IndexFunc_impl_Placing_int8_at_impl_ValidPlacing_1.b0, if_pos (show (i : Int) < (p.length : Int) by omega), if_pos (show (0 : Int) ≤ (i : Int) ∧ (i : Int) < (p.length : Int) from ⟨by omega, by omega⟩), rdL_nat c, hf, Option.bind_some, Bool.false_eq_true, if_false, i64w_succ c (show p.length ≤ 9223372036854775807 by omega)]
      exact ⟨_, rfl, ⟨by omega, by omega⟩, by omega⟩
    · left
      simp only [slices_IndexFunc_impl_Placing_int8_at_impl_ValidPlacing_1.b0, if_neg (show ¬ (i : Int) < (p.length : Int) by omega)]
      exact ⟨_, rfl, rfl⟩) N 0 ⟨by omega, by omega⟩ (by omega)
  simp only [impl_ValidPlacing.f, hv, Option.bind_some, if_true, if_pos (show (p.length : Int) = (w.length : Int) by omega), slices_ContainsFunc_impl_Placing_int8_at_impl_ValidPlacing_1.f, slices_IndexFunc_impl_Placing_int8_at_impl_ValidPlacing_1.f, he, Ex.fin, slices_IndexFunc_impl_Placing_int8_at_impl_ValidPlacing_1.a0]
  rfl
theorem pans_ok {N : Nat} {w p : List Int} (h : OkW w) (hp : p.length = w.length) (hN : 100 < N) : ∃ a b, _impl_Weights_pans.f N w p = some (a, b) ∧ 0 ≤ a ∧ a ≤ 32000 ∧ 0 ≤ b ∧ b ≤ 32000 := by
  have hlen := h.len
  obtain ⟨e, he, a, b, rfl, q⟩ := rounds_ends (b := fun s => _impl_Weights_pans.b0 N p w s.1 s.2.1 s.2.2)
    (fun s => 0 ≤ s.2.2 ∧ s.2.2 ≤ (p.length : Int) ∧ 0 ≤ s.1 ∧ s.1 ≤ 2000 * s.2.2 ∧ 0 ≤ s.2.1 ∧ s.2.1 ≤ 2000 * s.2.2) (fun s => ((p.length : Int) - s.2.2).toNat)
    (fun e => ∃ a b, e = .go (a, b) ∧ 0 ≤ a ∧ a ≤ 32000 ∧ 0 ≤ b ∧ b ≤ 32000) (by
    rintro ⟨x, y, i⟩ ⟨i1, i2, i3, i4, i5, i6⟩
    simp only at i1 i2 i3 i4 i5 i6
    obtain ⟨i, rfl⟩ := Int.eq_ofNat_of_zero_le i1
    by_cases c : i < p.length
    · right
      have cw : i < w.length := by omega
      have q := h.range _ (List.getElem_mem cw)
      simp only [_impl_Weights_pans.b0, _impl_Weights_pans.j2, if_pos (show (i : Int) < (p.length : Int) by omega), if_pos (show (0 : Int) ≤ (i : Int) ∧ (i : Int) < (p.length : Int) from ⟨by omega, by omega⟩), if_pos (show (0 : Int) ≤ (i : Int) ∧ (i : Int) < (w.length : Int) from ⟨by omega, by omega⟩), rdL_nat cw, i64w_id (x := w[i]) (by omega) (by omega), i64w_id (x := x + w[i]) (by omega) (by omega), i64w_id (x := y + w[i]) (by omega) (by omega), i64w_succ c (show p.length ≤ 9223372036854775807 by omega)]
      by_cases c1 : rdL p (i : Int) 0 = -1
      · rw [if_pos c1]
        exact ⟨_, rfl, ⟨by dsimp only; omega, by dsimp only; omega, by dsimp only; omega, by dsimp only; omega, by dsimp only; omega, by dsimp only; omega⟩, by dsimp only; omega⟩
      · rw [if_neg c1]
        by_cases c2 : rdL p (i : Int) 0 = 1
        · rw [if_pos c2]
          exact ⟨_, rfl, ⟨by dsimp only; omega, by dsimp only; omega, by dsimp only; omega, by dsimp only; omega, by dsimp only; omega, by dsimp only; omega⟩, by dsimp only; omega⟩
        · rw [if_neg c2]
          exact ⟨_, rfl, ⟨by dsimp only; omega, by dsimp only; omega, by dsimp only; omega, by dsimp only; omega, by dsimp only; omega, by dsimp only; omega⟩, by dsimp only; omega⟩
    · left
      simp only [_impl_Weights_pans.b0, if_neg (show ¬ (i : Int) < (p.length : Int) by omega)]
      exact ⟨_, rfl, _, _, rfl, by omega, by omega, by omega, by omega⟩) N (0, 0, 0) ⟨by simp, by simp, by simp, by simp, by simp, by simp⟩ (by simp; omega)
  refine ⟨a, b, ?_, q⟩
  unfold _impl_Weights_pans.f
  rw [he]; rfl
end Go.Proofs.YtpphepkapccjeaaX
