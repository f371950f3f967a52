/- Tops by their numbers. -/
import Derived.Test.YtioefkcldfjobaaYU
namespace Go.Proofs.YtioefkcldfjobaaX
open Go
set_option linter.unusedVariables false
set_option linter.unusedSimpArgs false
/-- How many tops there are. -/
def prodR : List Int → Int
  | [] => 1
  | g :: gs => (g + 1) * prodR gs
/-- The number of tops. -/
def hor : List Int → List Int → Int
  | [], _ => 0
  | _ :: _, [] => 0
  | g :: gs, t :: ts => t + (g + 1) * hor gs ts
/-- The tops with a number. -/
def dig : List Int → Int → List Int
  | [], _ => []
  | g :: gs, k => k % (g + 1) :: dig gs (k / (g + 1))
theorem prodR_eq : ∀ (a : List Int) (m : Int), a.foldl (fun m x => m * (x + 1)) m = m * prodR a
  | [], m => by simp [prodR]
  | g :: gs, m => by rw [List.foldl_cons, prodR_eq gs, prodR, Int.mul_assoc]
theorem prodG_R (a : List Int) : prodG a = prodR a := by unfold prodG; rw [prodR_eq]; omega
theorem okG_tail {g : Int} {gs : List Int} (h : okG (g :: gs)) : (1 ≤ g ∧ g ≤ 40) ∧ okG gs := ⟨h g List.mem_cons_self, fun x hx => h x (List.mem_cons_of_mem _ hx)⟩
theorem prodR_pos : ∀ {a : List Int}, okG a → 1 ≤ prodR a
  | [], _ => by simp [prodR]
  | g :: gs, h => by
    obtain ⟨h1, h2⟩ := okG_tail h
    have := prodR_pos h2
    have := Int.mul_le_mul (show (2 : Int) ≤ g + 1 by omega) this (by omega) (by omega)
    simp only [prodR]; omega
/-- The digits are in range. -/
def inR : List Int → List Int → Prop
  | [], _ => True
  | _ :: _, [] => False
  | g :: gs, t :: ts => (0 ≤ t ∧ t ≤ g) ∧ inR gs ts
theorem hor_range : ∀ {a t : List Int}, okG a → inR a t → 0 ≤ hor a t ∧ hor a t < prodR a
  | [], _, _, _ => by simp [hor, prodR]
  | _ :: _, [], _, h => h.elim
  | g :: gs, t :: ts, h, ⟨h1, h2⟩ => by
    obtain ⟨g1, g2⟩ := okG_tail h
    obtain ⟨i1, i2⟩ := hor_range g2 h2
    have m1 := Int.mul_nonneg (show 0 ≤ g + 1 by omega) i1
    have m2 := Int.mul_le_mul_of_nonneg_left (show hor gs ts ≤ prodR gs - 1 by omega) (show 0 ≤ g + 1 by omega)
    rw [Int.mul_sub, Int.mul_one] at m2
    simp only [hor, prodR]
    omega
theorem dig_hor : ∀ {a t : List Int}, okG a → inR a t → dig a (hor a t) = t.take a.length
  | [], _, _, _ => by simp [dig]
  | _ :: _, [], _, h => h.elim
  | g :: gs, t :: ts, h, ⟨h1, h2⟩ => by
    obtain ⟨g1, g2⟩ := okG_tail h
    have e1 : (t + (g + 1) * hor gs ts) % (g + 1) = t := by rw [Int.add_mul_emod_self_left]; exact Int.emod_eq_of_lt h1.1 (by omega)
    have e2 : (t + (g + 1) * hor gs ts) / (g + 1) = hor gs ts := by rw [Int.add_mul_ediv_left _ _ (by omega)]; rw [Int.ediv_eq_zero_of_lt h1.1 (by omega)]; omega
    simp only [hor, dig, e1, e2, dig_hor g2 h2, List.length_cons, List.take_succ_cons]
theorem dig_len : ∀ (a : List Int) (k : Int), (dig a k).length = a.length
  | [], _ => rfl
  | g :: gs, k => by simp [dig, dig_len gs]
theorem dig_in : ∀ {a : List Int} {k : Int}, okG a → 0 ≤ k → inR a (dig a k)
  | [], _, _, _ => trivial
  | g :: gs, k, h, hk => by
    obtain ⟨g1, g2⟩ := okG_tail h
    have m1 := Int.emod_nonneg k (show g + 1 ≠ 0 by omega)
    have m2 := Int.emod_lt_of_pos k (show 0 < g + 1 by omega)
    exact ⟨⟨m1, by omega⟩, dig_in g2 (Int.ediv_nonneg hk (by omega))⟩
theorem hor_dig : ∀ {a : List Int} {k : Int} (ts : List Int), okG a → 0 ≤ k → k < prodR a → hor a (dig a k ++ ts) = k
  | [], k, ts, _, h0, h1 => by simp [prodR] at h1; simp [hor]; omega
  | g :: gs, k, ts, h, h0, h1 => by
    obtain ⟨g1, g2⟩ := okG_tail h
    have hq : k / (g + 1) < prodR gs := by
      refine Int.ediv_lt_of_lt_mul (by omega) ?_
      simp only [prodR] at h1
      rw [Int.mul_comm]; exact h1
    have ih := hor_dig ts g2 (Int.ediv_nonneg h0 (show 0 ≤ g + 1 by omega)) hq
    show k % (g + 1) + (g + 1) * hor gs (dig gs (k / (g + 1)) ++ ts) = k
    rw [ih]
    have := Int.emod_add_mul_ediv k (g + 1)
    omega
theorem inR_fits : ∀ {a l : List Int}, a.length ≤ l.length → (inR a l ↔ ∀ i : Nat, i < a.length → 0 ≤ l.getD i 0 ∧ l.getD i 0 ≤ a.getD i 0)
  | [], _, _ => by simp [inR]
  | _ :: _, [], h => by simp at h
  | g :: gs, t :: ts, h => by
    have ih := inR_fits (a := gs) (l := ts) (by simpa using h)
    constructor
    · rintro ⟨h1, h2⟩ i hi
      cases i with
      | zero => simpa using h1
      | succ i => simpa using (ih.1 h2) i (by simpa using hi)
    · intro hh
      refine ⟨by simpa using hh 0 (by simp), ih.2 fun i hi => ?_⟩
      simpa using hh (i + 1) (by simpa using hi)
theorem fits_in {a : List Int} {c : Ar Int 4} (hl : a.length ≤ 4) (h : fits a c) : inR a c.l := (inR_fits (by rw [c.h]; exact hl)).2 fun i hi => h i (by omega)
/-- The tops with a number, as the reference lays them. -/
def atT (a : List Int) (k : Int) : Ar Int 4 := ⟨(dig a k ++ List.replicate 4 0).take 4, by simp⟩
theorem atT_get {a : List Int} (hl : a.length ≤ 4) (k : Int) {i : Nat} (hi : i < 4) : (atT a k).l.getD i 0 = (dig a k).getD i 0 := by
  unfold atT
  rw [List.getD_eq_getElem?_getD, List.getD_eq_getElem?_getD, List.getElem?_take, if_pos hi]
  by_cases c : i < (dig a k).length
  · rw [List.getElem?_append_left c]
  · rw [List.getElem?_append_right (by omega), List.getElem?_eq_none (l := dig a k) (by omega), List.getElem?_replicate]
    split <;> rfl
theorem atT_fits {a : List Int} (hl : a.length ≤ 4) (ho : okG a) {k : Int} (h0 : 0 ≤ k) : fits a (atT a k) := by
  intro i hi
  rw [atT_get hl k hi]
  by_cases c : i < a.length
  · exact (inR_fits (by rw [dig_len]; exact Nat.le_refl _)).1 (dig_in ho h0) i c
  · have e1 : (dig a k).getD i 0 = 0 := by rw [List.getD_eq_getElem?_getD, List.getElem?_eq_none (by rw [dig_len]; omega)]; rfl
    rw [e1, getD_out c]; omega
theorem atT_hor {a : List Int} (hl : a.length ≤ 4) (ho : okG a) {c : Ar Int 4} (h : fits a c) : atT a (hor a c.l) = c := by
  have e := dig_hor ho (fits_in hl h)
  refine Ar.ext' ?_
  unfold atT
  simp only [e]
  refine List.ext_getElem (by simp [c.h]) fun i h1 h2 => ?_
  have hi : i < 4 := by rw [c.h] at h2; exact h2
  rw [List.getElem_take]
  by_cases hc : i < a.length
  · rw [List.getElem_append_left (by rw [List.length_take, c.h]; omega), List.getElem_take]
  · rw [List.getElem_append_right (by rw [List.length_take, c.h]; omega), List.getElem_replicate]
    have := h i hi
    rw [getD_out hc, getD_in h2] at this
    omega
theorem hor_atT {a : List Int} (hl : a.length ≤ 4) (ho : okG a) {k : Int} (h0 : 0 ≤ k) (h1 : k < prodR a) : hor a (atT a k).l = k := by
  have e : (atT a k).l = dig a k ++ List.replicate (4 - a.length) 0 := by
    unfold atT
    simp only
    rw [List.take_append, List.take_of_length_le (by rw [dig_len]; exact hl), dig_len, List.take_replicate]
    congr 2
    omega
  rw [e]
  exact hor_dig _ ho h0 h1
theorem drop_cons {l : List Int} {i : Nat} (h : i < l.length) : l.drop i = l.getD i 0 :: l.drop (i + 1) := by
  rw [List.drop_eq_getElem_cons h, getD_in h]
theorem okG_drop {a : List Int} (h : okG a) (i : Nat) : okG (a.drop i) := fun x hx => h x (List.mem_of_mem_drop hx)
theorem inR_drop : ∀ {a l : List Int} (i : Nat), inR a l → inR (a.drop i) (l.drop i)
  | a, l, 0, h => h
  | [], l, i + 1, h => by simp [inR]
  | _ :: _, [], _ + 1, h => h.elim
  | g :: gs, t :: ts, i + 1, h => by simpa using inR_drop i h.2
theorem prod_drop : ∀ {a : List Int} (i : Nat), okG a → prodR (a.drop i) ≤ prodR a
  | a, 0, h => Int.le_refl _
  | [], _ + 1, h => Int.le_refl _
  | g :: gs, i + 1, h => by
    obtain ⟨g1, g2⟩ := okG_tail h
    have ih := prod_drop i g2
    have p := prodR_pos g2
    have := Int.mul_le_mul (show (1 : Int) ≤ g + 1 by omega) (Int.le_refl (prodR gs)) (by omega) (by omega)
    simp only [List.drop_succ_cons, prodR]; omega
theorem index_eq {N : Nat} {a : List Int} {c : Ar Int 4} (ho : okG a) (hl : a.length ≤ 4) (hp : prodR a ≤ 3000) (hf : fits a c) (hN : 5 < N) : spec_l07Index.f N a c = some (hor a c.l) := by
  have hin := fits_in hl hf
  have main : ∀ (i m : Nat), i ≤ a.length → i < m → rounds (fun s => spec_l07Index.b0 N a c s.1 s.2) m (hor (a.drop i) (c.l.drop i), (i : Int) - 1) = some (.go (hor a c.l)) := by
    intro i
    induction i with
    | zero =>
      intro m _ hm
      obtain ⟨m, rfl⟩ : ∃ j, m = j + 1 := ⟨m - 1, by omega⟩
      refine rounds_out ?_
      show spec_l07Index.b0 N a c (hor a c.l) (((0 : Nat) : Int) - 1) = _
      unfold spec_l07Index.b0
      rw [if_neg (by omega)]
    | succ i ih =>
      intro m hi hm
      obtain ⟨m, rfl⟩ : ∃ j, m = j + 1 := ⟨m - 1, by omega⟩
      have hr := hor_range (okG_drop ho (i + 1)) (inR_drop (i + 1) hin)
      have hr2 := hor_range (okG_drop ho i) (inR_drop i hin)
      have hpd := prod_drop (a := a) (i + 1) ho
      have hpd2 := prod_drop (a := a) i ho
      have hil : i < c.l.length := by rw [c.h]; omega
      have ea : a.drop i = a.getD i 0 :: a.drop (i + 1) := drop_cons (by omega)
      have ec : c.l.drop i = c.l.getD i 0 :: c.l.drop (i + 1) := drop_cons hil
      have hg := getD_le ho i
      have hc := hf i (by omega)
      have eh : hor (a.drop i) (c.l.drop i) = c.l.getD i 0 + (a.getD i 0 + 1) * hor (a.drop (i + 1)) (c.l.drop (i + 1)) := by rw [ea, ec]; rfl
      have hm1 := Int.mul_nonneg (show 0 ≤ a.getD i 0 + 1 by omega) hr.1
      have hb : spec_l07Index.b0 N a c (hor (a.drop (i + 1)) (c.l.drop (i + 1))) (((i + 1 : Nat) : Int) - 1) = some (.next (hor (a.drop i) (c.l.drop i), (i : Int) - 1)) := by
        have ei : ((i + 1 : Nat) : Int) - 1 = (i : Int) := by omega
        rw [ei]
        unfold spec_l07Index.b0
        rw [if_pos (by omega), if_pos ⟨by omega, by omega⟩, if_pos ⟨by omega, by omega⟩]
        have er : rdL a (i : Int) 0 = a.getD i 0 := by unfold rdL; rw [Int.toNat_natCast]
        rw [er, ar_get]
        rw [i64w_id (x := a.getD i 0) (by omega) (by omega), i64w_id (x := a.getD i 0 + 1) (by omega) (by omega), i64w_id (x := c.l.getD i 0) (by omega) (by omega), Int.mul_comm, i64w_id (x := (a.getD i 0 + 1) * hor (a.drop (i + 1)) (c.l.drop (i + 1))) (by omega) (by omega), i64w_id (x := (a.getD i 0 + 1) * hor (a.drop (i + 1)) (c.l.drop (i + 1)) + c.l.getD i 0) (by omega) (by omega), i64w_id (x := (i : Int) - 1) (by omega) (by omega), eh, Int.add_comm (c.l.getD i 0)]
      exact (rounds_next (n := m) (b := fun s => spec_l07Index.b0 N a c s.1 s.2) (s := (hor (a.drop (i + 1)) (c.l.drop (i + 1)), ((i + 1 : Nat) : Int) - 1)) hb).trans (ih m (by omega) (by omega))
  have h := main a.length N (Nat.le_refl _) (by omega)
  rw [List.drop_length] at h
  unfold spec_l07Index.f
  rw [i64w_id (x := (a.length : Int) - 1) (by omega) (by omega), show rounds (fun s => spec_l07Index.b0 N a c s.1 s.2) N ((0 : Int), (a.length : Int) - 1) = _ from h]
  rfl
/-- What is left of a number behind so many digits. -/
def quo : List Int → Int → Nat → Int
  | _, k, 0 => k
  | [], k, _ + 1 => k
  | g :: gs, k, i + 1 => quo gs (k / (g + 1)) i
theorem quo_zero (a : List Int) (k : Int) : quo a k 0 = k := by cases a <;> rfl
theorem quo_dig : ∀ {a : List Int} {k : Int} {i : Nat}, i < a.length → (dig a k).getD i 0 = quo a k i % (a.getD i 0 + 1) ∧ quo a k (i + 1) = quo a k i / (a.getD i 0 + 1)
  | [], _, _, h => by simp at h
  | g :: gs, k, 0, _ => by cases gs <;> simp [dig, quo]
  | g :: gs, k, i + 1, h => by
    have ih := quo_dig (a := gs) (k := k / (g + 1)) (i := i) (by simpa using h)
    exact ih
theorem quo_range : ∀ {a : List Int} {k : Int} (i : Nat), okG a → 0 ≤ k → 0 ≤ quo a k i ∧ quo a k i ≤ k
  | a, k, 0, _, h => by rw [quo_zero]; exact ⟨h, Int.le_refl _⟩
  | [], k, _ + 1, _, h => ⟨h, Int.le_refl _⟩
  | g :: gs, k, i + 1, ho, h => by
    obtain ⟨g1, g2⟩ := okG_tail ho
    have q := quo_range (a := gs) (k := k / (g + 1)) i g2 (Int.ediv_nonneg h (by omega))
    have := Int.ediv_le_self (g + 1) h
    simp only [quo]
    omega
theorem at_eq {N : Nat} {a : List Int} {k : Int} (ho : okG a) (hl : a.length ≤ 4) (h0 : 0 ≤ k) (h1 : k ≤ 3000) (hN : 5 < N) : spec_l07At.f N a k = some (atT a k) := by
  have main : ∀ (m i : Nat) (c : Ar Int 4), i ≤ a.length → a.length - i < m → (∀ j, j < 4 → c.l.getD j 0 = if j < i then (dig a k).getD j 0 else 0) → rounds (fun s => spec_l07At.b0 N a s.1 s.2.1 s.2.2) m (quo a k i, c, (i : Int)) = some (.go (atT a k)) := by
    intro m
    induction m with
    | zero => intro i c _ h; exact absurd h (Nat.not_lt_zero _)
    | succ m ih =>
      intro i c hi hm hc
      by_cases cl : i < a.length
      · obtain ⟨q1, q2⟩ := quo_dig (k := k) cl
        have qr := quo_range (a := a) i ho h0
        have hg := getD_le ho i
        have er : rdL a (i : Int) 0 = a.getD i 0 := by unfold rdL; rw [Int.toNat_natCast]
        have hb : spec_l07At.b0 N a (quo a k i) c (i : Int) = some (.next (quo a k (i + 1), c.set (i : Int) ((dig a k).getD i 0), ((i + 1 : Nat) : Int))) := by
          have hm1 := Int.emod_nonneg (quo a k i) (show a.getD i 0 + 1 ≠ 0 by omega)
          have hm2 := Int.emod_lt_of_pos (quo a k i) (show 0 < a.getD i 0 + 1 by omega)
          have hd := Int.ediv_nonneg qr.1 (show 0 ≤ a.getD i 0 + 1 by omega)
          have hd2 := Int.ediv_le_self (a.getD i 0 + 1) qr.1
          unfold spec_l07At.b0
          rw [if_pos (by omega), if_pos ⟨by omega, by omega⟩, er, i64w_id (x := a.getD i 0) (by omega) (by omega), i64w_id (x := a.getD i 0 + 1) (by omega) (by omega), if_pos (by omega), if_pos ⟨by omega, by omega⟩, if_pos (by omega), Int.tmod_eq_emod_of_nonneg qr.1, Int.tdiv_eq_ediv_of_nonneg qr.1, i64w_id (x := quo a k i / (a.getD i 0 + 1)) (by omega) (by omega), i64w_id (x := (i : Int) + 1) (by omega) (by omega), q1, q2, show i16w (quo a k i % (a.getD i 0 + 1)) = quo a k i % (a.getD i 0 + 1) from i16w_id (by omega) (by omega)]
          rfl
        refine (rounds_next (n := m) (b := fun s => spec_l07At.b0 N a s.1 s.2.1 s.2.2) (s := (quo a k i, c, (i : Int))) hb).trans (ih (i + 1) _ (by omega) (by omega) fun j hj => ?_)
        by_cases e : i = j
        · subst e; rw [get_set_same hj, if_pos (by omega)]
        · rw [get_set_other e, hc j hj]
          by_cases hji : j < i
          · rw [if_pos hji, if_pos (by omega)]
          · rw [if_neg hji, if_neg (by omega)]
      · have : i = a.length := by omega
        subst this
        have e : c = atT a k := by
          refine Ar.ext' (List.ext_getElem (by rw [c.h, (atT a k).h]) fun j h1 h2 => ?_)
          have hj : j < 4 := by rw [c.h] at h1; exact h1
          have g1 := hc j hj
          rw [← getD_in h1, ← getD_in h2, g1, atT_get hl k hj]
          by_cases hja : j < a.length
          · rw [if_pos hja]
          · rw [if_neg hja, List.getD_eq_getElem?_getD, List.getElem?_eq_none (by rw [dig_len]; omega)]; rfl
        rw [e]
        refine rounds_out ?_
        show spec_l07At.b0 N a (quo a k a.length) (atT a k) (a.length : Int) = _
        unfold spec_l07At.b0
        rw [if_neg (by omega)]
  have h := main N 0 (Ar.rep 4 0) (by omega) (by omega) (fun j hj => by
    rw [if_neg (by omega)]
    match j, hj with
    | 0, _ => rfl
    | 1, _ => rfl
    | 2, _ => rfl
    | 3, _ => rfl)
  rw [quo_zero] at h
  unfold spec_l07At.f
  rw [show rounds (fun s => spec_l07At.b0 N a s.1 s.2.1 s.2.2) N (k, (Ar.rep 4 0), 0) = _ from h]
  rfl
end Go.Proofs.YtioefkcldfjobaaX
