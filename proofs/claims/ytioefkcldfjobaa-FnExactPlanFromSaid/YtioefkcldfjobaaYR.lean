/- The fewest turns, by times and numbers of tops: what a set adds, what all entries of a time add; in whatever order. -/
import Derived.Test.YtioefkcldfjobaaYQ
namespace Go.Proofs.YtioefkcldfjobaaX
open Go
set_option linter.unusedVariables false
set_option linter.unusedSimpArgs false
/-- The lesser one, if there is any. -/
def om : Option Nat → Option Nat → Option Nat
  | none, y => y
  | some a, none => some a
  | some a, some b => some (min a b)
theorem om_none (x : Option Nat) : om x none = x := by cases x <;> rfl
theorem om_assoc (x y z : Option Nat) : om (om x y) z = om x (om y z) := by
  cases x <;> cases y <;> cases z <;> simp [om, Nat.min_assoc]
theorem om_comm (x y : Option Nat) : om x y = om y x := by
  cases x <;> cases y <;> simp [om, Nat.min_comm]
/-- The least of those that count. -/
def Om (don : Nat → Bool) (c : Nat → Option Nat) : Nat → Option Nat
  | 0 => none
  | m + 1 => om (Om don c m) (if don m = true then c m else none)
def tt : Nat → Bool := fun _ => true
theorem Om_more {don : Nat → Bool} {c : Nat → Option Nat} {i : Nat} (h : don i = false) : ∀ m, Om (fun k => don k || (k == i)) c m = om (Om don c m) (if i < m then c i else none)
  | 0 => by simp [Om, om]
  | m + 1 => by
    rw [Om, Om, Om_more h m]
    by_cases e : m = i
    · subst e
      simp [h, om_none]
    · have : (m == i) = false := by simpa using e
      simp only [this, Bool.or_false]
      by_cases c1 : i < m
      · rw [if_pos c1, if_pos (show i < m + 1 by omega), om_assoc, om_assoc, om_comm (c i)]
      · rw [if_neg c1, if_neg (show ¬ i < m + 1 by omega), om_none, om_none]
theorem Om_all {don : Nat → Bool} {c : Nat → Option Nat} : ∀ {m : Nat}, (∀ i, i < m → don i = false → c i = none) → Om don c m = Om tt c m
  | 0, _ => rfl
  | m + 1, h => by
    rw [Om, Om, Om_all fun i hi hd => h i (by omega) hd]
    cases e : don m with
    | true => simp [tt]
    | false => rw [if_neg Bool.false_ne_true, h m (by omega) e]; simp [tt]
theorem Om_no {c : Nat → Option Nat} : ∀ m, Om (fun _ => false) c m = none
  | 0 => rfl
  | m + 1 => by rw [Om, Om_no m]; rfl
theorem Om_step {c : Nat → Option Nat} (m : Nat) : Om tt c (m + 1) = om (Om tt c m) (c m) := by simp [Om, tt]
theorem Om_congr {don : Nat → Bool} {c d : Nat → Option Nat} : ∀ {m : Nat}, (∀ i, i < m → c i = d i) → Om don c m = Om don d m
  | 0, _ => rfl
  | m + 1, h => by rw [Om, Om, Om_congr fun i hi => h i (by omega), h m (by omega)]
theorem Om_nil {don : Nat → Bool} {c : Nat → Option Nat} : ∀ {m : Nat}, (∀ i, i < m → c i = none) → Om don c m = none
  | 0, _ => rfl
  | m + 1, h => by rw [Om, Om_nil fun i hi => h i (by omega), h m (by omega)]; simp [om]
theorem om_le {x y : Option Nat} {b : Nat} (hx : ∀ v, x = some v → v ≤ b) (hy : ∀ v, y = some v → v ≤ b) : ∀ v, om x y = some v → v ≤ b := by
  intro v h
  cases x with
  | none => exact hy v h
  | some a =>
    have := hx a rfl
    cases y with
    | none => simp [om] at h; omega
    | some c => simp [om] at h; omega
/-- How many glasses a set has. -/
def pc (s : Nat) : Nat := ((bits_OnesCount8.f 0 (s : Int)).getD 0).toNat
theorem pc_all : ∀ s : Nat, s < 16 → (rounds (fun s => spec_l07Turns.b0 0 s.1 s.2) 10 ((s : Int), 0)).bind (Ex.fin fun s => spec_l07Turns.a0 0 s) = some ((pc s : Nat) : Int) ∧ bits_OnesCount8.f 0 (s : Int) = some ((pc s : Nat) : Int) ∧ pc s ≤ 4 := by decide +kernel
theorem turns_pc {N : Nat} (hN : 10 ≤ N) {s : Nat} (hs : s < 16) : spec_l07Turns.f N (s : Int) = some ((pc s : Nat) : Int) := by
  obtain ⟨e, he, hf⟩ := bind_get (pc_all s hs).1
  unfold spec_l07Turns.f
  rw [show (fun s : Int × Int => spec_l07Turns.b0 N s.1 s.2) = (fun s => spec_l07Turns.b0 0 s.1 s.2) from rfl, rounds_mono he hN]
  exact hf
theorem ones_pc {N : Nat} {s : Nat} (hs : s < 16) : bits_OnesCount8.f N (s : Int) = some ((pc s : Nat) : Int) := (pc_all s hs).2.1
abbrev Tb := Nat → Nat → Option Nat
section
variable {a : List Int} {n T N : Nat}
/-- The moment at a time, with a number of tops. -/
def Mk (a : List Int) (t k : Nat) : Mo := ⟨(t : Int), atT a (k : Int)⟩
theorem Mk_ok (h : Se a n T) {t k : Nat} (ht : t ≤ T) (hk : k < n) : okM a (T : Int) (Mk a t k) := ⟨⟨Int.natCast_nonneg _, Int.ofNat_le.2 ht⟩, atT_fits h.gl.len h.gl.ok (Int.natCast_nonneg _)⟩
/-- Time and number of tops of a moment. -/
def tOf (y : Mo) : Nat := y.f_time.toNat
def kOf (a : List Int) (y : Mo) : Nat := (hor a y.f_tops.l).toNat
theorem Mk_of (h : Se a n T) {y : Mo} (hy : okM a (T : Int) y) : tOf y ≤ T ∧ kOf a y < n ∧ Mk a (tOf y) (kOf a y) = y := by
  obtain ⟨⟨t0, t1⟩, hf⟩ := hy
  obtain ⟨h0, h1⟩ := hor_range h.gl.ok (fits_in h.gl.len hf)
  have hn := h.n_eq
  refine ⟨by unfold tOf; omega, by unfold kOf; omega, ?_⟩
  unfold Mk tOf kOf
  rw [Int.toNat_of_nonneg t0, Int.toNat_of_nonneg h0, atT_hor h.gl.len h.gl.ok hf]
theorem of_Mk (h : Se a n T) {t k : Nat} (hk : k < n) : tOf (Mk a t k) = t ∧ kOf a (Mk a t k) = k := by
  refine ⟨by simp [tOf, Mk], ?_⟩
  show (hor a (atT a (k : Int)).l).toNat = k
  rw [hor_atT h.gl.len h.gl.ok (Int.natCast_nonneg _) (by rw [← h.n_eq]; omega), Int.toNat_natCast]
theorem atT_inj (h : Se a n T) {j k : Nat} (hj : j < n) (hk : k < n) (e : atT a (j : Int) = atT a (k : Int)) : j = k := by
  have h1 := (of_Mk h (t := 0) hj).2
  have h2 := (of_Mk h (t := 0) hk).2
  unfold kOf Mk at h1 h2
  simp only at h1 h2
  rw [e] at h1
  omega
/-- What is next is later. -/
theorem suc_later {N : Nat} {T : Int} {x y : Mo} {s : Nat} (h : suc N a T x s = some y) : x.f_time < y.f_time := by
  unfold suc at h
  split at h
  · split at h
    · cases h; dsimp only; omega
    · cases h
  · cases h
/-- What a set adds. -/
def stp1 (N : Nat) (a : List Int) (T : Nat) (F : Tb) (x : Mo) (v s : Nat) : Tb := match suc N a (T : Int) x s with
  | some y => fun t k => if t = tOf y ∧ k = kOf a y then om (F t k) (some (v + pc s)) else F t k
  | none => F
/-- What the first sets give to a moment. -/
def cd (N : Nat) (a : List Int) (T : Nat) (x : Mo) (v : Nat) (t k : Nat) : Nat → Option Nat
  | 0 => none
  | m + 1 => om (cd N a T x v t k m) (match suc N a (T : Int) x m with | some y => if t = tOf y ∧ k = kOf a y then some (v + pc m) else none | none => none)
def stpS (N : Nat) (a : List Int) (T : Nat) (F : Tb) (x : Mo) (v m : Nat) : Tb := fun t k => om (F t k) (cd N a T x v t k m)
theorem stpS_step (F : Tb) (x : Mo) (v m : Nat) : stp1 N a T (stpS N a T F x v m) x v m = stpS N a T F x v (m + 1) := by
  funext t k
  unfold stp1 stpS
  rw [cd]
  cases suc N a (T : Int) x m with
  | none => rw [om_none]
  | some y =>
    dsimp only
    by_cases c : t = tOf y ∧ k = kOf a y
    · rw [if_pos c, if_pos c, om_assoc]
    · rw [if_neg c, if_neg c, om_none]
theorem stpS_zero (F : Tb) (x : Mo) (v : Nat) : stpS N a T F x v 0 = F := by
  funext t k
  unfold stpS cd
  rw [om_none]
/-- Nothing is given to what is not later. -/
theorem cd_later {t1 k1 v t k : Nat} (ht : t ≤ t1) : ∀ m, cd N a T (Mk a t1 k1) v t k m = none
  | 0 => rfl
  | m + 1 => by
    unfold cd
    rw [cd_later ht m]
    cases e : suc N a (T : Int) (Mk a t1 k1) m with
    | none => rfl
    | some y =>
      dsimp only
      have hl := suc_later e
      have : ¬ (t = tOf y ∧ k = kOf a y) := by
        rintro ⟨e1, _⟩
        unfold tOf at e1
        simp only [Mk] at hl
        omega
      rw [if_neg this]
      rfl
theorem cd_le {x : Mo} {v t k : Nat} : ∀ m, m ≤ 16 → ∀ w, cd N a T x v t k m = some w → w ≤ v + 4
  | 0, _, w, h => by cases h
  | m + 1, hm, w, h => by
    rw [cd] at h
    refine om_le (cd_le m (by omega)) ?_ w h
    intro u hu
    have := (pc_all m (by omega)).2.2
    split at hu
    · split at hu
      · rw [← Option.some.inj hu]; exact Nat.add_le_add_left this v
      · cases hu
    · cases hu
theorem cd_late {x : Mo} {v t k : Nat} : ∀ m w, cd N a T x v t k m = some w → x.f_time < (t : Int)
  | 0, w, h => by cases h
  | m + 1, w, h => by
    rw [cd] at h
    cases e1 : cd N a T x v t k m with
    | some u => exact cd_late m u e1
    | none =>
      rw [e1] at h
      cases e : suc N a (T : Int) x m with
      | none => rw [e] at h; cases h
      | some y =>
        rw [e] at h
        dsimp only [om] at h
        by_cases c : t = tOf y ∧ k = kOf a y
        · have hl := suc_later e
          obtain ⟨c1, _⟩ := c
          unfold tOf at c1
          omega
        · rw [if_neg c] at h; cases h
/-- What entry i of a time gives to a moment. -/
def give (N : Nat) (a : List Int) (T : Nat) (F : Tb) (t1 t k i : Nat) : Option Nat := match F t1 i with
  | some v => cd N a T (Mk a t1 i) v t k (2 ^ a.length)
  | none => none
/-- The table when some entries of a time are done. -/
def Fd (N : Nat) (a : List Int) (n T : Nat) (F : Tb) (t1 : Nat) (don : Nat → Bool) : Tb := fun t k => om (F t k) (Om don (give N a T F t1 t k) n)
theorem Fd_now {F : Tb} {t1 : Nat} {don : Nat → Bool} {t : Nat} (ht : t ≤ t1) (k : Nat) : Fd N a n T F t1 don t k = F t k := by
  unfold Fd
  rw [Om_nil, om_none]
  intro i _
  unfold give
  split
  · exact cd_later ht _
  · rfl
theorem Fd_more {F : Tb} {t1 : Nat} {don : Nat → Bool} {i v : Nat} (hi : i < n) (hd : don i = false) (hv : F t1 i = some v) :
    Fd N a n T F t1 (fun k => don k || (k == i)) = stpS N a T (Fd N a n T F t1 don) (Mk a t1 i) v (2 ^ a.length) := by
  funext t k
  unfold Fd stpS
  rw [Om_more hd, if_pos hi, om_assoc]
  congr 2
  unfold give
  rw [hv]
/-- The table behind so many times. -/
def Gt (N : Nat) (a : List Int) (n T : Nat) (c : T4) : Nat → Tb
  | 0 => fun t k => if t = 0 ∧ k = (hor a c.l).toNat then some 0 else none
  | t1 + 1 => Fd N a n T (Gt N a n T c t1) t1 tt
/-- The values are small. -/
def low (F : Tb) : Prop := ∀ t k v, F t k = some v → v ≤ 4 * t
theorem give_low (hlen : a.length ≤ 4) {F : Tb} (hF : low F) {t1 t k i v : Nat} (h : give N a T F t1 t k i = some v) : v ≤ 4 * t := by
  unfold give at h
  cases e : F t1 i with
  | none => rw [e] at h; cases h
  | some u =>
    rw [e] at h
    have h1 := cd_le _ (pow_le hlen).1 v h
    have h2 := cd_late _ v h
    have h3 := hF t1 i u e
    simp only [Mk] at h2
    omega
theorem Om_low {don : Nat → Bool} {c : Nat → Option Nat} {b : Nat} (hc : ∀ i v, c i = some v → v ≤ b) : ∀ m v, Om don c m = some v → v ≤ b
  | 0, v, h => by cases h
  | m + 1, v, h => by
    rw [Om] at h
    refine om_le (Om_low hc m) ?_ v h
    intro u hu
    split at hu
    · exact hc m u hu
    · cases hu
theorem Fd_low (hlen : a.length ≤ 4) {F : Tb} (hF : low F) {t1 : Nat} {don : Nat → Bool} : low (Fd N a n T F t1 don) := fun t k v h =>
  om_le (b := 4 * t) (fun v h => hF t k v h) (Om_low (fun i v h => give_low hlen hF h) n) v h
theorem stpS_low (hlen : a.length ≤ 4) {F : Tb} (hF : low F) {t1 i v m : Nat} (hv : v ≤ 4 * t1) (hm : m ≤ 16) : low (stpS N a T F (Mk a t1 i) v m) := fun t k w h =>
  om_le (b := 4 * t) (fun v h => hF t k v h) (fun u hu => by
    have h1 := cd_le _ hm u hu
    have h2 := cd_late _ u hu
    simp only [Mk] at h2
    omega) w h
theorem Gt_low (hlen : a.length ≤ 4) {c : T4} : ∀ t1, low (Gt N a n T c t1)
  | 0 => fun t k v h => by
    simp only [Gt] at h
    split at h
    · cases h; omega
    · cases h
  | t1 + 1 => Fd_low hlen (Gt_low hlen t1)
/-- What is known of a time does not turn any more. -/
theorem Gt_last (h : Se a n T) {c : T4} {k : Nat} (hk : k < n) (hN : 5 < N) : Gt N a n T c (T + 1) = Gt N a n T c T := by
  funext t k
  show om _ _ = _
  rw [Om_nil, om_none]
  intro i hi
  unfold give
  have hp := pow_le h.gl.len
  cases e : Gt N a n T c T T i with
  | none => rfl
  | some v =>
    dsimp only
    have hno : ∀ m, m ≤ 16 → cd N a T (Mk a T i) v t k m = none := by
      intro m
      induction m with
      | zero => intro _; rfl
      | succ m ih =>
        intro hm
        rw [cd, ih (by omega)]
        cases e2 : suc N a (T : Int) (Mk a T i) m with
        | none => rfl
        | some y =>
          have h1 := suc_later e2
          have h2 := (suc_ok h.gl (Mk_ok h (Nat.le_refl T) hi) (show m ≤ 255 by omega) hN e2).1.2
          simp only [Mk] at h1
          omega
    exact hno _ hp.1
end
end Go.Proofs.YtioefkcldfjobaaX
