/- The fewest turns, by times and numbers of tops: what a set adds, what all entries of a time add; in whatever order. -/
import Derived.Test.YtmnaclghakalmaaYB
namespace Go.Proofs.YtmnaclghakalmaaX
open Go
set_option linter.unusedVariables false
set_option linter.unusedSimpArgs false
/-- The lesser one, if there is any. -/
def om : Option Nat → Option Nat → Option Nat
  | none, y => y
  | some a, none => some a
  | some a, some b => some (min a b)
theorem om_none (x : Option Nat) : om x none = x := by cases x <;> rfl
theorem om_assoc (x y z : Option Nat) : om (om x y) z = om x (om y z) := by
  cases x <;> cases y <;> cases z <;> simp [om, Nat.min_assoc]
theorem om_comm (x y : Option Nat) : om x y = om y x := by
  cases x <;> cases y <;> simp [om, Nat.min_comm]
/-- The least of those that count. -/
def Om (don : Nat → Bool) (c : Nat → Option Nat) : Nat → Option Nat
  | 0 => none
  | m + 1 => om (Om don c m) (if don m = true then c m else none)
def tt : Nat → Bool := fun _ => true
theorem Om_more {don : Nat → Bool} {c : Nat → Option Nat} {i : Nat} (h : don i = false) : ∀ m, Om (fun k => don k || (k == i)) c m = om (Om don c m) (if i < m then c i else none)
  | 0 => by simp [Om, om]
  | m + 1 => by
    rw [Om, Om, Om_more h m]
    by_cases e : m = i
    · subst e
      simp [h, om_none]
    · have : (m == i) = false := by simpa using e
      simp only [this, Bool.or_false]
      by_cases c1 : i < m
      · rw [if_pos c1, if_pos (show i < m + 1 by omega), om_assoc, om_assoc, om_comm (c i)]
      · rw [if_neg c1, if_neg (show ¬ i < m + 1 by omega), om_none, om_none]
theorem Om_all {don : Nat → Bool} {c : Nat → Option Nat} : ∀ {m : Nat}, (∀ i, i < m → don i = false → c i = none) → Om don c m = Om tt c m
  | 0, _ => rfl
  | m + 1, h => by
    rw [Om, Om, Om_all fun i hi hd => h i (by omega) hd]
    cases e : don m with
    | true => simp [tt]
    | false => rw [if_neg Bool.false_ne_true, h m (by omega) e]; simp [tt]
theorem Om_no {c : Nat → Option Nat} : ∀ m, Om (fun _ => false) c m = none
  | 0 => rfl
  | m + 1 => by rw [Om, Om_no m]; rfl
theorem Om_step {c : Nat → Option Nat} (m : Nat) : Om tt c (m + 1) = om (Om tt c m) (c m) := by simp [Om, tt]
theorem Om_congr {don : Nat → Bool} {c d : Nat → Option Nat} : ∀ {m : Nat}, (∀ i, i < m → c i = d i) → Om don c m = Om don d m
  | 0, _ => rfl
  | m + 1, h => by rw [Om, Om, Om_congr fun i hi => h i (by omega), h m (by omega)]
theorem Om_nil {don : Nat → Bool} {c : Nat → Option Nat} : ∀ {m : Nat}, (∀ i, i < m → c i = none) → Om don c m = none
  | 0, _ => rfl
  | m + 1, h => by rw [Om, Om_nil fun i hi => h i (by omega), h m (by omega)]; simp [om]
theorem om_le {x y : Option Nat} {b : Nat} (hx : ∀ v, x = some v → v ≤ b) (hy : ∀ v, y = some v → v ≤ b) : ∀ v, om x y = some v → v ≤ b := by
  intro v h
  cases x with
  | none => exact hy v h
  | some a =>
    have := hx a rfl
    cases y with
    | none => simp [om] at h; omega
    | some c => simp [om] at h; omega
/-- How many glasses a set has. -/
def pc (s : Nat) : Nat := ((bits_OnesCount8.f 0 (s : Int)).getD 0).toNat
theorem pc_all : ∀ s : Nat, s < 16 → (rounds (fun s => spec_l07Turns.b0 0 s.1 s.2) 10 ((s : Int), 0)).bind (Ex.fin fun s => spec_l07Turns.a0 0 s) = some ((pc s : Nat) : Int) ∧ bits_OnesCount8.f 0 (s : Int) = some ((pc s : Nat) : Int) ∧ pc s ≤ 4 := by decide +kernel
theorem turns_pc {N : Nat} (hN : 10 ≤ N) {s : Nat} (hs : s < 16) : spec_l07Turns.f N (s : Int) = some ((pc s : Nat) : Int) := by
  obtain ⟨e, he, hf⟩ := bind_get (pc_all s hs).1
  unfold spec_l07Turns.f
  rw [show (fun s : Int × Int => spec_l07Turns.b0 N s.1 s.2) = (fun s => spec_l07Turns.b0 0 s.1 s.2) from rfl, rounds_mono he hN]
  exact hf
theorem ones_pc {N : Nat} {s : Nat} (hs : s < 16) : bits_OnesCount8.f N (s : Int) = some ((pc s : Nat) : Int) := (pc_all s hs).2.1
abbrev Tb := Nat → Nat → Option Nat
section
variable {a : List Int} {n T N : Nat}
/-- The moment at a time, with a number of tops. -/
def Mk (a : List Int) (t k : Nat) : Mo := ⟨(t : Int), atT a (k : Int)⟩
theorem Mk_ok (h : Se a n T) {t k : Nat} (ht : t ≤ T) (hk : k < n) : okM a (T : Int) (Mk a t k) := ⟨⟨Int.natCast_nonneg _, Int.ofNat_le.2 ht⟩, atT_fits h.gl.len h.gl.ok (Int.natCast_nonneg _)⟩
/-- Time and number of tops of a moment. -/
def tOf (y : Mo) : Nat := y.f_time.toNat
def kOf (a : List Int) (y : Mo) : Nat := (hor a y.f_tops.l).toNat
theorem Mk_of (h : Se a n T) {y : Mo} (hy : okM a (T : Int) y) : tOf y ≤ T ∧ kOf a y < n ∧ Mk a (tOf y) (kOf a y) = y := by
  obtain ⟨⟨t0, t1⟩, hf⟩ := hy
  obtain ⟨h0, h1⟩ := hor_range h.gl.ok (fits_in h.gl.len hf)
  have hn := h.n_eq
  refine ⟨by unfold tOf; omega, by unfold kOf; omega, ?_⟩
  unfold Mk tOf kOf
  rw [Int.toNat_of_nonneg t0, Int.toNat_of_nonneg h0, atT_hor h.gl.len h.gl.ok hf]
theorem of_Mk (h : Se a n T) {t k : Nat} (hk : k < n) : tOf (Mk a t k) = t ∧ kOf a (Mk a t k) = k := by
  refine ⟨by simp [tOf, Mk], ?_⟩
  show (hor a (atT a (k : Int)).l).toNat = k
  rw [hor_atT h.gl.len h.gl.ok (Int.natCast_nonneg _) (by rw [← h.n_eq]; omega), Int.toNat_natCast]
theorem atT_inj (h : Se a n T) {j k : Nat} (hj : j < n) (hk : k < n) (e : atT a (j : Int) = atT a (k : Int)) : j = k := by
  have h1 := (of_Mk h (t := 0) hj).2
  have h2 := (of_Mk h (t := 0) hk).2
  unfold kOf Mk at h1 h2
  simp only at h1 h2
  rw [e] at h1
  omega
/-- What is next is later. -/
theorem suc_later {N : Nat} {T : Int} {x y : Mo} {s : Nat} (h : suc N a T x s = some y) : x.f_time < y.f_time := by
  unfold suc at h
  split at h
  · split at h
    · cases h; dsimp only; omega
    · cases h
  · cases h
/-- What a set adds. -/
def stp1 (N : Nat) (a : List Int) (T : Nat) (F : Tb) (x : Mo) (v s : Nat) : Tb := match suc N a (T : Int) x s with
  | some y => fun t k => if t = tOf y ∧ k = kOf a y then om (F t k) (some (v + pc s)) else F t k
  | none => F
/-- What the first sets give to a moment. -/
def cd (N : Nat) (a : List Int) (T : Nat) (x : Mo) (v : Nat) (t k : Nat) : Nat → Option Nat
  | 0 => none
  | m + 1 => om (cd N a T x v t k m) (match suc N a (T : Int) x m with | some y => if t = tOf y ∧ k = kOf a y then some (v + pc m) else none | none => none)
def stpS (N : Nat) (a : List Int) (T : Nat) (F : Tb) (x : Mo) (v m : Nat) : Tb := fun t k => om (F t k) (cd N a T x v t k m)
theorem stpS_step (F : Tb) (x : Mo) (v m : Nat) : stp1 N a T (stpS N a T F x v m) x v m = stpS N a T F x v (m + 1) := by
  funext t k
  unfold stp1 stpS
  rw [cd]
  cases suc N a (T : Int) x m with
  | none => rw [om_none]
  | some y =>
    dsimp only
    by_cases c : t = tOf y ∧ k = kOf a y
    · rw [if_pos c, if_pos c, om_assoc]
    · rw [if_neg c, if_neg c, om_none]
theorem stpS_zero (F : Tb) (x : Mo) (v : Nat) : stpS N a T F x v 0 = F := by
  funext t k
  unfold stpS cd
  rw [om_none]
/-- Nothing is given to what is not later. -/
theorem cd_later {t1 k1 v t k : Nat} (ht : t ≤ t1) : ∀ m, cd N a T (Mk a t1 k1) v t k m = none
  | 0 => rfl
  | m + 1 => by
    unfold cd
    rw [cd_later ht m]
    cases e : suc N a (T : Int) (Mk a t1 k1) m with
    | none => rfl
    | some y =>
      dsimp only
      have hl := suc_later e
      have : ¬ (t = tOf y ∧ k = kOf a y) := by
        rintro ⟨e1, _⟩
        unfold tOf at e1
        simp only [Mk] at hl
        omega
      rw [if_neg this]
      rfl
theorem cd_le {x : Mo} {v t k : Nat} : ∀ m, m ≤ 16 → ∀ w, cd N a T x v t k m = some w → w ≤ v + 4
  | 0, _, w, h => by cases h
  | m + 1, hm, w, h => by
    rw [cd] at h
    refine om_le (cd_le m (by omega)) ?_ w h
    intro u hu
    have := (pc_all m (by omega)).2.2
    split at hu
    · split at hu
      · rw [← Option.some.inj hu]; exact Nat.add_le_add_left this v
      · cases hu
    · cases hu
theorem cd_late {x : Mo} {v t k : Nat} : ∀ m w, cd N a T x v t k m = some w → x.f_time < (t : Int)
  | 0, w, h => by cases h
  | m + 1, w, h => by
    rw [cd] at h
    cases e1 : cd N a T x v t k m with
    | some u => exact cd_late m u e1
    | none =>
      rw [e1] at h
      cases e : suc N a (T : Int) x m with
      | none => rw [e] at h; cases h
      | some y =>
        rw [e] at h
        dsimp only [om] at h
        by_cases c : t = tOf y ∧ k = kOf a y
        · have hl := suc_later e
          obtain ⟨c1, _⟩ := c
          unfold tOf at c1
          omega
        · rw [if_neg c] at h; cases h
/-- What entry i of a time gives to a moment. -/
def give (N : Nat) (a : List Int) (T : Nat) (F : Tb) (t1 t k i : Nat) : Option Nat := match F t1 i with
  | some v => cd N a T (Mk a t1 i) v t k (2 ^ a.length)
  | none => none
/-- The table when some entries of a time are done. -/
def Fd (N : Nat) (a : List Int) (n T : Nat) (F : Tb) (t1 : Nat) (don : Nat → Bool) : Tb := fun t k => om (F t k) (Om don (give N a T F t1 t k) n)
theorem Fd_now {F : Tb} {t1 : Nat} {don : Nat → Bool} {t : Nat} (ht : t ≤ t1) (k : Nat) : Fd N a n T F t1 don t k = F t k := by
  unfold Fd
  rw [Om_nil, om_none]
  intro i _
  unfold give
  split
  · exact cd_later ht _
  · rfl
theorem Fd_more {F : Tb} {t1 : Nat} {don : Nat → Bool} {i v : Nat} (hi : i < n) (hd : don i = false) (hv : F t1 i = some v) :
    Fd N a n T F t1 (fun k => don k || (k == i)) = stpS N a T (Fd N a n T F t1 don) (Mk a t1 i) v (2 ^ a.length) := by
  funext t k
  unfold Fd stpS
  rw [Om_more hd, if_pos hi, om_assoc]
  congr 2
  unfold give
  rw [hv]
/-- The table behind so many times. -/
def Gt (N : Nat) (a : List Int) (n T : Nat) (c : T4) : Nat → Tb
  | 0 => fun t k => if t = 0 ∧ k = (hor a c.l).toNat then some 0 else none
  | t1 + 1 => Fd N a n T (Gt N a n T c t1) t1 tt
/-- The values are small. -/
def low (F : Tb) : Prop := ∀ t k v, F t k = some v → v ≤ 4 * t
theorem give_low (hlen : a.length ≤ 4) {F : Tb} (hF : low F) {t1 t k i v : Nat} (h : give N a T F t1 t k i = some v) : v ≤ 4 * t := by
  unfold give at h
  cases e : F t1 i with
  | none => rw [e] at h; cases h
  | some u =>
    rw [e] at h
    have h1 := cd_le _ (pow_le hlen).1 v h
    have h2 := cd_late _ v h
    have h3 := hF t1 i u e
    simp only [Mk] at h2
    omega
theorem Om_low {don : Nat → Bool} {c : Nat → Option Nat} {b : Nat} (hc : ∀ i v, c i = some v → v ≤ b) : ∀ m v, Om don c m = some v → v ≤ b
  | 0, v, h => by cases h
  | m + 1, v, h => by
    rw [Om] at h
    refine om_le (Om_low hc m) ?_ v h
    intro u hu
    split at hu
    · exact hc m u hu
    · cases hu
theorem Fd_low (hlen : a.length ≤ 4) {F : Tb} (hF : low F) {t1 : Nat} {don : Nat → Bool} : low (Fd N a n T F t1 don) := fun t k v h =>
  om_le (b := 4 * t) (fun v h => hF t k v h) (Om_low (fun i v h => give_low hlen hF h) n) v h
theorem stpS_low (hlen : a.length ≤ 4) {F : Tb} (hF : low F) {t1 i v m : Nat} (hv : v ≤ 4 * t1) (hm : m ≤ 16) : low (stpS N a T F (Mk a t1 i) v m) := fun t k w h =>
  om_le (b := 4 * t) (fun v h => hF t k v h) (fun u hu => by
    have h1 := cd_le _ hm u hu
    have h2 := cd_late _ u hu
    simp only [Mk] at h2
    omega) w h
theorem Gt_low (hlen : a.length ≤ 4) {c : T4} : ∀ t1, low (Gt N a n T c t1)
  | 0 => fun t k v h => by
    simp only [Gt] at h
    split at h
    · cases h; omega
    · cases h
  | t1 + 1 => Fd_low hlen (Gt_low hlen t1)
/-- What is known of a time does not turn any more. -/
theorem Gt_last (h : Se a n T) {c : T4} {k : Nat} (hk : k < n) (hN : 5 < N) : Gt N a n T c (T + 1) = Gt N a n T c T := by
  funext t k
  show om _ _ = _
  rw [Om_nil, om_none]
  intro i hi
  unfold give
  have hp := pow_le h.gl.len
  cases e : Gt N a n T c T T i with
  | none => rfl
  | some v =>
    dsimp only
    have hno : ∀ m, m ≤ 16 → cd N a T (Mk a T i) v t k m = none := by
      intro m
      induction m with
      | zero => intro _; rfl
      | succ m ih =>
        intro hm
        rw [cd, ih (by omega)]
        cases e2 : suc N a (T : Int) (Mk a T i) m with
        | none => rfl
        | some y =>
          have h1 := suc_later e2
          have h2 := (suc_ok h.gl (Mk_ok h (Nat.le_refl T) hi) (show m ≤ 255 by omega) hN e2).1.2
          simp only [Mk] at h1
          omega
    exact hno _ hp.1
end
end Go.Proofs.YtmnaclghakalmaaX

/- The specification's table of the fewest turns. -/
namespace Go.Proofs.YtmnaclghakalmaaX
open Go
set_option linter.unusedVariables false
set_option linter.unusedSimpArgs false
/-- A number that may be none, as the table has it. -/
def vi : Option Nat → Int
  | none => -1
  | some v => (v : Int)
theorem rdL_stL {α : Type} {L : List α} {i j : Nat} {v z : α} : rdL (stL L (i : Int) v) (j : Int) z = if i = j ∧ i < L.length then v else rdL L (j : Int) z := by
  simp only [rdL, stL, Int.toNat_natCast, List.getD, List.getElem?_set]
  by_cases e : i = j
  · subst e
    by_cases c : i < L.length
    · simp [c]
    · simp [c]
  · simp [e]
theorem len_stL {α : Type} {L : List α} {i : Int} {v : α} : (stL L i v).length = L.length := by simp [stL]
/-- A table that tells F. -/
structure RepT (n T : Nat) (L : List (List Int)) (F : Tb) : Prop where
  len : L.length = T + 1
  row : ∀ t : Nat, t ≤ T → (rdL L (t : Int) []).length = n
  val : ∀ t : Nat, t ≤ T → ∀ k : Nat, k < n → rdL (rdL L (t : Int) []) (k : Int) 0 = vi (F t k)
theorem RepT.set {n T : Nat} {L : List (List Int)} {F F' : Tb} (r : RepT n T L F) {t k : Nat} (ht : t ≤ T) (hk : k < n) {x : Int} {o : Option Nat} (hx : x = vi o) (hF : ∀ t2 k2, F' t2 k2 = if t2 = t ∧ k2 = k then o else F t2 k2) :
    RepT n T (stL L (t : Int) (stL (rdL L (t : Int) []) (k : Int) x)) F' := by
  have hl := r.len
  refine ⟨by rw [len_stL]; exact hl, fun t2 h2 => ?_, fun t2 h2 k2 g2 => ?_⟩
  · rw [rdL_stL]
    by_cases e : t = t2
    · rw [if_pos ⟨e, by omega⟩, len_stL]; exact r.row t ht
    · rw [if_neg (fun g => e g.1)]; exact r.row t2 h2
  · rw [rdL_stL, hF]
    by_cases e : t = t2
    · subst e
      rw [if_pos ⟨rfl, by omega⟩, rdL_stL, r.row t ht]
      by_cases e2 : k = k2
      · subst e2
        rw [if_pos ⟨rfl, hk⟩, if_pos ⟨rfl, rfl⟩, hx]
      · rw [if_neg (fun g => e2 g.1), if_neg (fun g => e2 g.2.symm)]
        exact r.val t ht k2 g2
    · rw [if_neg (fun g => e g.1), if_neg (fun g => e g.1.symm)]
      exact r.val t2 h2 k2 g2
section
variable {a : List Int} {n T N : Nat}
theorem tb_step (h : Se a n T) (hN : 10 < N) {t k s v : Nat} (ht : t ≤ T) (hk : k < n) (hs : s < 2 ^ a.length) {L : List (List Int)} {F : Tb} (r : RepT n T L F) (hv : F t k = some v) (hlow : v ≤ 4 * t) :
    ∃ L', spec_l07Table.b7 N a (atT a (k : Int)) (t : Int) (T : Int) (k : Int) L (s : Int) = some (.next (L', ((s + 1 : Nat) : Int))) ∧ RepT n T L' (stp1 N a T F (Mk a t k) v s) := by
  have hp := pow_le h.gl.len
  have hT := h.t
  have hm := Mk_ok h ht hk
  obtain ⟨q, h1, _, h3, _, h5, h6, h7⟩ := nxt_ok (N := N) (s := s) h.gl hm.2 (by omega) (by omega)
  have e1 : i64w ((s : Int) + 1) = ((s + 1 : Nat) : Int) := i64w_id (by omega) (by omega)
  have hw : i64w ((t : Int) + (nxt N a (Mk a t k).f_tops s).2) = (t : Int) + (nxt N a (Mk a t k).f_tops s).2 := i64w_id (by omega) (by omega)
  unfold spec_l07Table.b7
  rw [sets_eq h.gl.len, Option.bind_some, if_pos (by rw [pow_cast]; omega), u8w_id (x := (s : Int)) (by omega) (by omega)]
  rw [show spec_l07Turn.f N a (atT a (k : Int)) (s : Int) = some q from h1, Option.bind_some, h3, Option.bind_some]
  unfold stp1 suc spec_l07Table.j9
  rw [e1]
  have hft : (Mk a t k).f_time = (t : Int) := rfl
  by_cases c0 : (nxt N a (Mk a t k).f_tops s).2 = 0
  · rw [if_pos c0, if_neg (show ¬ (nxt N a (Mk a t k).f_tops s).2 > 0 by omega)]
    exact ⟨L, rfl, r⟩
  · rw [if_neg c0, if_pos (show (nxt N a (Mk a t k).f_tops s).2 > 0 by omega), hw, hft]
    by_cases c1 : (t : Int) + (nxt N a (Mk a t k).f_tops s).2 > (T : Int)
    · rw [if_pos c1, if_neg (show ¬ (t : Int) + (nxt N a (Mk a t k).f_tops s).2 ≤ (T : Int) by omega)]
      exact ⟨L, rfl, r⟩
    · rw [if_neg c1, if_pos (show (t : Int) + (nxt N a (Mk a t k).f_tops s).2 ≤ (T : Int) by omega), index_eq h.gl.ok h.gl.len h.gl.few h5 (by omega), Option.bind_some]
      have hy : okM a (T : Int) (⟨(t : Int) + (nxt N a (Mk a t k).f_tops s).2, (nxt N a (Mk a t k).f_tops s).1⟩ : Mo) := ⟨⟨by show (0 : Int) ≤ _ + _; omega, by show _ + _ ≤ (T : Int); omega⟩, h5⟩
      obtain ⟨y1, y2, _⟩ := Mk_of h hy
      have f1 : (t : Int) + (nxt N a (Mk a t k).f_tops s).2 = ((tOf ⟨(t : Int) + (nxt N a (Mk a t k).f_tops s).2, (nxt N a (Mk a t k).f_tops s).1⟩ : Nat) : Int) := by unfold tOf; simp only; omega
      have f2 : hor a (nxt N a (Mk a t k).f_tops s).1.l = ((kOf a ⟨(t : Int) + (nxt N a (Mk a t k).f_tops s).2, (nxt N a (Mk a t k).f_tops s).1⟩ : Nat) : Int) := by
        have := (hor_range h.gl.ok (fits_in h.gl.len h5)).1
        unfold kOf; simp only; omega
      generalize (⟨(t : Int) + (nxt N a (Mk a t k).f_tops s).2, (nxt N a (Mk a t k).f_tops s).1⟩ : Mo) = y at hy y1 y2 f1 f2 ⊢
      rw [f1, f2]
      have hl := r.len
      have r1 := r.row t ht
      have r2 := r.row (tOf y) y1
      have v1 := r.val t ht k hk
      have v2 := r.val (tOf y) y1 (kOf a y) y2
      have hpc := (pc_all s (by omega)).2.2
      rw [if_pos ⟨by omega, by omega⟩, if_pos ⟨by omega, by omega⟩, turns_pc (by omega) (by omega), Option.bind_some, if_pos ⟨by omega, by omega⟩, if_pos ⟨by omega, by omega⟩, v1, v2, hv]
      have hc : i64w (vi (some v) + ((pc s : Nat) : Int)) = ((v + pc s : Nat) : Int) := by
        show i64w ((v : Int) + ((pc s : Nat) : Int)) = _
        rw [← Int.natCast_add]
        exact i64w_id (by omega) (by omega)
      rw [hc]
      cases e : F (tOf y) (kOf a y) with
      | none =>
        rw [if_pos (show vi none < 0 by decide), if_pos ⟨by omega, by omega⟩, if_pos ⟨by omega, by omega⟩]
        refine ⟨_, rfl, r.set y1 y2 (o := some (v + pc s)) rfl fun t2 k2 => ?_⟩
        dsimp only
        by_cases c : t2 = tOf y ∧ k2 = kOf a y
        · rw [if_pos c, if_pos c, c.1, c.2, e]; rfl
        · rw [if_neg c, if_neg c]
      | some u =>
        rw [if_neg (show ¬ vi (some u) < 0 by simp only [vi]; omega), if_pos ⟨by omega, by omega⟩, if_pos ⟨by omega, by omega⟩]
        by_cases cl : ((v + pc s : Nat) : Int) < vi (some u)
        · rw [if_pos cl, if_pos ⟨by omega, by omega⟩, if_pos ⟨by omega, by omega⟩]
          refine ⟨_, rfl, r.set y1 y2 (o := some (v + pc s)) rfl fun t2 k2 => ?_⟩
          dsimp only
          by_cases c : t2 = tOf y ∧ k2 = kOf a y
          · rw [if_pos c, if_pos c, c.1, c.2, e]
            simp only [vi] at cl
            show some (min u (v + pc s)) = some (v + pc s)
            rw [Nat.min_eq_right (by omega)]
          · rw [if_neg c, if_neg c]
        · rw [if_neg cl]
          refine ⟨L, rfl, r.len, r.row, fun t2 h2 k2 g2 => ?_⟩
          rw [r.val t2 h2 k2 g2]
          dsimp only
          by_cases c : t2 = tOf y ∧ k2 = kOf a y
          · rw [if_pos c, c.1, c.2, e]
            simp only [vi] at cl
            show vi (some u) = vi (some (min u (v + pc s)))
            rw [Nat.min_eq_left (by omega)]
          · rw [if_neg c]
theorem tb_sets (h : Se a n T) (hN : 20 < N) {t k v : Nat} (ht : t ≤ T) (hk : k < n) {F : Tb} (hv : F t k = some v) (hlow : v ≤ 4 * t) :
    ∀ (m s : Nat) (L : List (List Int)), s ≤ 2 ^ a.length → 2 ^ a.length - s < m → RepT n T L (stpS N a T F (Mk a t k) v s) →
    ∃ L', rounds (fun q => spec_l07Table.b7 N a (atT a (k : Int)) (t : Int) (T : Int) (k : Int) q.1 q.2) m (L, (s : Int)) = some (.go L') ∧ RepT n T L' (stpS N a T F (Mk a t k) v (2 ^ a.length)) := by
  intro m
  induction m with
  | zero => intro s L _ hm; exact absurd hm (Nat.not_lt_zero _)
  | succ m ih =>
    intro s L hs hm r
    by_cases c : s < 2 ^ a.length
    · have hv' : stpS N a T F (Mk a t k) v s t k = some v := by
        unfold stpS
        rw [cd_later (Nat.le_refl t), om_none, hv]
      obtain ⟨L1, g1, g2⟩ := tb_step (N := N) h (by omega) ht hk c r hv' hlow
      rw [stpS_step] at g2
      obtain ⟨L', f1, f2⟩ := ih (s + 1) L1 (by omega) (by omega) g2
      exact ⟨L', (rounds_next (b := fun q : List (List Int) × Int => spec_l07Table.b7 N a (atT a (k : Int)) (t : Int) (T : Int) (k : Int) q.1 q.2) (s := (L, (s : Int))) g1).trans f1, f2⟩
    · have : s = 2 ^ a.length := by omega
      subst this
      refine ⟨L, rounds_out ?_, r⟩
      show spec_l07Table.b7 N a (atT a (k : Int)) (t : Int) (T : Int) (k : Int) L ((2 ^ a.length : Nat) : Int) = _
      unfold spec_l07Table.b7
      rw [sets_eq h.gl.len, Option.bind_some, if_neg (by rw [pow_cast]; omega)]
/-- The first entries of a time are done. -/
def FdK (N : Nat) (a : List Int) (T : Nat) (F : Tb) (t1 m : Nat) : Tb := fun t k => om (F t k) (Om tt (give N a T F t1 t k) m)
theorem FdK_now {F : Tb} {t1 m : Nat} (k : Nat) : FdK N a T F t1 m t1 k = F t1 k := by
  unfold FdK
  rw [Om_nil, om_none]
  intro i _
  unfold give
  split
  · exact cd_later (Nat.le_refl _) _
  · rfl
theorem FdK_none {F : Tb} {t1 m : Nat} (hv : F t1 m = none) : FdK N a T F t1 (m + 1) = FdK N a T F t1 m := by
  funext t k
  unfold FdK
  rw [Om_step, show give N a T F t1 t k m = none by unfold give; rw [hv], om_none]
theorem FdK_some {F : Tb} {t1 m v : Nat} (hv : F t1 m = some v) : FdK N a T F t1 (m + 1) = stpS N a T (FdK N a T F t1 m) (Mk a t1 m) v (2 ^ a.length) := by
  funext t k
  unfold FdK stpS
  rw [Om_step, om_assoc, show give N a T F t1 t k m = cd N a T (Mk a t1 m) v t k (2 ^ a.length) by unfold give; rw [hv]]
theorem tb_row (h : Se a n T) (hN : 20 < N) {t : Nat} (ht : t ≤ T) {F : Tb} (hlow : low F) :
    ∀ (m k : Nat) (L : List (List Int)), k ≤ n → n - k < m → RepT n T L (FdK N a T F t k) →
    ∃ L', rounds (fun q => spec_l07Table.b4 N (n : Int) (t : Int) a (T : Int) q.1 q.2) m (L, (k : Int)) = some (.go L') ∧ RepT n T L' (FdK N a T F t n) := by
  have hn := h.n3
  intro m
  induction m with
  | zero => intro k L _ hm; exact absurd hm (Nat.not_lt_zero _)
  | succ m ih =>
    intro k L hk hm r
    by_cases c : k < n
    · have e1 : i64w ((k : Int) + 1) = ((k + 1 : Nat) : Int) := i64w_id (by omega) (by omega)
      have hl := r.len
      have r1 := r.row t ht
      have step : ∃ L1, spec_l07Table.b4 N (n : Int) (t : Int) a (T : Int) L (k : Int) = some (.next (L1, ((k + 1 : Nat) : Int))) ∧ RepT n T L1 (FdK N a T F t (k + 1)) := by
        unfold spec_l07Table.b4
        rw [if_pos (by omega), if_pos ⟨by omega, by omega⟩, if_pos ⟨by omega, by omega⟩, r.val t ht k c, FdK_now]
        cases e : F t k with
        | none =>
          rw [if_pos (show vi none < 0 by decide)]
          unfold spec_l07Table.j6
          rw [e1]
          exact ⟨L, rfl, by rw [FdK_none e]; exact r⟩
        | some v =>
          rw [if_neg (show ¬ vi (some v) < 0 by simp only [vi]; omega), at_eq h.gl.ok h.gl.len (Int.natCast_nonneg _) (by omega) (by omega), Option.bind_some]
          obtain ⟨L1, g1, g2⟩ := tb_sets (N := N) h hN ht c (F := FdK N a T F t k) (by rw [FdK_now]; exact e) (hlow t k v e) N 0 L (Nat.zero_le _) (by have := pow_le h.gl.len; omega) (by rw [stpS_zero]; exact r)
          rw [show rounds (fun s => spec_l07Table.b7 N a (atT a (k : Int)) (t : Int) (T : Int) (k : Int) s.1 s.2) N (L, 0) = _ from g1, Option.bind_some]
          show ∃ L1_1, spec_l07Table.a7 N (k : Int) L1 = _ ∧ _
          unfold spec_l07Table.a7 spec_l07Table.j6
          rw [e1]
          exact ⟨L1, rfl, by rw [FdK_some e]; exact g2⟩
      obtain ⟨L1, s1, s2⟩ := step
      obtain ⟨L', f1, f2⟩ := ih (k + 1) L1 (by omega) (by omega) s2
      exact ⟨L', (rounds_next (b := fun q : List (List Int) × Int => spec_l07Table.b4 N (n : Int) (t : Int) a (T : Int) q.1 q.2) (s := (L, (k : Int))) s1).trans f1, f2⟩
    · have : k = n := by omega
      subst this
      refine ⟨L, rounds_out ?_, r⟩
      show spec_l07Table.b4 N (k : Int) (t : Int) a (T : Int) L (k : Int) = _
      unfold spec_l07Table.b4
      rw [if_neg (by omega)]
theorem FdK_all {F : Tb} {t1 : Nat} : FdK N a T F t1 n = Fd N a n T F t1 tt := rfl
theorem tb_times (h : Se a n T) (hN : 4000 < N) {c : T4} :
    ∀ (m t : Nat) (L : List (List Int)), t ≤ T + 1 → T + 1 - t < m → RepT n T L (Gt N a n T c t) →
    ∃ L', rounds (fun q => spec_l07Table.b2 N (T : Int) (n : Int) a q.1 q.2) m (L, (t : Int)) = some (.go L') ∧ RepT n T L' (Gt N a n T c (T + 1)) := by
  have hT := h.t
  have hn := h.n3
  intro m
  induction m with
  | zero => intro t L _ hm; exact absurd hm (Nat.not_lt_zero _)
  | succ m ih =>
    intro t L ht hm r
    by_cases ct : t ≤ T
    · have e1 : i64w ((t : Int) + 1) = ((t + 1 : Nat) : Int) := i64w_id (by omega) (by omega)
      have z : FdK N a T (Gt N a n T c t) t 0 = Gt N a n T c t := by funext t2 k2; exact om_none _
      obtain ⟨L1, g1, g2⟩ := tb_row (N := N) h (by omega) ct (Gt_low h.gl.len t) N 0 L (Nat.zero_le _) (by omega) (by rw [z]; exact r)
      have s1 : spec_l07Table.b2 N (T : Int) (n : Int) a L (t : Int) = some (.next (L1, ((t + 1 : Nat) : Int))) := by
        unfold spec_l07Table.b2
        rw [if_pos (by omega), show rounds (fun s => spec_l07Table.b4 N (n : Int) (t : Int) a (T : Int) s.1 s.2) N (L, 0) = _ from g1, Option.bind_some]
        show spec_l07Table.a4 N (t : Int) L1 = _
        unfold spec_l07Table.a4
        rw [e1]
      obtain ⟨L', f1, f2⟩ := ih (t + 1) L1 (by omega) (by omega) g2
      exact ⟨L', (rounds_next (b := fun q : List (List Int) × Int => spec_l07Table.b2 N (T : Int) (n : Int) a q.1 q.2) (s := (L, (t : Int))) s1).trans f1, f2⟩
    · have : t = T + 1 := by omega
      subst this
      refine ⟨L, rounds_out ?_, r⟩
      show spec_l07Table.b2 N (T : Int) (n : Int) a L ((T + 1 : Nat) : Int) = _
      unfold spec_l07Table.b2
      rw [if_neg (by omega)]
/-- The first k of a row are -1. -/
theorem tb_fill (h : Se a n T) {t : Nat} (ht : t ≤ T) : ∀ (m k : Nat) (L : List (List Int)), k ≤ n → n - k < m → L.length = T + 1 → (rdL L (t : Int) []).length = n → (∀ j : Nat, j < k → rdL (rdL L (t : Int) []) (j : Int) 0 = -1) →
    ∃ L', rounds (fun q => spec_l07Table.b10 N (n : Int) (t : Int) q.1 q.2) m (L, (k : Int)) = some (.go L') ∧ L'.length = T + 1 ∧ (rdL L' (t : Int) []).length = n ∧ (∀ j : Nat, j < n → rdL (rdL L' (t : Int) []) (j : Int) 0 = -1) ∧ ∀ t2 : Nat, ¬ t2 = t → rdL L' (t2 : Int) [] = rdL L (t2 : Int) [] := by
  have hn := h.n3
  intro m
  induction m with
  | zero => intro k L _ hm; exact absurd hm (Nat.not_lt_zero _)
  | succ m ih =>
    intro k L hk hm hl hr hv
    by_cases c : k < n
    · have e1 : i64w ((k : Int) + 1) = ((k + 1 : Nat) : Int) := i64w_id (by omega) (by omega)
      have s1 : spec_l07Table.b10 N (n : Int) (t : Int) L (k : Int) = some (.next (stL L (t : Int) (stL (rdL L (t : Int) []) (k : Int) (-1)), ((k + 1 : Nat) : Int))) := by
        unfold spec_l07Table.b10
        rw [if_pos (by omega), if_pos ⟨by omega, by omega⟩, if_pos ⟨by omega, by omega⟩, e1]
      obtain ⟨L', f1, f2, f3, f4, f5⟩ := ih (k + 1) (stL L (t : Int) (stL (rdL L (t : Int) []) (k : Int) (-1))) (by omega) (by omega) (by rw [len_stL]; exact hl) (by rw [rdL_stL, if_pos ⟨rfl, by omega⟩, len_stL]; exact hr) (fun j hj => by
        rw [rdL_stL, if_pos ⟨rfl, by omega⟩, rdL_stL]
        by_cases e : k = j
        · rw [if_pos ⟨e, by omega⟩]
        · rw [if_neg (fun g => e g.1)]; exact hv j (by omega))
      refine ⟨L', (rounds_next (b := fun q : List (List Int) × Int => spec_l07Table.b10 N (n : Int) (t : Int) q.1 q.2) (s := (L, (k : Int))) s1).trans f1, f2, f3, f4, fun t2 h2 => ?_⟩
      rw [f5 t2 h2, rdL_stL, if_neg (fun g => h2 g.1.symm)]
    · have : k = n := by omega
      subst this
      refine ⟨L, rounds_out ?_, hl, hr, hv, fun _ _ => rfl⟩
      show spec_l07Table.b10 N (k : Int) (t : Int) L (k : Int) = _
      unfold spec_l07Table.b10
      rw [if_neg (by omega)]
theorem tb_make (h : Se a n T) (hN : 4000 < N) : ∀ (m t : Nat) (L : List (List Int)), t ≤ T + 1 → T + 1 - t < m → L.length = T + 1 → (∀ t2 : Nat, t2 < t → (rdL L (t2 : Int) []).length = n ∧ ∀ j : Nat, j < n → rdL (rdL L (t2 : Int) []) (j : Int) 0 = -1) →
    ∃ L', rounds (fun q => spec_l07Table.b0 N (T : Int) (n : Int) q.1 q.2) m (L, (t : Int)) = some (.go L') ∧ RepT n T L' (fun _ _ => none) := by
  have hT := h.t
  have hn := h.n3
  intro m
  induction m with
  | zero => intro t L _ hm; exact absurd hm (Nat.not_lt_zero _)
  | succ m ih =>
    intro t L ht hm hl hv
    by_cases c : t ≤ T
    · have e1 : i64w ((t : Int) + 1) = ((t + 1 : Nat) : Int) := i64w_id (by omega) (by omega)
      obtain ⟨L1, g1, g2, g3, g4, g5⟩ := tb_fill (N := N) h c N 0 (stL L (t : Int) (List.replicate n 0)) (Nat.zero_le _) (by omega) (by rw [len_stL]; exact hl) (by rw [rdL_stL, if_pos ⟨rfl, by omega⟩]; simp) (fun j hj => absurd hj (Nat.not_lt_zero _))
      have s1 : spec_l07Table.b0 N (T : Int) (n : Int) L (t : Int) = some (.next (L1, ((t + 1 : Nat) : Int))) := by
        unfold spec_l07Table.b0
        rw [if_pos (by omega), if_pos ⟨by omega, by omega⟩, if_pos ⟨by omega, by omega⟩, Int.toNat_natCast, show rounds (fun s => spec_l07Table.b10 N (n : Int) (t : Int) s.1 s.2) N (stL L (t : Int) (List.replicate n 0), 0) = _ from g1, Option.bind_some]
        show spec_l07Table.a10 N (t : Int) L1 = _
        unfold spec_l07Table.a10
        rw [e1]
      obtain ⟨L', f1, f2⟩ := ih (t + 1) L1 (by omega) (by omega) g2 (fun t2 h2 => by
        by_cases e : t2 = t
        · subst e; exact ⟨g3, g4⟩
        · rw [g5 t2 e, rdL_stL, if_neg (fun g => e g.1.symm)]; exact hv t2 (by omega))
      exact ⟨L', (rounds_next (b := fun q : List (List Int) × Int => spec_l07Table.b0 N (T : Int) (n : Int) q.1 q.2) (s := (L, (t : Int))) s1).trans f1, f2⟩
    · have : t = T + 1 := by omega
      subst this
      refine ⟨L, rounds_out ?_, hl, fun t2 h2 => (hv t2 (by omega)).1, fun t2 h2 k2 g2 => (hv t2 (by omega)).2 k2 g2⟩
      show spec_l07Table.b0 N (T : Int) (n : Int) L ((T + 1 : Nat) : Int) = _
      unfold spec_l07Table.b0
      rw [if_neg (by omega)]
/-- The specification's table. -/
theorem table_eq (h : Se a n T) (hN : 4000 < N) {c : T4} (hf : fits a c) (hst : spec_l07States.f N a = some (n : Int)) : ∃ L, spec_l07Table.f N a c (T : Int) = some L ∧ RepT n T L (Gt N a n T c T) := by
  have hT := h.t
  have hn1 := h.n1
  have e1 : i64w ((T : Int) + 1) = ((T + 1 : Nat) : Int) := i64w_id (by omega) (by omega)
  obtain ⟨L0, g1, g2⟩ := tb_make (N := N) h hN N 0 (List.replicate (T + 1) []) (Nat.zero_le _) (by omega) (by simp) (fun t2 h2 => absurd h2 (Nat.not_lt_zero _))
  obtain ⟨x0, x1⟩ := hor_range h.gl.ok (fits_in h.gl.len hf)
  have hk : (hor a c.l).toNat < n := by have := h.n_eq; omega
  have ek : hor a c.l = (((hor a c.l).toNat : Nat) : Int) := by omega
  have r0 := g2.row 0 (Nat.zero_le _)
  have l0 := g2.len
  have r1 : RepT n T (stL L0 ((0 : Nat) : Int) (stL (rdL L0 ((0 : Nat) : Int) []) (((hor a c.l).toNat : Nat) : Int) 0)) (Gt N a n T c 0) := g2.set (Nat.zero_le _) hk (o := some 0) rfl fun t2 k2 => rfl
  obtain ⟨L', f1, f2⟩ := tb_times (N := N) h hN N 0 _ (Nat.zero_le _) (by omega) r1
  refine ⟨L', ?_, by rw [← Gt_last h hk (by omega)]; exact f2⟩
  unfold spec_l07Table.f
  rw [hst, Option.bind_some, e1, if_pos ⟨by omega, by omega⟩, Int.toNat_natCast, show rounds (fun s => spec_l07Table.b0 N (T : Int) (n : Int) s.1 s.2) N (List.replicate (T + 1) [], 0) = _ from g1, Option.bind_some]
  show spec_l07Table.a0 N a c (T : Int) (n : Int) L0 = _
  unfold spec_l07Table.a0
  have r0' : (rdL L0 0 []).length = n := r0
  rw [if_pos ⟨by omega, by omega⟩, index_eq h.gl.ok h.gl.len h.gl.few hf (by omega), Option.bind_some, if_pos ⟨by omega, by omega⟩, ek]
  rw [show rounds (fun s => spec_l07Table.b2 N (T : Int) (n : Int) a s.1 s.2) N (stL L0 0 (stL (rdL L0 0 []) (((hor a c.l).toNat : Nat) : Int) 0), 0) = _ from f1, Option.bind_some]
  rfl
end
end Go.Proofs.YtmnaclghakalmaaX

/- Maps without removals; numbers that wrap. -/
namespace Go.Proofs.YtmnaclghakalmaaX
open Go
set_option linter.unusedVariables false
set_option linter.unusedSimpArgs false
theorem i64w_add (x y : Int) : i64w (i64w x + y) = i64w (x + y) := by
  simp [IntKind.wrap, IntKind.bits, IntKind.signed]
  omega
section
variable {κ ν : Type} [DecidableEq κ]
theorem mIdx_key {kv : List (κ × ν)} {k : κ} {i : Nat} (h : mIdx kv k = some i) : ∃ hi : i < kv.length, kv[i].1 = k := by
  obtain ⟨hi, he, _⟩ := List.findIdx?_eq_some_iff_getElem.1 h
  exact ⟨hi, (of_decide_eq_true he).symm⟩
theorem mIdx_no {kv : List (κ × ν)} {k : κ} (h : mIdx kv k = none) : ∀ p ∈ kv, k ≠ p.1 := by
  intro p hp e
  have := List.findIdx?_eq_none_iff.1 h p hp
  simp [e] at this
theorem mSet_keys (kv : List (κ × ν)) (k : κ) (v : ν) : ((mSet kv k v).map (·.1) = kv.map (·.1)) ∨ ((mSet kv k v).map (·.1) = kv.map (·.1) ++ [k] ∧ k ∉ kv.map (·.1)) := by
  unfold mSet
  cases h : mIdx kv k with
  | some i =>
    left
    obtain ⟨hi, he⟩ := mIdx_key h
    simp only [List.map_set]
    rw [← he]
    refine List.ext_getElem (by simp) fun j h1 h2 => ?_
    by_cases c : i = j
    · subst c; simp
    · simp [List.getElem_set, c]
  | none =>
    right
    refine ⟨by simp, fun hm => ?_⟩
    obtain ⟨p, hp, he⟩ := List.mem_map.1 hm
    exact mIdx_no h p hp he.symm
theorem mSet_nodup {kv : List (κ × ν)} (h : (kv.map (·.1)).Nodup) (k : κ) (v : ν) : ((mSet kv k v).map (·.1)).Nodup := by
  rcases mSet_keys kv k v with e | ⟨e, hn⟩
  · rw [e]; exact h
  · rw [e, List.nodup_append]
    refine ⟨h, by simp, fun a ha b hb q => ?_⟩
    rw [List.mem_singleton] at hb
    subst hb q
    exact hn ha
theorem mSet_len (kv : List (κ × ν)) (k : κ) (v : ν) : (mSet kv k v).length ≤ kv.length + 1 := by
  unfold mSet
  cases mIdx kv k <;> simp
theorem mSet_in {kv : List (κ × ν)} {k : κ} {v : ν} {x : κ} (h : x ∈ (mSet kv k v).map (·.1)) : x ∈ kv.map (·.1) ∨ x = k := by
  rcases mSet_keys kv k v with e | ⟨e, _⟩
  · rw [e] at h; exact .inl h
  · rw [e, List.mem_append, List.mem_singleton] at h; exact h
theorem mGet_at {kv : List (κ × ν)} (hn : (kv.map (·.1)).Nodup) {p : κ × ν} (hp : p ∈ kv) (z : ν) : mGet kv p.1 z = p.2 := by
  unfold mGet
  cases h : mIdx kv p.1 with
  | none => exact absurd rfl (mIdx_no h p hp)
  | some i =>
    obtain ⟨hi, he⟩ := mIdx_key h
    obtain ⟨j, hj, rfl⟩ := List.mem_iff_getElem.1 hp
    have : i = j := by
      have := (List.nodup_iff_pairwise_ne.1 hn)
      have h1 := List.getElem?_eq_getElem (l := kv.map (·.1)) (i := i) (by simpa using hi)
      by_cases c : i = j
      · exact c
      · exfalso
        have hh := List.pairwise_iff_getElem.1 this
        rcases Nat.lt_or_gt_of_ne c with c | c
        · exact hh i j (by simpa using hi) (by simpa using hj) c (by simpa using he)
        · exact hh j i (by simpa using hj) (by simpa using hi) c (by simpa using he.symm)
    subst this
    simp [List.getElem?_eq_getElem hi]
theorem mGet_no {kv : List (κ × ν)} {k : κ} (h : k ∉ kv.map (·.1)) (z : ν) : mGet kv k z = z := by
  unfold mGet
  cases e : mIdx kv k with
  | none => rfl
  | some i =>
    obtain ⟨hi, he⟩ := mIdx_key e
    exact absurd (List.mem_map.2 ⟨kv[i], List.getElem_mem hi, he⟩) h
theorem mGet_set {kv : List (κ × ν)} (hn : (kv.map (·.1)).Nodup) (k : κ) (v : ν) (b : κ) (z : ν) : mGet (mSet kv k v) b z = if b = k then v else mGet kv b z := by
  have hn2 := mSet_nodup hn k v
  by_cases c : b = k
  · subst c
    rw [if_pos rfl]
    have : (b, v) ∈ mSet kv b v := by
      unfold mSet
      cases h : mIdx kv b with
      | some i => obtain ⟨hi, _⟩ := mIdx_key h; exact List.mem_iff_getElem.2 ⟨i, by simpa using hi, by simp⟩
      | none => simp
    exact mGet_at hn2 this z
  · rw [if_neg c]
    by_cases hb : b ∈ kv.map (·.1)
    · obtain ⟨p, hp, rfl⟩ := List.mem_map.1 hb
      have : p ∈ mSet kv k v := by
        unfold mSet
        cases h : mIdx kv k with
        | some i =>
          obtain ⟨hi, he⟩ := mIdx_key h
          obtain ⟨j, hj, rfl⟩ := List.mem_iff_getElem.1 hp
          refine List.mem_iff_getElem.2 ⟨j, by simpa using hj, ?_⟩
          have : ¬ i = j := fun e => c (by subst e; exact he)
          simp [List.getElem_set, this]
        | none => exact List.mem_append_left _ hp
      rw [mGet_at hn2 this, mGet_at hn hp]
    · rw [mGet_no hb, mGet_no fun h => (mSet_in h).elim hb c]
end
end Go.Proofs.YtmnaclghakalmaaX

/- The program's maps of the fewest turns. -/
namespace Go.Proofs.YtmnaclghakalmaaX
open Go
set_option linter.unusedVariables false
set_option linter.unusedSimpArgs false
abbrev KT := List (T4 × Int)
theorem nat_few : ∀ (n : Nat) (l : List Nat), l.Nodup → (∀ x ∈ l, x < n) → l.length ≤ n
  | 0, l, _, h => by
    cases l with
    | nil => simp
    | cons x l => exact absurd (h x List.mem_cons_self) (Nat.not_lt_zero _)
  | n + 1, l, hd, h => by
    have h1 := nat_few n (l.erase n) (hd.erase n) (fun x hx => by
      have h2 := (hd.mem_erase_iff).1 hx
      have h3 := h x h2.2
      have h4 : x ≠ n := h2.1
      omega)
    have h2 := List.length_erase (a := n) (l := l)
    split at h2 <;> omega
section
variable {κ ν : Type} [DecidableEq κ]
theorem mem_get {kv : List (κ × ν)} {k : κ} (h : k ∈ kv.map (·.1)) (hn : (kv.map (·.1)).Nodup) (z : ν) : (k, mGet kv k z) ∈ kv := by
  obtain ⟨p, hp, rfl⟩ := List.mem_map.1 h
  rw [mGet_at hn hp]
  exact hp
theorem mSet_has (kv : List (κ × ν)) (k : κ) (v : ν) : k ∈ (mSet kv k v).map (·.1) := by
  unfold mSet
  cases h : mIdx kv k with
  | some i =>
    obtain ⟨hi, he⟩ := mIdx_key h
    exact List.mem_map.2 ⟨(k, v), List.mem_iff_getElem.2 ⟨i, by simpa using hi, by simp⟩, rfl⟩
  | none => simp
theorem mSet_keep {kv : List (κ × ν)} {k : κ} {v : ν} {x : κ} (h : x ∈ kv.map (·.1)) : x ∈ (mSet kv k v).map (·.1) := by
  rcases mSet_keys kv k v with e | ⟨e, _⟩
  · rw [e]; exact h
  · rw [e]; exact List.mem_append_left _ h
theorem mIdx_in {kv : List (κ × ν)} {k : κ} : (mIdx kv k).isSome = true ↔ k ∈ kv.map (·.1) := by
  cases h : mIdx kv k with
  | some i =>
    obtain ⟨hi, he⟩ := mIdx_key h
    exact ⟨fun _ => List.mem_map.2 ⟨kv[i], List.getElem_mem hi, he⟩, fun _ => rfl⟩
  | none =>
    refine ⟨fun g => (by cases g), fun g => ?_⟩
    obtain ⟨p, hp, e⟩ := List.mem_map.1 g
    exact absurd e.symm (mIdx_no h p hp)
end
/-- A map that tells f. -/
structure Rw (a : List Int) (n : Nat) (kv : KT) (f : Nat → Option Nat) : Prop where
  nd : (kv.map (·.1)).Nodup
  el : ∀ p ∈ kv, ∃ k v : Nat, k < n ∧ p = (atT a (k : Int), (v : Int)) ∧ f k = some v
  so : ∀ k v : Nat, k < n → f k = some v → (atT a (k : Int), (v : Int)) ∈ kv
section
variable {a : List Int} {n T N : Nat}
theorem Rw.nil {f : Nat → Option Nat} (h : ∀ k, k < n → f k = none) : Rw a n [] f := ⟨List.nodup_nil, fun p hp => (by cases hp), fun k v hk hv => (by rw [h k hk] at hv; cases hv)⟩
theorem Rw.len (h : Se a n T) {kv : KT} {f : Nat → Option Nat} (r : Rw a n kv f) : kv.length ≤ n := by
  have h1 : (kv.map fun p => (hor a p.1.l).toNat).Nodup := by
    have hd := r.nd
    unfold List.Nodup at hd ⊢
    rw [List.pairwise_map] at hd ⊢
    refine hd.imp_of_mem fun {p q} hp hq hne e => hne ?_
    obtain ⟨j, u, hj, rfl, _⟩ := r.el p hp
    obtain ⟨k, v, hk, rfl, _⟩ := r.el q hq
    have e1 := (of_Mk h (t := 0) hj).2
    have e2 := (of_Mk h (t := 0) hk).2
    unfold kOf Mk at e1 e2
    simp only at e1 e2 e
    rw [e1, e2] at e
    rw [e]
  have h2 := nat_few n _ h1 (fun x hx => by
    obtain ⟨p, hp, rfl⟩ := List.mem_map.1 hx
    obtain ⟨j, u, hj, rfl, _⟩ := r.el p hp
    have e1 := (of_Mk h (t := 0) hj).2
    unfold kOf Mk at e1
    simp only at e1 ⊢
    omega)
  simpa using h2
theorem Rw.at_some {kv : KT} {f : Nat → Option Nat} (r : Rw a n kv f) {k v : Nat} (hk : k < n) (hv : f k = some v) : (mIdx kv (atT a (k : Int))).isSome = true ∧ mGet kv (atT a (k : Int)) 0 = (v : Int) := by
  have hm := r.so k v hk hv
  exact ⟨mIdx_in.2 (List.mem_map.2 ⟨_, hm, rfl⟩), mGet_at r.nd hm 0⟩
theorem Rw.at_none (h : Se a n T) {kv : KT} {f : Nat → Option Nat} (r : Rw a n kv f) {k : Nat} (hk : k < n) (hv : f k = none) : ¬ (mIdx kv (atT a (k : Int))).isSome = true := by
  intro g
  obtain ⟨p, hp, e⟩ := List.mem_map.1 (mIdx_in.1 g)
  obtain ⟨j, u, hj, rfl, hu⟩ := r.el p hp
  have := atT_inj h hj hk e
  subst this
  rw [hv] at hu
  cases hu
theorem Rw.set (h : Se a n T) {kv : KT} {f : Nat → Option Nat} (r : Rw a n kv f) {k : Nat} (hk : k < n) (w : Nat) : Rw a n (mSet kv (atT a (k : Int)) (w : Int)) (fun j => if j = k then some w else f j) := by
  have hn2 := mSet_nodup r.nd (atT a (k : Int)) (w : Int)
  refine ⟨hn2, fun p hp => ?_, fun j v hj hv => ?_⟩
  · have hg := mGet_at hn2 hp 0
    rw [mGet_set r.nd] at hg
    by_cases c : p.1 = atT a (k : Int)
    · rw [if_pos c] at hg
      refine ⟨k, w, hk, ?_, by rw [if_pos rfl]⟩
      rw [← c, hg]
    · rw [if_neg c] at hg
      have hin := (mSet_in (List.mem_map.2 ⟨p, hp, rfl⟩)).resolve_right c
      have hm := mem_get hin r.nd 0
      rw [hg] at hm
      obtain ⟨j, v, hj, e, hv⟩ := r.el p hm
      refine ⟨j, v, hj, e, ?_⟩
      rw [if_neg (fun g => c (by rw [e, g]))]
      exact hv
  · by_cases c : j = k
    · subst c
      rw [if_pos rfl] at hv
      cases hv
      have hm := mem_get (mSet_has kv (atT a (j : Int)) (w : Int)) hn2 0
      rw [mGet_set r.nd, if_pos rfl] at hm
      exact hm
    · rw [if_neg c] at hv
      have hm0 := r.so j v hj hv
      have hm := mem_get (mSet_keep (k := atT a (k : Int)) (v := (w : Int)) (List.mem_map.2 ⟨_, hm0, rfl⟩)) hn2 0
      rw [mGet_set r.nd, if_neg (fun g => c (atT_inj h hj hk g)), mGet_at r.nd hm0] at hm
      exact hm
theorem Rw.congr {kv : KT} {f g : Nat → Option Nat} (r : Rw a n kv f) (h : ∀ k, k < n → f k = g k) : Rw a n kv g :=
  ⟨r.nd, fun p hp => by obtain ⟨k, v, hk, e, hv⟩ := r.el p hp; exact ⟨k, v, hk, e, by rw [← h k hk]; exact hv⟩, fun k v hk hv => r.so k v hk (by rw [h k hk]; exact hv)⟩
/-- Maps that tell F. -/
structure RepM (a : List Int) (n T : Nat) (xs : List (Option KT)) (F : Tb) : Prop where
  len : xs.length = T + 1
  row : ∀ t : Nat, t ≤ T → ∃ kv, rdL xs (t : Int) none = some kv ∧ Rw a n kv (F t)
theorem RepM.set (h : Se a n T) {xs : List (Option KT)} {F : Tb} (r : RepM a n T xs F) {t k : Nat} (ht : t ≤ T) (hk : k < n) (w : Nat) {F' : Tb} (hF : ∀ t2 k2, F' t2 k2 = if t2 = t ∧ k2 = k then some w else F t2 k2) :
    RepM a n T (stL xs (t : Int) (some (mSet ((rdL xs (t : Int) none).getD []) (atT a (k : Int)) (w : Int)))) F' := by
  have hl := r.len
  refine ⟨by rw [len_stL]; exact hl, fun t2 h2 => ?_⟩
  rw [rdL_stL]
  by_cases e : t = t2
  · subst e
    rw [if_pos ⟨rfl, by omega⟩]
    obtain ⟨kv, e1, r1⟩ := r.row t ht
    rw [e1]
    refine ⟨_, rfl, (r1.set h hk w).congr fun j hj => ?_⟩
    rw [hF]
    by_cases c : j = k
    · rw [if_pos c, if_pos ⟨rfl, c⟩]
    · rw [if_neg c, if_neg (fun g => c g.2)]
  · rw [if_neg (fun g => e g.1)]
    obtain ⟨kv, e1, r1⟩ := r.row t2 h2
    refine ⟨kv, e1, r1.congr fun j hj => ?_⟩
    rw [hF, if_neg (fun g => e g.1.symm)]
theorem RepM.congr {xs : List (Option KT)} {F G : Tb} (r : RepM a n T xs F) (h : ∀ t k, t ≤ T → k < n → F t k = G t k) : RepM a n T xs G :=
  ⟨r.len, fun t ht => by obtain ⟨kv, e, r1⟩ := r.row t ht; exact ⟨kv, e, r1.congr fun k hk => h t k ht hk⟩⟩
/-- What the program does when a set is looked at. -/
theorem mp_step (h : Se a n T) (hN : 10 < N) {t k s v : Nat} (ht : t ≤ T) (hk : k < n) (hs : s < 2 ^ a.length) {xs : List (Option KT)} {F : Tb} (r : RepM a n T xs F) (hlow : v ≤ 4 * t) :
    ∃ xs', _impl_Glasses_events_at__impl_Glasses_turns_1.b0 N a (Mk a t k) (T : Int) (v : Int) xs (s : Int) = some (.next ((v : Int), xs', ((s + 1 : Nat) : Int))) ∧ RepM a n T xs' (stp1 N a T F (Mk a t k) v s) ∧ ∀ t2 : Nat, t2 ≤ t → rdL xs' (t2 : Int) none = rdL xs (t2 : Int) none := by
  have hp := pow_le h.gl.len
  have hT := h.t
  have hm := Mk_ok h ht hk
  obtain ⟨q, _, h2, _, h4, h5, h6, h7⟩ := nxt_ok (N := N) (s := s) h.gl hm.2 (by omega) (by omega)
  have e1 : i64w ((s : Int) + 1) = ((s + 1 : Nat) : Int) := i64w_id (by omega) (by omega)
  have hft : (Mk a t k).f_time = (t : Int) := rfl
  have hw : i64w ((t : Int) + (nxt N a (Mk a t k).f_tops s).2) = (t : Int) + (nxt N a (Mk a t k).f_tops s).2 := i64w_id (by omega) (by omega)
  unfold _impl_Glasses_events_at__impl_Glasses_turns_1.b0
  rw [if_pos (by rw [sets_all _ h.gl.len, pow_cast]; omega), u8w_id (x := (s : Int)) (by omega) (by omega), h2, Option.bind_some, h4, Option.bind_some, hft, hw]
  unfold stp1 suc _impl_Glasses_events_at__impl_Glasses_turns_1.j2
  rw [e1, hft]
  by_cases c0 : (nxt N a (Mk a t k).f_tops s).2 > 0
  · rw [if_pos c0, if_pos c0]
    by_cases c1 : (t : Int) + (nxt N a (Mk a t k).f_tops s).2 ≤ (T : Int)
    · rw [if_pos c1, if_pos c1]
      have hy : okM a (T : Int) (⟨(t : Int) + (nxt N a (Mk a t k).f_tops s).2, (nxt N a (Mk a t k).f_tops s).1⟩ : Mo) := ⟨⟨by show (0 : Int) ≤ _ + _; omega, by show _ + _ ≤ (T : Int); omega⟩, h5⟩
      obtain ⟨y1, y2, y3⟩ := Mk_of h hy
      have hlate : t < tOf (⟨(t : Int) + (nxt N a (Mk a t k).f_tops s).2, (nxt N a (Mk a t k).f_tops s).1⟩ : Mo) := by unfold tOf; simp only; omega
      generalize (⟨(t : Int) + (nxt N a (Mk a t k).f_tops s).2, (nxt N a (Mk a t k).f_tops s).1⟩ : Mo) = y at hy y1 y2 y3 hlate ⊢
      have f1 : y.f_time = ((tOf y : Nat) : Int) := by have := hy.1.1; unfold tOf; omega
      have f2 : y.f_tops = atT a ((kOf a y : Nat) : Int) := by have := congrArg S_impl_moment.f_tops y3; exact this.symm
      have hl := r.len
      obtain ⟨kv, k1, k2⟩ := r.row (tOf y) y1
      have hpc := (pc_all s (by omega)).2.2
      have hc : i64w ((v : Int) + ((pc s : Nat) : Int)) = ((v + pc s : Nat) : Int) := by
        rw [← Int.natCast_add]
        exact i64w_id (by omega) (by omega)
      have keep : ∀ X, ∀ t2 : Nat, t2 ≤ t → rdL (stL xs ((tOf y : Nat) : Int) X) (t2 : Int) none = rdL xs (t2 : Int) none := by
        intro X t2 h2
        rw [rdL_stL, if_neg (fun g => by omega)]
      unfold _impl_Glasses_turns_1.f
      rw [ones_pc (by omega), Option.bind_some, f1, f2, if_pos ⟨by omega, by omega⟩, hc]
      have set1 : ∀ G : Tb, (∀ t2 k2, G t2 k2 = if t2 = tOf y ∧ k2 = kOf a y then some (v + pc s) else F t2 k2) → RepM a n T (stL xs ((tOf y : Nat) : Int) (some (mSet ((rdL xs ((tOf y : Nat) : Int) none).getD []) (atT a ((kOf a y : Nat) : Int)) ((v + pc s : Nat) : Int)))) G := fun G hG => r.set h y1 y2 (v + pc s) hG
      have hsome : (rdL xs ((tOf y : Nat) : Int) none).isSome = true := by rw [k1]; rfl
      have hgd : (rdL xs ((tOf y : Nat) : Int) none).getD [] = kv := by rw [k1]; rfl
      cases e : F (tOf y) (kOf a y) with
      | none =>
        rw [if_neg (by rw [hgd]; exact k2.at_none h y2 e), if_pos ⟨by omega, by omega⟩, if_pos hsome, Option.bind_some]
        refine ⟨_, rfl, set1 _ fun t2 k2 => ?_, keep _⟩
        dsimp only
        by_cases c : t2 = tOf y ∧ k2 = kOf a y
        · rw [if_pos c, if_pos c, c.1, c.2, e]; rfl
        · rw [if_neg c, if_neg c]
      | some u =>
        obtain ⟨q1, q2⟩ := k2.at_some y2 e
        rw [if_pos (by rw [hgd]; exact q1)]
        by_cases cl : ((v + pc s : Nat) : Int) < (u : Int)
        · rw [if_pos (by rw [hgd, q2]; exact cl), if_pos ⟨by omega, by omega⟩, if_pos hsome, Option.bind_some]
          refine ⟨_, rfl, set1 _ fun t2 k2 => ?_, keep _⟩
          dsimp only
          by_cases c : t2 = tOf y ∧ k2 = kOf a y
          · rw [if_pos c, if_pos c, c.1, c.2, e]
            show some (min u (v + pc s)) = some (v + pc s)
            rw [Nat.min_eq_right (by omega)]
          · rw [if_neg c, if_neg c]
        · rw [if_neg (by rw [hgd, q2]; exact cl), Option.bind_some]
          refine ⟨_, rfl, r.congr fun t2 k2 _ _ => ?_, fun _ _ => rfl⟩
          dsimp only
          by_cases c : t2 = tOf y ∧ k2 = kOf a y
          · rw [if_pos c, c.1, c.2, e]
            show some u = some (min u (v + pc s))
            rw [Nat.min_eq_left (by omega)]
          · rw [if_neg c]
    · rw [if_neg c1, if_neg c1]
      exact ⟨xs, rfl, r, fun _ _ => rfl⟩
  · rw [if_neg c0, if_neg c0]
    exact ⟨xs, rfl, r, fun _ _ => rfl⟩
theorem mp_sets (h : Se a n T) (hN : 20 < N) {t k v : Nat} (ht : t ≤ T) (hk : k < n) {F : Tb} (hlow : v ≤ 4 * t) :
    ∀ (m s : Nat) (xs : List (Option KT)), s ≤ 2 ^ a.length → 2 ^ a.length - s < m → RepM a n T xs (stpS N a T F (Mk a t k) v s) →
    ∃ xs', rounds (fun q => _impl_Glasses_events_at__impl_Glasses_turns_1.b0 N a (Mk a t k) (T : Int) q.1 q.2.1 q.2.2) m ((v : Int), xs, (s : Int)) = some (.go ((v : Int), xs')) ∧ RepM a n T xs' (stpS N a T F (Mk a t k) v (2 ^ a.length)) ∧ ∀ t2 : Nat, t2 ≤ t → rdL xs' (t2 : Int) none = rdL xs (t2 : Int) none := by
  intro m
  induction m with
  | zero => intro s L _ hm; exact absurd hm (Nat.not_lt_zero _)
  | succ m ih =>
    intro s xs hs hm r
    by_cases c : s < 2 ^ a.length
    · obtain ⟨L1, g1, g2, g3⟩ := mp_step (N := N) h (by omega) ht hk c r hlow
      rw [stpS_step] at g2
      obtain ⟨L', f1, f2, f3⟩ := ih (s + 1) L1 (by omega) (by omega) g2
      exact ⟨L', (rounds_next (b := fun q : Int × List (Option KT) × Int => _impl_Glasses_events_at__impl_Glasses_turns_1.b0 N a (Mk a t k) (T : Int) q.1 q.2.1 q.2.2) (s := ((v : Int), xs, (s : Int))) g1).trans f1, f2, fun t2 h2 => (f3 t2 h2).trans (g3 t2 h2)⟩
    · have : s = 2 ^ a.length := by omega
      subst this
      refine ⟨xs, rounds_out ?_, r, fun _ _ => rfl⟩
      show _impl_Glasses_events_at__impl_Glasses_turns_1.b0 N a (Mk a t k) (T : Int) (v : Int) xs ((2 ^ a.length : Nat) : Int) = _
      unfold _impl_Glasses_events_at__impl_Glasses_turns_1.b0
      rw [if_neg (by rw [sets_all _ h.gl.len, pow_cast]; omega)]
theorem mp_events (h : Se a n T) (hN : 20 < N) {t k v : Nat} (ht : t ≤ T) (hk : k < n) {F : Tb} (hlow : v ≤ 4 * t) {xs : List (Option KT)} (r : RepM a n T xs F) :
    ∃ xs', _impl_Glasses_events_at__impl_Glasses_turns_1.f N a (Mk a t k) (T : Int) (v : Int) xs = some ((v : Int), xs', xs') ∧ RepM a n T xs' (stpS N a T F (Mk a t k) v (2 ^ a.length)) ∧ ∀ t2 : Nat, t2 ≤ t → rdL xs' (t2 : Int) none = rdL xs (t2 : Int) none := by
  have hp := pow_le h.gl.len
  obtain ⟨xs', f1, f2, f3⟩ := mp_sets (N := N) h hN ht hk (F := F) hlow N 0 xs (Nat.zero_le _) (by omega) (by rw [stpS_zero]; exact r)
  refine ⟨xs', ?_, f2, f3⟩
  unfold _impl_Glasses_events_at__impl_Glasses_turns_1.f
  rw [if_pos (by omega), show rounds (fun s => _impl_Glasses_events_at__impl_Glasses_turns_1.b0 N a (Mk a t k) (T : Int) s.1 s.2.1 s.2.2) N ((v : Int), xs, 0) = _ from f1]
  rfl
/-- The entries still to come. -/
structure Lt (a : List Int) (n : Nat) (f : Nat → Option Nat) (don : Nat → Bool) (l : KT) : Prop where
  nd : (l.map (·.1)).Nodup
  el : ∀ p ∈ l, ∃ k v : Nat, k < n ∧ p = (atT a (k : Int), (v : Int)) ∧ f k = some v ∧ don k = false
  so : ∀ k v : Nat, k < n → f k = some v → don k = false → (atT a (k : Int), (v : Int)) ∈ l
theorem Rw.lt {kv : KT} {f : Nat → Option Nat} (r : Rw a n kv f) : Lt a n f (fun _ => false) kv :=
  ⟨r.nd, fun p hp => by obtain ⟨k, v, hk, e, hv⟩ := r.el p hp; exact ⟨k, v, hk, e, hv, rfl⟩, fun k v hk hv _ => r.so k v hk hv⟩
theorem Lt.step (h : Se a n T) {f : Nat → Option Nat} {don : Nat → Bool} {l rest : KT} {p : T4 × Int} (hl : Lt a n f don l) (hp : l.Perm (p :: rest)) :
    ∃ k v : Nat, k < n ∧ p = (atT a (k : Int), (v : Int)) ∧ f k = some v ∧ don k = false ∧ Lt a n f (fun j => don j || (j == k)) rest := by
  have hk : (l.map (·.1)).Perm (p.1 :: rest.map (·.1)) := hp.map (·.1)
  have hnd := (hk.nodup_iff).1 hl.nd
  obtain ⟨hnp, hnr⟩ := List.nodup_cons.1 hnd
  obtain ⟨k, v, k1, e, hv, hd⟩ := hl.el p (hp.mem_iff.2 List.mem_cons_self)
  refine ⟨k, v, k1, e, hv, hd, hnr, fun q hq => ?_, fun j u hj hu hd' => ?_⟩
  · obtain ⟨j, u, hj, e2, hu, hd2⟩ := hl.el q (hp.mem_iff.2 (List.mem_cons_of_mem _ hq))
    refine ⟨j, u, hj, e2, hu, ?_⟩
    have : ¬ j = k := fun g => hnp (by rw [e, ← g]; exact List.mem_map.2 ⟨q, hq, by rw [e2]⟩)
    simp [hd2, this]
  · rw [Bool.or_eq_false_iff] at hd'
    have h1 := hp.mem_iff.1 (hl.so j u hj hu hd'.1)
    rcases List.mem_cons.1 h1 with h2 | h2
    · rw [e] at h2
      have := atT_inj h hj k1 (congrArg Prod.fst h2)
      simp [this] at hd'
    · exact h2
theorem walk_time (h : Se a n T) (hN : 20 < N) {t : Nat} (ht : t ≤ T) {F : Tb} (hlow : low F) {xs0 : List (Option KT)} {kv0 : KT} (h0 : rdL xs0 (t : Int) none = some kv0) {Kf : Ex (List (Option KT)) (List (Option KT)) → Prop}
    (hK : ∀ xs, RepM a n T xs (Fd N a n T F t tt) → Kf (.go xs)) :
    ∀ (m : Nat) (xs : List (Option KT)) (l : KT) (don : Nat → Bool), l.length < m → RepM a n T xs (Fd N a n T F t don) → rdL xs (t : Int) none = some kv0 → Lt a n (F t) don l →
    roundsD (fun s : List (Option KT) × KT => _impl_Glasses_turns.b4 N (t : Int) xs0 a (T : Int) s.1 s.2) m (xs, l) Kf := by
  intro m
  induction m with
  | zero => intro xs l don hm; exact absurd hm (Nat.not_lt_zero _)
  | succ m ih =>
    intro xs l don hm r hx hl
    show _impl_Glasses_turns.b4 N (t : Int) xs0 a (T : Int) xs l _
    unfold _impl_Glasses_turns.b4
    refine ⟨by rw [hx, h0]; rfl, fun e => ?_, fun p rest hp => ?_⟩
    · show Kf (.go xs)
      refine hK xs (r.congr fun t2 k2 _ _ => ?_)
      unfold Fd
      rw [Om_all (don := don) fun i hi hd => ?_]
      unfold give
      cases e2 : F t i with
      | none => rfl
      | some v =>
        have := hl.so i v hi e2 hd
        rw [e] at this
        cases this
    · obtain ⟨k, v, hk, rfl, hv, hd, hl'⟩ := hl.step h hp
      have hlen := hp.length_eq
      simp only [List.length_cons] at hlen
      obtain ⟨xs', g1, g2, g3⟩ := mp_events (N := N) h hN ht hk (hlow t k v hv) r
      refine ⟨_, g1, ?_⟩
      show roundsD _ m (xs', rest) Kf
      rw [← Fd_more hk hd hv] at g2
      exact ih xs' rest _ (by omega) g2 ((g3 t (Nat.le_refl _)).trans hx) hl'
theorem b2_time (h : Se a n T) (hN : 4000 < N) {c : T4} {t : Nat} (ht : t < T) {xs : List (Option KT)} (r : RepM a n T xs (Gt N a n T c t)) {Q : Bd (List (Option KT)) (List (Option KT)) (List (Option KT) × Int) → Prop}
    (hQ : ∀ xs', RepM a n T xs' (Gt N a n T c (t + 1)) → Q (.next (xs', ((t + 1 : Nat) : Int)))) : _impl_Glasses_turns.b2 N (T : Int) a xs (t : Int) Q := by
  have hT := h.t
  have hl := r.len
  obtain ⟨kv, k1, k2⟩ := r.row t (by omega)
  have hn := h.n3
  have hlen := k2.len h
  have hlt := k2.lt
  unfold _impl_Glasses_turns.b2
  rw [if_pos (by omega), if_pos ⟨by omega, by omega⟩, if_pos (by rw [k1]; rfl)]
  have z : Fd N a n T (Gt N a n T c t) t (fun _ => false) = Gt N a n T c t := by
    funext t2 k2
    unfold Fd
    rw [Om_no, om_none]
  have e0 : (rdL xs (t : Int) none).getD [] = kv := by rw [k1]; rfl
  rw [e0]
  refine walk_time (N := N) h (by omega) (show t ≤ T by omega) (Gt_low h.gl.len t) k1 ?_ N xs kv (fun _ => false) (by omega) (by rw [z]; exact r) k1 hlt
  intro xs' r'
  show Q (.next (xs', i64w ((t : Int) + 1)))
  have e1 : i64w ((t : Int) + 1) = ((t + 1 : Nat) : Int) := i64w_id (by omega) (by omega)
  rw [e1]
  exact hQ xs' r'
theorem walk_times (h : Se a n T) (hN : 4000 < N) {c : T4} {Kf : Ex (List (Option KT)) (List (Option KT)) → Prop} (hK : ∀ xs, RepM a n T xs (Gt N a n T c T) → Kf (.go xs)) :
    ∀ (m t : Nat) (xs : List (Option KT)), t ≤ T → T - t < m → RepM a n T xs (Gt N a n T c t) → roundsD (fun s : List (Option KT) × Int => _impl_Glasses_turns.b2 N (T : Int) a s.1 s.2) m (xs, (t : Int)) Kf := by
  intro m
  induction m with
  | zero => intro t xs _ hm; exact absurd hm (Nat.not_lt_zero _)
  | succ m ih =>
    intro t xs ht hm r
    by_cases c1 : t < T
    · exact b2_time h hN c1 r fun xs' r' => ih (t + 1) xs' (by omega) (by omega) r'
    · have : t = T := by omega
      subst this
      show _impl_Glasses_turns.b2 N (t : Int) a xs (t : Int) _
      have e : ∀ Q, Q (.out (.go xs)) → _impl_Glasses_turns.b2 N (t : Int) a xs (t : Int) Q := by
        intro Q hQ
        unfold _impl_Glasses_turns.b2
        rw [if_neg (by omega)]
        exact hQ
      exact e _ (hK xs r)
theorem b0_make (h : Se a n T) {t : Nat} (ht : t < T + 1) {xs : List (Option KT)} (hl : xs.length = T + 1) {Q : Bd (List (Option KT)) (List (Option KT)) (List (Option KT) × Int) → Prop} (hQ : Q (.next (stL xs (t : Int) (some []), ((t + 1 : Nat) : Int)))) : _impl_Glasses_turns.b0 N (T : Int) xs (t : Int) Q := by
  have hT := h.t
  have eT : i64w ((T : Int) + 1) = ((T + 1 : Nat) : Int) := i64w_id (by omega) (by omega)
  have e1 : i64w ((t : Int) + 1) = ((t + 1 : Nat) : Int) := i64w_id (by omega) (by omega)
  unfold _impl_Glasses_turns.b0
  rw [eT, Int.toNat_natCast, List.length_replicate, if_pos (by omega), if_pos ⟨by omega, by omega⟩, e1]
  exact hQ
theorem walk_make (h : Se a n T) {Kf : Ex (List (Option KT)) (List (Option KT)) → Prop} (hK : ∀ xs, RepM a n T xs (fun _ _ => none) → Kf (.go xs)) :
    ∀ (m t : Nat) (xs : List (Option KT)), t ≤ T + 1 → T + 1 - t < m → xs.length = T + 1 → (∀ t2 : Nat, t2 < t → rdL xs (t2 : Int) none = some []) → roundsD (fun s : List (Option KT) × Int => _impl_Glasses_turns.b0 N (T : Int) s.1 s.2) m (xs, (t : Int)) Kf := by
  intro m
  induction m with
  | zero => intro t xs _ hm; exact absurd hm (Nat.not_lt_zero _)
  | succ m ih =>
    intro t xs ht hm hl hv
    show _impl_Glasses_turns.b0 N (T : Int) xs (t : Int) _
    by_cases c : t < T + 1
    · refine b0_make h c hl (ih (t + 1) _ (by omega) (by omega) (by rw [len_stL]; exact hl) fun t2 h2 => ?_)
      rw [rdL_stL]
      by_cases e : t = t2
      · rw [if_pos ⟨e, by omega⟩]
      · rw [if_neg (fun g => e g.1)]; exact hv t2 (by omega)
    · have e : ∀ Q, Q (.out (.go xs)) → _impl_Glasses_turns.b0 N (T : Int) xs (t : Int) Q := by
        intro Q hQ
        have hT := h.t
        have eT : i64w ((T : Int) + 1) = ((T + 1 : Nat) : Int) := i64w_id (by omega) (by omega)
        unfold _impl_Glasses_turns.b0
        rw [eT, Int.toNat_natCast, List.length_replicate, if_neg (by omega)]
        exact hQ
      exact e _ (hK xs ⟨hl, fun t2 h2 => ⟨[], hv t2 (by omega), Rw.nil fun _ _ => rfl⟩⟩)
/-- The program's maps. -/
theorem turns_all (h : Se a n T) (hN : 4000 < N) {c : T4} (hf : fits a c) {Q : List (Option KT) → Prop} (hQ : ∀ xs, RepM a n T xs (Gt N a n T c T) → Q xs) : _impl_Glasses_turns.f N a c (T : Int) Q := by
  have hT := h.t
  have eT : i64w ((T : Int) + 1) = ((T + 1 : Nat) : Int) := i64w_id (by omega) (by omega)
  unfold _impl_Glasses_turns.f
  rw [eT, if_pos ⟨by omega, by omega⟩, Int.toNat_natCast]
  refine walk_make (N := N) h ?_ N 0 (List.replicate (T + 1) none) (Nat.zero_le _) (by omega) (by simp) (fun t2 h2 => absurd h2 (Nat.not_lt_zero _))
  intro xs r
  show _impl_Glasses_turns.a0 N (T : Int) a c xs Q
  have hl := r.len
  obtain ⟨kv, k1, k2⟩ := r.row 0 (Nat.zero_le _)
  obtain ⟨x0, x1⟩ := hor_range h.gl.ok (fits_in h.gl.len hf)
  have hk : (hor a c.l).toNat < n := by have := h.n_eq; omega
  have ek : c = atT a (((hor a c.l).toNat : Nat) : Int) := by rw [Int.toNat_of_nonneg x0, atT_hor h.gl.len h.gl.ok hf]
  unfold _impl_Glasses_turns.a0
  rw [if_pos ⟨by omega, by omega⟩, if_pos (by rw [show rdL xs 0 none = some kv from k1]; rfl)]
  refine walk_times (N := N) (c := c) h hN hQ N 0 _ (Nat.zero_le _) (by omega) ?_
  have r1 := r.set h (Nat.zero_le _) hk 0 (F' := Gt N a n T c 0) fun t2 k2 => rfl
  rw [← ek] at r1
  exact r1
end
end Go.Proofs.YtmnaclghakalmaaX
