/- Moments by their numbers; sums; the program's loops over its maps. -/
import Derived.Test.YtioefkcldfjobaaYN
namespace Go.Proofs.YtioefkcldfjobaaX
open Go
set_option linter.unusedVariables false
set_option linter.unusedSimpArgs false
/-- Glasses, how many tops they have, and a time. -/
structure Se (a : List Int) (n T : Nat) : Prop where
  gl : Gl a
  n_eq : (n : Int) = prodR a
  n1 : 1 ≤ n
  n3 : n ≤ 3000
  t : T ≤ 120
/-- The moment with a number. -/
def Kx (a : List Int) (n : Nat) (i : Nat) : Mo := ⟨((i / n : Nat) : Int), atT a ((i % n : Nat) : Int)⟩
/-- The number of a moment. -/
def ix (a : List Int) (n : Nat) (y : Mo) : Nat := y.f_time.toNat * n + (hor a y.f_tops.l).toNat
section
variable {a : List Int} {n T : Nat}
theorem Kx_ok (h : Se a n T) {i : Nat} (hi : i < n * (T + 1)) : okM a (T : Int) (Kx a n i) := by
  have h1 : i / n < T + 1 := Nat.div_lt_of_lt_mul hi
  exact ⟨⟨Int.natCast_nonneg _, Int.ofNat_le.2 (show i / n ≤ T by omega)⟩, atT_fits h.gl.len h.gl.ok (Int.natCast_nonneg _)⟩
theorem ix_lt (h : Se a n T) {y : Mo} (hy : okM a (T : Int) y) : ix a n y < n * (T + 1) ∧ Kx a n (ix a n y) = y := by
  obtain ⟨⟨t0, t1⟩, hf⟩ := hy
  obtain ⟨h0, h1⟩ := hor_range h.gl.ok (fits_in h.gl.len hf)
  obtain ⟨t, et⟩ := Int.eq_ofNat_of_zero_le t0
  obtain ⟨q, eq⟩ := Int.eq_ofNat_of_zero_le h0
  have hq : q < n := by have := h.n_eq; omega
  have ht : t ≤ T := by omega
  have e : ix a n y = t * n + q := by unfold ix; rw [et, eq]; simp
  have hd : (t * n + q) / n = t := by rw [Nat.mul_comm, Nat.mul_add_div h.n1, Nat.div_eq_of_lt hq, Nat.add_zero]
  have hm : (t * n + q) % n = q := by rw [Nat.mul_comm, Nat.mul_add_mod, Nat.mod_eq_of_lt hq]
  rw [e]
  refine ⟨?_, ?_⟩
  · have := Nat.mul_le_mul_right n (show t + 1 ≤ T + 1 by omega)
    rw [Nat.mul_comm n (T + 1)]
    rw [Nat.add_mul] at this
    omega
  · unfold Kx
    rw [hd, hm, ← eq, atT_hor h.gl.len h.gl.ok hf]
    obtain ⟨yt, yc⟩ := y
    simp only at et
    rw [et]
theorem Kx_ix (h : Se a n T) (i : Nat) : ix a n (Kx a n i) = i := by
  have hm := Nat.mod_lt i (show 0 < n from h.n1)
  show ((i / n : Nat) : Int).toNat * n + (hor a (atT a ((i % n : Nat) : Int)).l).toNat = i
  rw [hor_atT h.gl.len h.gl.ok (by omega) (by rw [← h.n_eq]; omega), Int.toNat_natCast, Int.toNat_natCast, Nat.mul_comm, Nat.div_add_mod]
theorem Kx_inj (h : Se a n T) {i j : Nat} (e : Kx a n i = Kx a n j) : i = j := by rw [← Kx_ix h i, e, Kx_ix h j]
end
/-- The sum of those that count. -/
def Sm (don : Nat → Bool) (c : Nat → Int) : Nat → Int
  | 0 => 0
  | m + 1 => Sm don c m + (if don m = true then c m else 0)
def tt : Nat → Bool := fun _ => true
theorem Sm_more {don : Nat → Bool} {c : Nat → Int} {i : Nat} (h : don i = false) : ∀ m, Sm (fun k => don k || (k == i)) c m = Sm don c m + (if i < m then c i else 0)
  | 0 => by simp [Sm]
  | m + 1 => by
    rw [Sm, Sm, Sm_more h m]
    by_cases e : m = i
    · subst e
      simp [h]
    · have : (m == i) = false := by simpa using e
      simp only [this, Bool.or_false]
      by_cases c1 : i < m
      · rw [if_pos c1, if_pos (show i < m + 1 by omega)]; omega
      · rw [if_neg c1, if_neg (show ¬ i < m + 1 by omega)]; omega
theorem Sm_all {don : Nat → Bool} {c : Nat → Int} : ∀ {m : Nat}, (∀ i, i < m → don i = false → c i = 0) → Sm don c m = Sm tt c m
  | 0, _ => rfl
  | m + 1, h => by
    rw [Sm, Sm, Sm_all fun i hi hd => h i (by omega) hd]
    cases e : don m with
    | true => simp [tt]
    | false => rw [if_neg Bool.false_ne_true, h m (by omega) e]; simp [tt]
theorem Sm_none {c : Nat → Int} : ∀ m, Sm (fun _ => false) c m = 0
  | 0 => rfl
  | m + 1 => by rw [Sm, Sm_none m]; simp
theorem Sm_congr {don : Nat → Bool} {c d : Nat → Int} : ∀ {m : Nat}, (∀ i, i < m → c i = d i) → Sm don c m = Sm don d m
  | 0, _ => rfl
  | m + 1, h => by rw [Sm, Sm, Sm_congr fun i hi => h i (by omega), h m (by omega)]
theorem i64w_idem (x : Int) : i64w (i64w x) = i64w x := by have := i64w_add x 0; simpa using this
section
variable {a : List Int} {n T N : Nat}
/-- How much of what is at i comes to j. -/
def cc (N : Nat) (a : List Int) (n T : Nat) (F : Nat → Int) (j i : Nat) : Int := cnt N a (T : Int) (Kx a n i) (Kx a n j) (2 ^ a.length) * F i
/-- The ways behind one more event. -/
def stp (N : Nat) (a : List Int) (n T : Nat) (F : Nat → Int) (j : Nat) : Int := i64w (Sm tt (cc N a n T F j) (n * (T + 1)))
/-- A map with these ways. -/
structure RepI (a : List Int) (n T : Nat) (kv : KM) (F : Nat → Int) : Prop where
  ok : OkK a (T : Int) kv
  val : ∀ i, i < n * (T + 1) → mGet kv (Kx a n i) 0 = F i
/-- The entries still to come. -/
structure Lf (a : List Int) (n T : Nat) (F : Nat → Int) (don : Nat → Bool) (l : KM) : Prop where
  nd : (l.map (·.1)).Nodup
  el : ∀ p ∈ l, ∃ i, i < n * (T + 1) ∧ p.1 = Kx a n i ∧ p.2 = F i
  no : ∀ i, i < n * (T + 1) → Kx a n i ∈ l.map (·.1) → don i = false
  so : ∀ i, i < n * (T + 1) → don i = false → Kx a n i ∈ l.map (·.1) ∨ F i = 0
theorem RepI.lf (h : Se a n T) {kv : KM} {F : Nat → Int} (r : RepI a n T kv F) : Lf a n T F (fun _ => false) kv := by
  refine ⟨r.ok.nd, fun p hp => ?_, fun _ _ _ => rfl, fun i hi _ => ?_⟩
  · obtain ⟨h1, h2⟩ := ix_lt h (r.ok.key p.1 (List.mem_map.2 ⟨p, hp, rfl⟩))
    refine ⟨_, h1, h2.symm, ?_⟩
    rw [← r.val _ h1, h2, mGet_at r.ok.nd hp]
  · by_cases c : Kx a n i ∈ kv.map (·.1)
    · exact .inl c
    · right; rw [← r.val i hi]; exact mGet_no c 0
theorem Lf.step (h : Se a n T) {F : Nat → Int} {don : Nat → Bool} {l rest : KM} {p : Mo × Int} (hl : Lf a n T F don l) (hp : l.Perm (p :: rest)) :
    ∃ i, i < n * (T + 1) ∧ p = (Kx a n i, F i) ∧ don i = false ∧ Lf a n T F (fun k => don k || (k == i)) rest := by
  have hk : (l.map (·.1)).Perm (p.1 :: rest.map (·.1)) := hp.map (·.1)
  have hnd := (hk.nodup_iff).1 hl.nd
  obtain ⟨hnp, hnr⟩ := List.nodup_cons.1 hnd
  obtain ⟨i, hi, e1, e2⟩ := hl.el p (hp.mem_iff.2 List.mem_cons_self)
  have hd : don i = false := hl.no i hi (hk.mem_iff.2 (by rw [← e1]; exact List.mem_cons_self))
  refine ⟨i, hi, Prod.ext e1 e2, hd, hnr, fun q hq => hl.el q (hp.mem_iff.2 (List.mem_cons_of_mem _ hq)), fun j hj hm => ?_, fun j hj hd' => ?_⟩
  · have h1 := hl.no j hj (hk.mem_iff.2 (List.mem_cons_of_mem _ hm))
    have h2 : ¬ j = i := fun e => hnp (by rw [e1, ← e]; exact hm)
    simp [h1, h2]
  · rw [Bool.or_eq_false_iff] at hd'
    rcases hl.so j hj hd'.1 with h1 | h1
    · have h2 := hk.mem_iff.1 h1
      rcases List.mem_cons.1 h2 with h3 | h3
      · have := Kx_inj h (h3.trans e1)
        simp [this] at hd'
      · exact .inl h3
    · exact .inr h1
theorem norm_of (h : Se a n T) {kv : KM} (hk : OkK a (T : Int) kv) (hv : ∀ j, j < n * (T + 1) → ∃ x, mGet kv (Kx a n j) 0 = i64w x) (y : Mo) : i64w (mGet kv y 0) = mGet kv y 0 := by
  by_cases c : y ∈ kv.map (·.1)
  · obtain ⟨h1, h2⟩ := ix_lt h (hk.key y c)
    obtain ⟨x, hx⟩ := hv _ h1
    rw [h2] at hx
    rw [hx, i64w_idem]
  · rw [mGet_no c]; rfl
theorem walk_ways (h : Se a n T) (hN : 20 < N) {F : Nat → Int} {Kf : Ex (Int × Int) KM → Prop} {B : Nat}
    (hK : ∀ kv, RepI a n T kv (stp N a n T F) → kv.length ≤ B → Kf (.go kv)) :
    ∀ (m : Nat) (kv l : KM) (don : Nat → Bool), l.length < m → OkK a (T : Int) kv → (∀ j, j < n * (T + 1) → mGet kv (Kx a n j) 0 = i64w (Sm don (cc N a n T F j) (n * (T + 1)))) → Lf a n T F don l → kv.length + 16 * l.length ≤ B →
    roundsD (fun s : KM × KM => impl_PlansFor.b6 N a (T : Int) s.1 s.2) m (kv, l) Kf := by
  intro m
  induction m with
  | zero => intro kv l don hm; exact absurd hm (Nat.not_lt_zero _)
  | succ m ih =>
    intro kv l don hm hk hv hl hB
    show impl_PlansFor.b6 N a (T : Int) kv l _
    unfold impl_PlansFor.b6
    refine ⟨fun e => ?_, fun p rest hp => ?_⟩
    · show Kf (.go kv)
      refine hK kv ⟨hk, fun j hj => ?_⟩ (by omega)
      rw [hv j hj]
      unfold stp
      congr 1
      refine Sm_all fun i hi hd => ?_
      rcases hl.so i hi hd with h1 | h1
      · rw [e] at h1; cases h1
      · unfold cc; rw [h1, Int.mul_zero]
    · obtain ⟨i, hi, rfl, hd, hl'⟩ := hl.step h hp
      have hlen := hp.length_eq
      simp only [List.length_cons] at hlen
      obtain ⟨kv', e1, k1, v1, l1⟩ := events_eq (N := N) h.gl (T := (T : Int)) (by have := h.t; omega) (Kx_ok h hi) (by omega) (F i) hk (norm_of h hk fun j hj => ⟨_, hv j hj⟩)
      refine ⟨_, e1, ?_⟩
      show roundsD _ m (kv', rest) Kf
      refine ih kv' rest (fun k => don k || (k == i)) (by omega) k1 (fun j hj => ?_) hl' (by omega)
      rw [v1, hv j hj, i64w_add, Sm_more hd, if_pos hi]
      rfl
/-- How many ways at the time itself. -/
def atEnd (n T : Nat) (F : Nat → Int) (i : Nat) : Int := if i / n = T then F i else 0
theorem walk_sum (h : Se a n T) {F : Nat → Int} {Kf : Ex (Int × Int) Int → Prop}
    (hK : Kf (.go (i64w (Sm tt (atEnd n T F) (n * (T + 1)))))) :
    ∀ (m : Nat) (x : Int) (l : KM) (don : Nat → Bool), l.length < m → x = i64w (Sm don (atEnd n T F) (n * (T + 1))) → Lf a n T F don l →
    roundsD (fun s : Int × KM => impl_PlansFor.b3 N (T : Int) s.1 s.2) m (x, l) Kf := by
  intro m
  induction m with
  | zero => intro x l don hm; exact absurd hm (Nat.not_lt_zero _)
  | succ m ih =>
    intro x l don hm hx hl
    show impl_PlansFor.b3 N (T : Int) x l _
    unfold impl_PlansFor.b3
    refine ⟨fun e => ?_, fun p rest hp => ?_⟩
    · show Kf (.go x)
      rw [hx, Sm_all (don := don) fun i hi hd => ?_]
      · exact hK
      · rcases hl.so i hi hd with h1 | h1
        · rw [e] at h1; cases h1
        · unfold atEnd; rw [h1]; split <;> rfl
    · obtain ⟨i, hi, rfl, hd, hl'⟩ := hl.step h hp
      have hlen := hp.length_eq
      simp only [List.length_cons] at hlen
      have hq : (Kx a n i).f_time = ((i / n : Nat) : Int) := rfl
      unfold impl_PlansFor.j5
      dsimp only
      by_cases c : i / n = T
      · rw [if_pos (by rw [hq, c])]
        show roundsD _ m (i64w (x + F i), rest) Kf
        refine ih _ rest _ (by omega) ?_ hl'
        rw [hx, i64w_add, Sm_more hd, if_pos hi]
        unfold atEnd
        rw [if_pos c]
      · rw [if_neg (by rw [hq]; omega)]
        show roundsD _ m (x, rest) Kf
        refine ih _ rest _ (by omega) ?_ hl'
        rw [hx, Sm_more hd, if_pos hi]
        congr 1
        have : atEnd n T F i = 0 := by unfold atEnd; rw [if_neg c]
        rw [this, Int.add_zero]
end
end Go.Proofs.YtioefkcldfjobaaX
