/- The program's maps of how few weights balance each mass. -/
import Derived.Test.YtjagkhjbbdfkaaaYC
import Derived.Test.YtjagkhjbbdfkaaaXDem
namespace Go.Proofs.YtjagkhjbbdfkaaaX
open Go
set_option linter.unusedVariables false
set_option linter.unusedSimpArgs false
abbrev Kb := List (Int × S_impl_balance)
/-- A map that tells f. -/
structure Rb (kv : Kb) (f : Int → Option Nat) : Prop where
  nd : (kv.map (·.1)).Nodup
  el : ∀ p ∈ kv, ∃ v : Nat, f p.1 = some v ∧ p.2.f_least = (v : Int)
  so : ∀ m v, f m = some v → m ∈ kv.map (·.1)
theorem Rb.at_some {kv : Kb} {f : Int → Option Nat} (r : Rb kv f) {m : Int} {v : Nat} (h : f m = some v) (z : S_impl_balance) : (mIdx kv m).isSome = true ∧ (mGet kv m z).f_least = (v : Int) := by
  have hm := r.so m v h
  refine ⟨mIdx_in.2 hm, ?_⟩
  obtain ⟨u, hu, e⟩ := r.el _ (mem_get hm r.nd z)
  simp only at hu e
  rw [h] at hu
  cases hu
  exact e
theorem Rb.at_none {kv : Kb} {f : Int → Option Nat} (r : Rb kv f) {m : Int} (h : f m = none) : ¬ (mIdx kv m).isSome = true := by
  intro g
  obtain ⟨p, hp, rfl⟩ := List.mem_map.1 (mIdx_in.1 g)
  obtain ⟨v, hv, _⟩ := r.el p hp
  rw [h] at hv
  cases hv
theorem Rb.set {kv : Kb} {f g : Int → Option Nat} (r : Rb kv f) {m : Int} {u : Nat} {b : S_impl_balance} (hb : b.f_least = (u : Int)) (hg : ∀ j, g j = if j = m then some u else f j) : Rb (mSet kv m b) g := by
  have hn2 := mSet_nodup r.nd m b
  refine ⟨hn2, fun p hp => ?_, fun j v hv => ?_⟩
  · have hget := mGet_at hn2 hp z_S_impl_balance
    rw [mGet_set r.nd] at hget
    rw [hg]
    by_cases c : p.1 = m
    · rw [if_pos c] at hget ⊢
      exact ⟨u, rfl, by rw [← hget]; exact hb⟩
    · rw [if_neg c] at hget ⊢
      have hin := (mSet_in (List.mem_map.2 ⟨p, hp, rfl⟩)).resolve_right c
      obtain ⟨v, hv, e⟩ := r.el _ (mem_get hin r.nd z_S_impl_balance)
      simp only at hv e
      exact ⟨v, hv, by rw [← hget]; exact e⟩
  · rw [hg] at hv
    by_cases c : j = m
    · subst c; exact mSet_has kv j b
    · rw [if_neg c] at hv
      exact mSet_keep (r.so j v hv)
theorem Rb.congr {kv : Kb} {f g : Int → Option Nat} (r : Rb kv f) (h : ∀ m, f m = g m) : Rb kv g := by
  have : f = g := funext h
  rw [← this]; exact r
theorem Rb.len {kv : Kb} {f : Int → Option Nat} (r : Rb kv f) (h : ∀ m v, f m = some v → -2000 ≤ m ∧ m ≤ 2000) : kv.length ≤ 4001 := by
  have rng : ∀ p ∈ kv, -2000 ≤ p.1 ∧ p.1 ≤ 2000 := fun p hp => by obtain ⟨v, hv, _⟩ := r.el p hp; exact h _ v hv
  have h1 : (kv.map fun p => (p.1 + 2000).toNat).Nodup := by
    have hd := r.nd
    unfold List.Nodup at hd ⊢
    rw [List.pairwise_map] at hd ⊢
    refine hd.imp_of_mem fun {p q} hp hq hne e => hne ?_
    have := rng p hp
    have := rng q hq
    omega
  have h2 := nat_few 4001 _ h1 (fun x hx => by
    obtain ⟨p, hp, rfl⟩ := List.mem_map.1 hx
    have := rng p hp
    omega)
  simpa using h2
section
variable {w : List Int} {lo : Int} {L N : Nat}
/-- What the masses that are done give. -/
def Fq (lo : Int) (L : Nat) (x : Int) (f : Int → Option Nat) (D : Int → Bool) (m : Int) : Option Nat := Om tt (fun t => if D (m - (lo + (t : Int)) * x) = true then plus (f (m - (lo + (t : Int)) * x)) (sq (lo + (t : Int))) else none) L
/-- And the first sides of one more. -/
def Fp (lo : Int) (L : Nat) (x : Int) (f : Int → Option Nat) (D : Int → Bool) (μ : Int) (j : Nat) (m : Int) : Option Nat :=
  Om tt (fun t => if (D (m - (lo + (t : Int)) * x) || (decide (m - (lo + (t : Int)) * x = μ) && decide (t < j))) = true then plus (f (m - (lo + (t : Int)) * x)) (sq (lo + (t : Int))) else none) L
theorem Fp_zero {x : Int} {f : Int → Option Nat} {D : Int → Bool} {μ : Int} (m : Int) : Fp lo L x f D μ 0 m = Fq lo L x f D m := by
  unfold Fp Fq
  refine Om_congr fun t _ => ?_
  simp
theorem Fp_all {x : Int} {f : Int → Option Nat} {D : Int → Bool} {μ : Int} (m : Int) : Fp lo L x f D μ L m = Fq lo L x f (fun a => D a || decide (a = μ)) m := by
  unfold Fp Fq
  refine Om_congr fun t ht => ?_
  simp [ht]
theorem Fp_step {x : Int} {f : Int → Option Nat} {D : Int → Bool} {μ : Int} {j v : Nat} (hj : j < L) (hD : D μ = false) (hv : f μ = some v) (m : Int) :
    Fp lo L x f D μ (j + 1) m = if m = μ + (lo + (j : Int)) * x then om (Fp lo L x f D μ j m) (some (v + sq (lo + (j : Int)))) else Fp lo L x f D μ j m := by
  unfold Fp
  by_cases c : m = μ + (lo + (j : Int)) * x
  · have e : m - (lo + (j : Int)) * x = μ := by omega
    rw [if_pos c, Om_one (j := j) (c := fun t => if (D (m - (lo + (t : Int)) * x) || (decide (m - (lo + (t : Int)) * x = μ) && decide (t < j))) = true then plus (f (m - (lo + (t : Int)) * x)) (sq (lo + (t : Int))) else none), if_pos hj]
    · rw [e, hD, hv]
      simp [plus]
    · rw [e, hD]
      simp
    · intro t ht
      have : decide (t < j + 1) = decide (t < j) := by rw [decide_eq_decide]; omega
      rw [this]
  · rw [if_neg c]
    refine Om_congr fun t _ => ?_
    by_cases ht : t = j
    · subst ht
      have : ¬ m - (lo + (t : Int)) * x = μ := fun e => c (by omega)
      simp [this]
    · have : decide (t < j + 1) = decide (t < j) := by rw [decide_eq_decide]; omega
      rw [this]
/-- Rows that the program has, from i on. -/
structure RepB (lo : Int) (L : Nat) (w : List Int) (xs : List (Option Kb)) (i : Nat) : Prop where
  len : xs.length = w.length + 1
  row : ∀ t : Nat, i ≤ t → t ≤ w.length → ∃ kv, rdL xs (t : Int) none = some kv ∧ Rb kv (bd lo L w t)
theorem b4_step (h : OkW w) (hs : Sd lo L) {S : List Int} (hSl : S.length = L) (hS : ∀ t : Nat, t < L → rdL S (t : Int) 0 = lo + (t : Int)) {i j : Nat} (hi : i < w.length) (hj : j < L) {μ : Int} (hμ : -2000 ≤ μ ∧ μ ≤ 2000) {b : S_impl_balance} {v : Nat} (hb : b.f_least = (v : Int)) (hv : v ≤ 16)
    {xs : List (Option Kb)} (hl : xs.length = w.length + 1) {kv : Kb} (hkv : rdL xs (i : Int) none = some kv) {g : Int → Option Nat} (r : Rb kv g) {Q : Bd (List (Option Kb)) (List (Option Kb)) (List (Option Kb) × Int) → Prop}
    (hQ : ∀ xs' kv', xs'.length = w.length + 1 → rdL xs' (i : Int) none = some kv' → Rb kv' (fun m => if m = μ + (lo + (j : Int)) * w[i] then om (g m) (some (v + sq (lo + (j : Int)))) else g m) → (∀ t : Nat, ¬ t = i → rdL xs' (t : Int) none = rdL xs (t : Int) none) → Q (.next (xs', ((j + 1 : Nat) : Int)))) :
    _impl_Weights_balances.b4 N S (i : Int) w (μ, b) xs (j : Int) Q := by
  obtain ⟨q1, q2, q3, q4⟩ := sq_le hs hj
  have hx := w_range h hi
  have hl16 := h.l16
  have hm := mul_range q3 q4 hx
  have hL : L ≤ 3 := by rcases hs with ⟨_, e⟩ | ⟨_, e⟩ <;> omega
  have e1 : i64w ((j : Int) + 1) = ((j + 1 : Nat) : Int) := i64w_id (by omega) (by omega)
  have e2 : i64w w[i] = w[i] := i64w_id (by omega) (by omega)
  have e3 : i64w ((lo + (j : Int)) * w[i]) = (lo + (j : Int)) * w[i] := i64w_id (by omega) (by omega)
  have e4 : i64w (μ + (lo + (j : Int)) * w[i]) = μ + (lo + (j : Int)) * w[i] := i64w_id (by omega) (by omega)
  have e5 : i64w ((lo + (j : Int)) * (lo + (j : Int))) = ((sq (lo + (j : Int)) : Nat) : Int) := by rw [← q2]; exact i64w_id (by omega) (by omega)
  have e6 : i64w (lo + (j : Int)) = lo + (j : Int) := i64w_id (by omega) (by omega)
  have e7 : i64w (b.f_least + ((sq (lo + (j : Int)) : Nat) : Int)) = ((v + sq (lo + (j : Int)) : Nat) : Int) := by
    rw [hb, ← Int.natCast_add]
    exact i64w_id (by omega) (by omega)
  have hgd : (rdL xs (i : Int) none).getD [] = kv := by rw [hkv]; rfl
  have hset : ∀ (bb : S_impl_balance) (u : Nat), bb.f_least = (u : Int) → om (g (μ + (lo + (j : Int)) * w[i])) (some (v + sq (lo + (j : Int)))) = some u →
      Q (.next (stL xs (i : Int) (some (mSet kv (μ + (lo + (j : Int)) * w[i]) (⟨i64w (bb.f_ways + b.f_ways), bb.f_least⟩ : S_impl_balance))), ((j + 1 : Nat) : Int))) := by
    intro bb u hu ho
    refine hQ _ _ (by rw [len_stL]; exact hl) (by rw [rdL_stL, if_pos ⟨rfl, by omega⟩]) (r.set (b := ⟨i64w (bb.f_ways + b.f_ways), bb.f_least⟩) (u := u) hu fun m => ?_) fun t ht => ?_
    · by_cases c : m = μ + (lo + (j : Int)) * w[i]
      · rw [if_pos c, if_pos c, c, ho]
      · rw [if_neg c, if_neg c]
    · rw [rdL_stL, if_neg (fun g => ht g.1.symm)]
  have hj6 : ∀ (bb : S_impl_balance) (u : Nat), bb.f_least = (u : Int) → om (g (μ + (lo + (j : Int)) * w[i])) (some (v + sq (lo + (j : Int)))) = some u → _impl_Weights_balances.j6 N (i : Int) xs (μ, b) S (j : Int) w bb Q := by
    intro bb u hu ho
    unfold _impl_Weights_balances.j6
    dsimp only
    rw [if_pos ⟨by omega, by omega⟩, if_pos (by rw [hkv]; rfl), hS j hj, rdL_nat hi, e6, e2, e3, e4, e1, hgd]
    exact hset bb u hu ho
  unfold _impl_Weights_balances.b4
  dsimp only
  rw [if_pos (by omega), if_pos ⟨by omega, by omega⟩, if_pos ⟨by omega, by omega⟩, if_pos ⟨by omega, by omega⟩, hS j hj, rdL_nat hi, e6, e2, e3, e4, e5, e7, hgd]
  cases e : g (μ + (lo + (j : Int)) * w[i]) with
  | none =>
    rw [if_neg (r.at_none e)]
    exact hj6 _ _ rfl (by rw [e]; rfl)
  | some z =>
    obtain ⟨a1, a2⟩ := r.at_some e z_S_impl_balance
    rw [if_pos a1, a2]
    by_cases cl : ((v + sq (lo + (j : Int)) : Nat) : Int) < (z : Int)
    · rw [if_pos cl]
      refine hj6 _ _ rfl ?_
      rw [e]
      show some (min z _) = _
      rw [Nat.min_eq_right (by omega)]
    · rw [if_neg cl]
      refine hj6 _ z a2 ?_
      rw [e]
      show some (min z _) = _
      rw [Nat.min_eq_left (by omega)]
theorem walk_sides (h : OkW w) (hs : Sd lo L) {S : List Int} (hSl : S.length = L) (hS : ∀ t : Nat, t < L → rdL S (t : Int) 0 = lo + (t : Int)) {i : Nat} (hi : i < w.length) {μ : Int} (hμ : -2000 ≤ μ ∧ μ ≤ 2000) {b : S_impl_balance} {v : Nat} (hb : b.f_least = (v : Int)) (hv : v ≤ 16)
    {f : Int → Option Nat} {D : Int → Bool} (hD : D μ = false) (hf : f μ = some v) {xs0 : List (Option Kb)} {Kf : Ex (List (Option Kb)) (List (Option Kb)) → Prop}
    (hK : ∀ xs' kv', xs'.length = w.length + 1 → rdL xs' (i : Int) none = some kv' → Rb kv' (Fq lo L w[i] f (fun a => D a || decide (a = μ))) → (∀ t : Nat, ¬ t = i → rdL xs' (t : Int) none = rdL xs0 (t : Int) none) → Kf (.go xs')) :
    ∀ (m j : Nat) (xs : List (Option Kb)) (kv : Kb), j ≤ L → L - j < m → xs.length = w.length + 1 → rdL xs (i : Int) none = some kv → Rb kv (Fp lo L w[i] f D μ j) → (∀ t : Nat, ¬ t = i → rdL xs (t : Int) none = rdL xs0 (t : Int) none) →
    roundsD (fun s : List (Option Kb) × Int => _impl_Weights_balances.b4 N S (i : Int) w (μ, b) s.1 s.2) m (xs, (j : Int)) Kf := by
  intro m
  induction m with
  | zero => intro j xs kv _ hm; exact absurd hm (Nat.not_lt_zero _)
  | succ m ih =>
    intro j xs kv hj hm hl hkv r ho
    show _impl_Weights_balances.b4 N S (i : Int) w (μ, b) xs (j : Int) _
    by_cases c : j < L
    · refine b4_step h hs hSl hS hi c hμ hb hv hl hkv r fun xs' kv' l' k' r' o' => ?_
      refine ih (j + 1) xs' kv' (by omega) (by omega) l' k' (r'.congr fun a => (Fp_step c hD hf a).symm) fun t ht => (o' t ht).trans (ho t ht)
    · have : j = L := by omega
      subst this
      have e : ∀ Q, Q (.out (.go xs)) → _impl_Weights_balances.b4 N S (i : Int) w (μ, b) xs (j : Int) Q := by
        intro Q hQ
        unfold _impl_Weights_balances.b4
        rw [if_neg (by omega)]
        exact hQ
      exact e _ (hK xs kv hl hkv (r.congr fun a => Fp_all a) ho)
/-- The entries still to come. -/
structure Lb (f : Int → Option Nat) (D : Int → Bool) (l : Kb) : Prop where
  nd : (l.map (·.1)).Nodup
  el : ∀ p ∈ l, ∃ v : Nat, f p.1 = some v ∧ p.2.f_least = (v : Int) ∧ D p.1 = false
  so : ∀ m v, f m = some v → D m = false → m ∈ l.map (·.1)
theorem Lb.step {f : Int → Option Nat} {D : Int → Bool} {l rest : Kb} {p : Int × S_impl_balance} (hl : Lb f D l) (hp : l.Perm (p :: rest)) : Lb f (fun a => D a || decide (a = p.1)) rest := by
  have hk : (l.map (·.1)).Perm (p.1 :: rest.map (·.1)) := hp.map (·.1)
  have hnd := (hk.nodup_iff).1 hl.nd
  obtain ⟨hnp, hnr⟩ := List.nodup_cons.1 hnd
  refine ⟨hnr, fun q hq => ?_, fun m v hm hd => ?_⟩
  · obtain ⟨v, h1, h2, h3⟩ := hl.el q (hp.mem_iff.2 (List.mem_cons_of_mem _ hq))
    refine ⟨v, h1, h2, ?_⟩
    have : ¬ q.1 = p.1 := fun g => hnp (by rw [← g]; exact List.mem_map.2 ⟨q, hq, rfl⟩)
    simp [h3, this]
  · rw [Bool.or_eq_false_iff] at hd
    have h1 := hk.mem_iff.1 (hl.so m v hm hd.1)
    rcases List.mem_cons.1 h1 with h2 | h2
    · simp [h2] at hd
    · exact h2
theorem sides_of (both : Bool) : ∃ S, impl_sides.f N both = some S ∧ S.length = LOf both ∧ ∀ t : Nat, t < LOf both → rdL S (t : Int) 0 = loOf both + (t : Int) := by
  cases both with
  | false =>
    refine ⟨[0, 1], rfl, rfl, fun t ht => ?_⟩
    have : t = 0 ∨ t = 1 := by have : LOf false = 2 := rfl; omega
    rcases this with rfl | rfl <;> rfl
  | true =>
    refine ⟨[-1, 0, 1], rfl, rfl, fun t ht => ?_⟩
    have : t = 0 ∨ t = 1 ∨ t = 2 := by have : LOf true = 3 := rfl; omega
    rcases this with rfl | rfl | rfl <;> rfl
theorem walk_row (h : OkW w) (hN : 5000 < N) {both : Bool} {i : Nat} (hi : i < w.length) {kv1 : Kb} (r1 : Rb kv1 (bd (loOf both) (LOf both) w (i + 1))) {xs1 : List (Option Kb)} (h1 : rdL xs1 ((i + 1 : Nat) : Int) none = some kv1) {xs00 : List (Option Kb)} (h00 : (rdL (stL xs00 (i : Int) (some ([] : Kb))) ((i + 1 : Nat) : Int) none).getD [] = kv1) {Kf : Ex (List (Option Kb)) (List (Option Kb)) → Prop}
    (hK : ∀ xs' kv', xs'.length = w.length + 1 → rdL xs' (i : Int) none = some kv' → Rb kv' (bd (loOf both) (LOf both) w i) → (∀ t : Nat, ¬ t = i → rdL xs' (t : Int) none = rdL xs1 (t : Int) none) → Kf (.go xs')) :
    ∀ (m : Nat) (xs : List (Option Kb)) (l kv : Kb) (D : Int → Bool), l.length < m → xs.length = w.length + 1 → rdL xs (i : Int) none = some kv → Rb kv (Fq (loOf both) (LOf both) w[i] (bd (loOf both) (LOf both) w (i + 1)) D) → (∀ t : Nat, ¬ t = i → rdL xs (t : Int) none = rdL xs1 (t : Int) none) → Lb (bd (loOf both) (LOf both) w (i + 1)) D l →
    roundsD (fun s : List (Option Kb) × Kb => _impl_Weights_balances.b2 N (i : Int) xs00 both w s.1 s.2) m (xs, l) Kf := by
  have h16 := h.l16
  have e1 : i64w ((i : Int) + 1) = ((i + 1 : Nat) : Int) := i64w_id (by omega) (by omega)
  intro m
  induction m with
  | zero => intro xs l kv D hm; exact absurd hm (Nat.not_lt_zero _)
  | succ m ih =>
    intro xs l kv D hm hl hkv r ho hlb
    show _impl_Weights_balances.b2 N (i : Int) xs00 both w xs l _
    unfold _impl_Weights_balances.b2
    refine ⟨by rw [e1, h00, ho (i + 1) (by omega), h1], fun e => ?_, fun p rest hp => ?_⟩
    · show Kf (.go xs)
      refine hK xs kv hl hkv (r.congr fun a => ?_) ho
      rw [bd_step hi]
      unfold Fq
      refine Om_congr fun t _ => ?_
      split
      · rfl
      · rename_i hd
        cases e2 : bd (loOf both) (LOf both) w (i + 1) (a - (loOf both + (t : Int)) * w[i]) with
        | none => rfl
        | some v =>
          have := hlb.so _ v e2 (by simpa using hd)
          rw [e] at this
          cases this
    · have hlen := hp.length_eq
      simp only [List.length_cons] at hlen
      obtain ⟨v, f1, f2, f3⟩ := hlb.el p (hp.mem_iff.2 List.mem_cons_self)
      have rg := bd_range h (sdOf both) f1
      obtain ⟨S, s1, s2, s3⟩ := sides_of (N := N) both
      refine ⟨S, s1, ?_⟩
      have hL : LOf both ≤ 3 := by cases both <;> decide
      refine walk_sides (N := N) h (sdOf both) s2 s3 hi (μ := p.1) (b := p.2) ⟨rg.1, rg.2.1⟩ f2 rg.2.2 f3 f1 (xs0 := xs1) ?_ N 0 xs kv (Nat.zero_le _) (by omega) hl hkv (r.congr fun a => (Fp_zero a).symm) ho
      intro xs' kv' l' k' r' o'
      show roundsD _ m (xs', rest) Kf
      exact ih xs' rest kv' _ (by omega) l' k' r' o' (hlb.step hp)
theorem b0_row (h : OkW w) (hN : 5000 < N) {both : Bool} {i : Nat} (hi : i < w.length) {xs : List (Option Kb)} (r : RepB (loOf both) (LOf both) w xs (i + 1)) {Q : Bd (List (Option Kb)) (List (Option Kb)) (List (Option Kb) × Int) → Prop} (hQ : ∀ xs', RepB (loOf both) (LOf both) w xs' i → Q (.next (xs', (i : Int) - 1))) :
    _impl_Weights_balances.b0 N both w xs (i : Int) Q := by
  have h16 := h.l16
  have hl := r.len
  have e1 : i64w ((i : Int) + 1) = ((i + 1 : Nat) : Int) := i64w_id (by omega) (by omega)
  obtain ⟨kv1, k1, k2⟩ := r.row (i + 1) (Nat.le_refl _) (by omega)
  have k1' : rdL (stL xs (i : Int) (some ([] : Kb))) ((i + 1 : Nat) : Int) none = some kv1 := by rw [rdL_stL, if_neg (fun g => by omega)]; exact k1
  have hkl := k2.len fun m v hv => by have := bd_range h (sdOf both) hv; exact ⟨this.1, this.2.1⟩
  unfold _impl_Weights_balances.b0
  rw [if_pos (by omega), if_pos ⟨by omega, by omega⟩, e1, if_pos ⟨by omega, by rw [len_stL]; omega⟩, if_pos (by rw [k1']; rfl), show (rdL (stL xs (i : Int) (some ([] : Kb))) ((i + 1 : Nat) : Int) none).getD [] = kv1 by rw [k1']; rfl]
  refine walk_row (N := N) h hN hi k2 k1' (xs00 := xs) (by rw [k1']; rfl) ?_ N _ kv1 [] (fun _ => false) (by omega) (by rw [len_stL]; exact hl) (by rw [rdL_stL, if_pos ⟨rfl, by omega⟩]) ⟨List.nodup_nil, fun p hp => (by cases hp), fun m v hv => ?_⟩ (fun t _ => rfl) ⟨k2.nd, fun p hp => by obtain ⟨v, a, b⟩ := k2.el p hp; exact ⟨v, a, b, rfl⟩, fun m v hm _ => k2.so m v hm⟩
  · intro xs' kv' l' k' r' o'
    show Q (.next (xs', i64w ((i : Int) - 1)))
    rw [i64w_id (x := (i : Int) - 1) (by omega) (by omega)]
    refine hQ xs' ⟨l', fun t ht1 ht2 => ?_⟩
    by_cases e : t = i
    · subst e; exact ⟨kv', k', r'⟩
    · obtain ⟨kv2, a, b⟩ := r.row t (by omega) ht2
      refine ⟨kv2, ?_, b⟩
      rw [o' t e, rdL_stL, if_neg (fun g => e g.1.symm)]
      exact a
  · unfold Fq at hv
    rw [Om_nil (fun t _ => by simp)] at hv
    cases hv
theorem walk_rows (h : OkW w) (hN : 5000 < N) {both : Bool} {Kf : Ex (List (Option Kb)) (List (Option Kb)) → Prop} (hK : ∀ xs, RepB (loOf both) (LOf both) w xs 0 → Kf (.go xs)) :
    ∀ (i m : Nat) (xs : List (Option Kb)), i ≤ w.length → i < m → RepB (loOf both) (LOf both) w xs i → roundsD (fun s : List (Option Kb) × Int => _impl_Weights_balances.b0 N both w s.1 s.2) m (xs, (i : Int) - 1) Kf := by
  intro i
  induction i with
  | zero =>
    intro m xs _ hm r
    obtain ⟨m, rfl⟩ : ∃ j, m = j + 1 := ⟨m - 1, by omega⟩
    show _impl_Weights_balances.b0 N both w xs (((0 : Nat) : Int) - 1) _
    have e : ∀ Q, Q (.out (.go xs)) → _impl_Weights_balances.b0 N both w xs (((0 : Nat) : Int) - 1) Q := by
      intro Q hQ
      unfold _impl_Weights_balances.b0
      rw [if_neg (by omega)]
      exact hQ
    exact e _ (hK xs r)
  | succ i ih =>
    intro m xs hi hm r
    obtain ⟨m, rfl⟩ : ∃ j, m = j + 1 := ⟨m - 1, by omega⟩
    rw [show ((i + 1 : Nat) : Int) - 1 = (i : Int) by omega]
    show _impl_Weights_balances.b0 N both w xs (i : Int) _
    exact b0_row h hN (by omega) r fun xs' r' => ih m xs' (by omega) (by omega) r'
/-- The program's maps. -/
theorem balances_all (h : OkW w) (hN : 5000 < N) (both : Bool) {Q : List (Option Kb) → Prop} (hQ : ∀ xs, RepB (loOf both) (LOf both) w xs 0 → Q xs) : _impl_Weights_balances.f N w both Q := by
  have h16 := h.l16
  have e1 : i64w ((w.length : Int) + 1) = ((w.length + 1 : Nat) : Int) := i64w_id (by omega) (by omega)
  have e2 : i64w ((w.length : Int) - 1) = (w.length : Int) - 1 := i64w_id (by omega) (by omega)
  unfold _impl_Weights_balances.f
  rw [e1, if_pos ⟨by omega, by omega⟩, Int.toNat_natCast, List.length_replicate, if_pos ⟨by omega, by omega⟩, e2]
  refine walk_rows (N := N) h hN (Kf := Ex.finD (fun s => _impl_Weights_balances.a0 N s Q) Q) hQ w.length N _ (Nat.le_refl _) (by omega) ⟨by rw [len_stL, List.length_replicate], fun t h1 h2 => ?_⟩
  have : t = w.length := by omega
  subst this
  refine ⟨_, by rw [rdL_stL, if_pos ⟨rfl, by simp⟩], by simp [mSet, mIdx], fun p hp => ?_, fun m v hv => ?_⟩
  · have : p = (0, (⟨1, 0⟩ : S_impl_balance)) := by simpa [mSet, mIdx] using hp
    subst this
    exact ⟨0, by rw [bd_last, if_pos rfl], rfl⟩
  · rw [bd_last] at hv
    split at hv
    · rename_i e; subst e; simp [mSet, mIdx]
    · cases hv
end
end Go.Proofs.YtjagkhjbbdfkaaaX
