/- The program's maps of the fewest turns. -/
import Derived.Test.YtioefkcldfjobaaYS
import Derived.Test.YtioefkcldfjobaaYM
namespace Go.Proofs.YtioefkcldfjobaaX
open Go
set_option linter.unusedVariables false
set_option linter.unusedSimpArgs false
abbrev KT := List (T4 × Int)
theorem nat_few : ∀ (n : Nat) (l : List Nat), l.Nodup → (∀ x ∈ l, x < n) → l.length ≤ n
  | 0, l, _, h => by
    cases l with
    | nil => simp
    | cons x l => exact absurd (h x List.mem_cons_self) (Nat.not_lt_zero _)
  | n + 1, l, hd, h => by
    have h1 := nat_few n (l.erase n) (hd.erase n) (fun x hx => by
      have h2 := (hd.mem_erase_iff).1 hx
      have h3 := h x h2.2
      have h4 : x ≠ n := h2.1
      omega)
    have h2 := List.length_erase (a := n) (l := l)
    split at h2 <;> omega
section
variable {κ ν : Type} [DecidableEq κ]
theorem mem_get {kv : List (κ × ν)} {k : κ} (h : k ∈ kv.map (·.1)) (hn : (kv.map (·.1)).Nodup) (z : ν) : (k, mGet kv k z) ∈ kv := by
  obtain ⟨p, hp, rfl⟩ := List.mem_map.1 h
  rw [mGet_at hn hp]
  exact hp
theorem mSet_has (kv : List (κ × ν)) (k : κ) (v : ν) : k ∈ (mSet kv k v).map (·.1) := by
  unfold mSet
  cases h : mIdx kv k with
  | some i =>
    obtain ⟨hi, he⟩ := mIdx_key h
    exact List.mem_map.2 ⟨(k, v), List.mem_iff_getElem.2 ⟨i, by simpa using hi, by simp⟩, rfl⟩
  | none => simp
theorem mSet_keep {kv : List (κ × ν)} {k : κ} {v : ν} {x : κ} (h : x ∈ kv.map (·.1)) : x ∈ (mSet kv k v).map (·.1) := by
  rcases mSet_keys kv k v with e | ⟨e, _⟩
  · rw [e]; exact h
  · rw [e]; exact List.mem_append_left _ h
theorem mIdx_in {kv : List (κ × ν)} {k : κ} : (mIdx kv k).isSome = true ↔ k ∈ kv.map (·.1) := by
  cases h : mIdx kv k with
  | some i =>
    obtain ⟨hi, he⟩ := mIdx_key h
    exact ⟨fun _ => List.mem_map.2 ⟨kv[i], List.getElem_mem hi, he⟩, fun _ => rfl⟩
  | none =>
    refine ⟨fun g => (by cases g), fun g => ?_⟩
    obtain ⟨p, hp, e⟩ := List.mem_map.1 g
    exact absurd e.symm (mIdx_no h p hp)
end
/-- A map that tells f. -/
structure Rw (a : List Int) (n : Nat) (kv : KT) (f : Nat → Option Nat) : Prop where
  nd : (kv.map (·.1)).Nodup
  el : ∀ p ∈ kv, ∃ k v : Nat, k < n ∧ p = (atT a (k : Int), (v : Int)) ∧ f k = some v
  so : ∀ k v : Nat, k < n → f k = some v → (atT a (k : Int), (v : Int)) ∈ kv
section
variable {a : List Int} {n T N : Nat}
theorem Rw.nil {f : Nat → Option Nat} (h : ∀ k, k < n → f k = none) : Rw a n [] f := ⟨List.nodup_nil, fun p hp => (by cases hp), fun k v hk hv => (by rw [h k hk] at hv; cases hv)⟩
theorem Rw.len (h : Se a n T) {kv : KT} {f : Nat → Option Nat} (r : Rw a n kv f) : kv.length ≤ n := by
  have h1 : (kv.map fun p => (hor a p.1.l).toNat).Nodup := by
    have hd := r.nd
    unfold List.Nodup at hd ⊢
    rw [List.pairwise_map] at hd ⊢
    refine hd.imp_of_mem fun {p q} hp hq hne e => hne ?_
    obtain ⟨j, u, hj, rfl, _⟩ := r.el p hp
    obtain ⟨k, v, hk, rfl, _⟩ := r.el q hq
    have e1 := (of_Mk h (t := 0) hj).2
    have e2 := (of_Mk h (t := 0) hk).2
    unfold kOf Mk at e1 e2
    simp only at e1 e2 e
    rw [e1, e2] at e
    rw [e]
  have h2 := nat_few n _ h1 (fun x hx => by
    obtain ⟨p, hp, rfl⟩ := List.mem_map.1 hx
    obtain ⟨j, u, hj, rfl, _⟩ := r.el p hp
    have e1 := (of_Mk h (t := 0) hj).2
    unfold kOf Mk at e1
    simp only at e1 ⊢
    omega)
  simpa using h2
theorem Rw.at_some {kv : KT} {f : Nat → Option Nat} (r : Rw a n kv f) {k v : Nat} (hk : k < n) (hv : f k = some v) : (mIdx kv (atT a (k : Int))).isSome = true ∧ mGet kv (atT a (k : Int)) 0 = (v : Int) := by
  have hm := r.so k v hk hv
  exact ⟨mIdx_in.2 (List.mem_map.2 ⟨_, hm, rfl⟩), mGet_at r.nd hm 0⟩
theorem Rw.at_none (h : Se a n T) {kv : KT} {f : Nat → Option Nat} (r : Rw a n kv f) {k : Nat} (hk : k < n) (hv : f k = none) : ¬ (mIdx kv (atT a (k : Int))).isSome = true := by
  intro g
  obtain ⟨p, hp, e⟩ := List.mem_map.1 (mIdx_in.1 g)
  obtain ⟨j, u, hj, rfl, hu⟩ := r.el p hp
  have := atT_inj h hj hk e
  subst this
  rw [hv] at hu
  cases hu
theorem Rw.set (h : Se a n T) {kv : KT} {f : Nat → Option Nat} (r : Rw a n kv f) {k : Nat} (hk : k < n) (w : Nat) : Rw a n (mSet kv (atT a (k : Int)) (w : Int)) (fun j => if j = k then some w else f j) := by
  have hn2 := mSet_nodup r.nd (atT a (k : Int)) (w : Int)
  refine ⟨hn2, fun p hp => ?_, fun j v hj hv => ?_⟩
  · have hg := mGet_at hn2 hp 0
    rw [mGet_set r.nd] at hg
    by_cases c : p.1 = atT a (k : Int)
    · rw [if_pos c] at hg
      refine ⟨k, w, hk, ?_, by rw [if_pos rfl]⟩
      rw [← c, hg]
    · rw [if_neg c] at hg
      have hin := (mSet_in (List.mem_map.2 ⟨p, hp, rfl⟩)).resolve_right c
      have hm := mem_get hin r.nd 0
      rw [hg] at hm
      obtain ⟨j, v, hj, e, hv⟩ := r.el p hm
      refine ⟨j, v, hj, e, ?_⟩
      rw [if_neg (fun g => c (by rw [e, g]))]
      exact hv
  · by_cases c : j = k
    · subst c
      rw [if_pos rfl] at hv
      cases hv
      have hm := mem_get (mSet_has kv (atT a (j : Int)) (w : Int)) hn2 0
      rw [mGet_set r.nd, if_pos rfl] at hm
      exact hm
    · rw [if_neg c] at hv
      have hm0 := r.so j v hj hv
      have hm := mem_get (mSet_keep (k := atT a (k : Int)) (v := (w : Int)) (List.mem_map.2 ⟨_, hm0, rfl⟩)) hn2 0
      rw [mGet_set r.nd, if_neg (fun g => c (atT_inj h hj hk g)), mGet_at r.nd hm0] at hm
      exact hm
theorem Rw.congr {kv : KT} {f g : Nat → Option Nat} (r : Rw a n kv f) (h : ∀ k, k < n → f k = g k) : Rw a n kv g :=
  ⟨r.nd, fun p hp => by obtain ⟨k, v, hk, e, hv⟩ := r.el p hp; exact ⟨k, v, hk, e, by rw [← h k hk]; exact hv⟩, fun k v hk hv => r.so k v hk (by rw [h k hk]; exact hv)⟩
/-- Maps that tell F. -/
structure RepM (a : List Int) (n T : Nat) (xs : List (Option KT)) (F : Tb) : Prop where
  len : xs.length = T + 1
  row : ∀ t : Nat, t ≤ T → ∃ kv, rdL xs (t : Int) none = some kv ∧ Rw a n kv (F t)
theorem RepM.set (h : Se a n T) {xs : List (Option KT)} {F : Tb} (r : RepM a n T xs F) {t k : Nat} (ht : t ≤ T) (hk : k < n) (w : Nat) {F' : Tb} (hF : ∀ t2 k2, F' t2 k2 = if t2 = t ∧ k2 = k then some w else F t2 k2) :
    RepM a n T (stL xs (t : Int) (some (mSet ((rdL xs (t : Int) none).getD []) (atT a (k : Int)) (w : Int)))) F' := by
  have hl := r.len
  refine ⟨by rw [len_stL]; exact hl, fun t2 h2 => ?_⟩
  rw [rdL_stL]
  by_cases e : t = t2
  · subst e
    rw [if_pos ⟨rfl, by omega⟩]
    obtain ⟨kv, e1, r1⟩ := r.row t ht
    rw [e1]
    refine ⟨_, rfl, (r1.set h hk w).congr fun j hj => ?_⟩
    rw [hF]
    by_cases c : j = k
    · rw [if_pos c, if_pos ⟨rfl, c⟩]
    · rw [if_neg c, if_neg (fun g => c g.2)]
  · rw [if_neg (fun g => e g.1)]
    obtain ⟨kv, e1, r1⟩ := r.row t2 h2
    refine ⟨kv, e1, r1.congr fun j hj => ?_⟩
    rw [hF, if_neg (fun g => e g.1.symm)]
theorem RepM.congr {xs : List (Option KT)} {F G : Tb} (r : RepM a n T xs F) (h : ∀ t k, t ≤ T → k < n → F t k = G t k) : RepM a n T xs G :=
  ⟨r.len, fun t ht => by obtain ⟨kv, e, r1⟩ := r.row t ht; exact ⟨kv, e, r1.congr fun k hk => h t k ht hk⟩⟩
/-- What the program does when a set is looked at. -/
theorem mp_step (h : Se a n T) (hN : 10 < N) {t k s v : Nat} (ht : t ≤ T) (hk : k < n) (hs : s < 2 ^ a.length) {xs : List (Option KT)} {F : Tb} (r : RepM a n T xs F) (hlow : v ≤ 4 * t) :
    ∃ xs', _impl_Glasses_events_at__impl_Glasses_turns_1.b0 N a (Mk a t k) (T : Int) (v : Int) xs (s : Int) = some (.next ((v : Int), xs', ((s + 1 : Nat) : Int))) ∧ RepM a n T xs' (stp1 N a T F (Mk a t k) v s) ∧ ∀ t2 : Nat, t2 ≤ t → rdL xs' (t2 : Int) none = rdL xs (t2 : Int) none := by
  have hp := pow_le h.gl.len
  have hT := h.t
  have hm := Mk_ok h ht hk
  obtain ⟨q, _, h2, _, h4, h5, h6, h7⟩ := nxt_ok (N := N) (s := s) h.gl hm.2 (by omega) (by omega)
  have e1 : i64w ((s : Int) + 1) = ((s + 1 : Nat) : Int) := i64w_id (by omega) (by omega)
  have hft : (Mk a t k).f_time = (t : Int) := rfl
  have hw : i64w ((t : Int) + (nxt N a (Mk a t k).f_tops s).2) = (t : Int) + (nxt N a (Mk a t k).f_tops s).2 := i64w_id (by omega) (by omega)
  unfold _impl_Glasses_events_at__impl_Glasses_turns_1.b0
  rw [if_pos (by rw [sets_all _ h.gl.len, pow_cast]; omega), u8w_id (x := (s : Int)) (by omega) (by omega), h2, Option.bind_some, h4, Option.bind_some, hft, hw]
  unfold stp1 suc _impl_Glasses_events_at__impl_Glasses_turns_1.j2
  rw [e1, hft]
  by_cases c0 : (nxt N a (Mk a t k).f_tops s).2 > 0
  · rw [if_pos c0, if_pos c0]
    by_cases c1 : (t : Int) + (nxt N a (Mk a t k).f_tops s).2 ≤ (T : Int)
    · rw [if_pos c1, if_pos c1]
      have hy : okM a (T : Int) (⟨(t : Int) + (nxt N a (Mk a t k).f_tops s).2, (nxt N a (Mk a t k).f_tops s).1⟩ : Mo) := ⟨⟨by show (0 : Int) ≤ _ + _; omega, by show _ + _ ≤ (T : Int); omega⟩, h5⟩
      obtain ⟨y1, y2, y3⟩ := Mk_of h hy
      have hlate : t < tOf (⟨(t : Int) + (nxt N a (Mk a t k).f_tops s).2, (nxt N a (Mk a t k).f_tops s).1⟩ : Mo) := by unfold tOf; simp only; omega
      generalize (⟨(t : Int) + (nxt N a (Mk a t k).f_tops s).2, (nxt N a (Mk a t k).f_tops s).1⟩ : Mo) = y at hy y1 y2 y3 hlate ⊢
      have f1 : y.f_time = ((tOf y : Nat) : Int) := by have := hy.1.1; unfold tOf; omega
      have f2 : y.f_tops = atT a ((kOf a y : Nat) : Int) := by have := congrArg S_impl_moment.f_tops y3; exact this.symm
      have hl := r.len
      obtain ⟨kv, k1, k2⟩ := r.row (tOf y) y1
      have hpc := (pc_all s (by omega)).2.2
      have hc : i64w ((v : Int) + ((pc s : Nat) : Int)) = ((v + pc s : Nat) : Int) := by
        rw [← Int.natCast_add]
        exact i64w_id (by omega) (by omega)
      have keep : ∀ X, ∀ t2 : Nat, t2 ≤ t → rdL (stL xs ((tOf y : Nat) : Int) X) (t2 : Int) none = rdL xs (t2 : Int) none := by
        intro X t2 h2
        rw [rdL_stL, if_neg (fun g => by omega)]
      unfold _impl_Glasses_turns_1.f
      rw [ones_pc (by omega), Option.bind_some, f1, f2, if_pos ⟨by omega, by omega⟩, hc]
      have set1 : ∀ G : Tb, (∀ t2 k2, G t2 k2 = if t2 = tOf y ∧ k2 = kOf a y then some (v + pc s) else F t2 k2) → RepM a n T (stL xs ((tOf y : Nat) : Int) (some (mSet ((rdL xs ((tOf y : Nat) : Int) none).getD []) (atT a ((kOf a y : Nat) : Int)) ((v + pc s : Nat) : Int)))) G := fun G hG => r.set h y1 y2 (v + pc s) hG
      have hsome : (rdL xs ((tOf y : Nat) : Int) none).isSome = true := by rw [k1]; rfl
      have hgd : (rdL xs ((tOf y : Nat) : Int) none).getD [] = kv := by rw [k1]; rfl
      cases e : F (tOf y) (kOf a y) with
      | none =>
        rw [if_neg (by rw [hgd]; exact k2.at_none h y2 e), if_pos ⟨by omega, by omega⟩, if_pos hsome, Option.bind_some]
        refine ⟨_, rfl, set1 _ fun t2 k2 => ?_, keep _⟩
        dsimp only
        by_cases c : t2 = tOf y ∧ k2 = kOf a y
        · rw [if_pos c, if_pos c, c.1, c.2, e]; rfl
        · rw [if_neg c, if_neg c]
      | some u =>
        obtain ⟨q1, q2⟩ := k2.at_some y2 e
        rw [if_pos (by rw [hgd]; exact q1)]
        by_cases cl : ((v + pc s : Nat) : Int) < (u : Int)
        · rw [if_pos (by rw [hgd, q2]; exact cl), if_pos ⟨by omega, by omega⟩, if_pos hsome, Option.bind_some]
          refine ⟨_, rfl, set1 _ fun t2 k2 => ?_, keep _⟩
          dsimp only
          by_cases c : t2 = tOf y ∧ k2 = kOf a y
          · rw [if_pos c, if_pos c, c.1, c.2, e]
            show some (min u (v + pc s)) = some (v + pc s)
            rw [Nat.min_eq_right (by omega)]
          · rw [if_neg c, if_neg c]
        · rw [if_neg (by rw [hgd, q2]; exact cl), Option.bind_some]
          refine ⟨_, rfl, r.congr fun t2 k2 _ _ => ?_, fun _ _ => rfl⟩
          dsimp only
          by_cases c : t2 = tOf y ∧ k2 = kOf a y
          · rw [if_pos c, c.1, c.2, e]
            show some u = some (min u (v + pc s))
            rw [Nat.min_eq_left (by omega)]
          · rw [if_neg c]
    · rw [if_neg c1, if_neg c1]
      exact ⟨xs, rfl, r, fun _ _ => rfl⟩
  · rw [if_neg c0, if_neg c0]
    exact ⟨xs, rfl, r, fun _ _ => rfl⟩
theorem mp_sets (h : Se a n T) (hN : 20 < N) {t k v : Nat} (ht : t ≤ T) (hk : k < n) {F : Tb} (hlow : v ≤ 4 * t) :
    ∀ (m s : Nat) (xs : List (Option KT)), s ≤ 2 ^ a.length → 2 ^ a.length - s < m → RepM a n T xs (stpS N a T F (Mk a t k) v s) →
    ∃ xs', rounds (fun q => _impl_Glasses_events_at__impl_Glasses_turns_1.b0 N a (Mk a t k) (T : Int) q.1 q.2.1 q.2.2) m ((v : Int), xs, (s : Int)) = some (.go ((v : Int), xs')) ∧ RepM a n T xs' (stpS N a T F (Mk a t k) v (2 ^ a.length)) ∧ ∀ t2 : Nat, t2 ≤ t → rdL xs' (t2 : Int) none = rdL xs (t2 : Int) none := by
  intro m
  induction m with
  | zero => intro s L _ hm; exact absurd hm (Nat.not_lt_zero _)
  | succ m ih =>
    intro s xs hs hm r
    by_cases c : s < 2 ^ a.length
    · obtain ⟨L1, g1, g2, g3⟩ := mp_step (N := N) h (by omega) ht hk c r hlow
      rw [stpS_step] at g2
      obtain ⟨L', f1, f2, f3⟩ := ih (s + 1) L1 (by omega) (by omega) g2
      exact ⟨L', (rounds_next (b := fun q : Int × List (Option KT) × Int => _impl_Glasses_events_at__impl_Glasses_turns_1.b0 N a (Mk a t k) (T : Int) q.1 q.2.1 q.2.2) (s := ((v : Int), xs, (s : Int))) g1).trans f1, f2, fun t2 h2 => (f3 t2 h2).trans (g3 t2 h2)⟩
    · have : s = 2 ^ a.length := by omega
      subst this
      refine ⟨xs, rounds_out ?_, r, fun _ _ => rfl⟩
      show _impl_Glasses_events_at__impl_Glasses_turns_1.b0 N a (Mk a t k) (T : Int) (v : Int) xs ((2 ^ a.length : Nat) : Int) = _
      unfold _impl_Glasses_events_at__impl_Glasses_turns_1.b0
      rw [if_neg (by rw [sets_all _ h.gl.len, pow_cast]; omega)]
theorem mp_events (h : Se a n T) (hN : 20 < N) {t k v : Nat} (ht : t ≤ T) (hk : k < n) {F : Tb} (hlow : v ≤ 4 * t) {xs : List (Option KT)} (r : RepM a n T xs F) :
    ∃ xs', _impl_Glasses_events_at__impl_Glasses_turns_1.f N a (Mk a t k) (T : Int) (v : Int) xs = some ((v : Int), xs', xs') ∧ RepM a n T xs' (stpS N a T F (Mk a t k) v (2 ^ a.length)) ∧ ∀ t2 : Nat, t2 ≤ t → rdL xs' (t2 : Int) none = rdL xs (t2 : Int) none := by
  have hp := pow_le h.gl.len
  obtain ⟨xs', f1, f2, f3⟩ := mp_sets (N := N) h hN ht hk (F := F) hlow N 0 xs (Nat.zero_le _) (by omega) (by rw [stpS_zero]; exact r)
  refine ⟨xs', ?_, f2, f3⟩
  unfold _impl_Glasses_events_at__impl_Glasses_turns_1.f
  rw [if_pos (by omega), show rounds (fun s => _impl_Glasses_events_at__impl_Glasses_turns_1.b0 N a (Mk a t k) (T : Int) s.1 s.2.1 s.2.2) N ((v : Int), xs, 0) = _ from f1]
  rfl
/-- The entries still to come. -/
structure Lt (a : List Int) (n : Nat) (f : Nat → Option Nat) (don : Nat → Bool) (l : KT) : Prop where
  nd : (l.map (·.1)).Nodup
  el : ∀ p ∈ l, ∃ k v : Nat, k < n ∧ p = (atT a (k : Int), (v : Int)) ∧ f k = some v ∧ don k = false
  so : ∀ k v : Nat, k < n → f k = some v → don k = false → (atT a (k : Int), (v : Int)) ∈ l
theorem Rw.lt {kv : KT} {f : Nat → Option Nat} (r : Rw a n kv f) : Lt a n f (fun _ => false) kv :=
  ⟨r.nd, fun p hp => by obtain ⟨k, v, hk, e, hv⟩ := r.el p hp; exact ⟨k, v, hk, e, hv, rfl⟩, fun k v hk hv _ => r.so k v hk hv⟩
theorem Lt.step (h : Se a n T) {f : Nat → Option Nat} {don : Nat → Bool} {l rest : KT} {p : T4 × Int} (hl : Lt a n f don l) (hp : l.Perm (p :: rest)) :
    ∃ k v : Nat, k < n ∧ p = (atT a (k : Int), (v : Int)) ∧ f k = some v ∧ don k = false ∧ Lt a n f (fun j => don j || (j == k)) rest := by
  have hk : (l.map (·.1)).Perm (p.1 :: rest.map (·.1)) := hp.map (·.1)
  have hnd := (hk.nodup_iff).1 hl.nd
  obtain ⟨hnp, hnr⟩ := List.nodup_cons.1 hnd
  obtain ⟨k, v, k1, e, hv, hd⟩ := hl.el p (hp.mem_iff.2 List.mem_cons_self)
  refine ⟨k, v, k1, e, hv, hd, hnr, fun q hq => ?_, fun j u hj hu hd' => ?_⟩
  · obtain ⟨j, u, hj, e2, hu, hd2⟩ := hl.el q (hp.mem_iff.2 (List.mem_cons_of_mem _ hq))
    refine ⟨j, u, hj, e2, hu, ?_⟩
    have : ¬ j = k := fun g => hnp (by rw [e, ← g]; exact List.mem_map.2 ⟨q, hq, by rw [e2]⟩)
    simp [hd2, this]
  · rw [Bool.or_eq_false_iff] at hd'
    have h1 := hp.mem_iff.1 (hl.so j u hj hu hd'.1)
    rcases List.mem_cons.1 h1 with h2 | h2
    · rw [e] at h2
      have := atT_inj h hj k1 (congrArg Prod.fst h2)
      simp [this] at hd'
    · exact h2
theorem walk_time (h : Se a n T) (hN : 20 < N) {t : Nat} (ht : t ≤ T) {F : Tb} (hlow : low F) {xs0 : List (Option KT)} {kv0 : KT} (h0 : rdL xs0 (t : Int) none = some kv0) {Kf : Ex (List (Option KT)) (List (Option KT)) → Prop}
    (hK : ∀ xs, RepM a n T xs (Fd N a n T F t tt) → Kf (.go xs)) :
    ∀ (m : Nat) (xs : List (Option KT)) (l : KT) (don : Nat → Bool), l.length < m → RepM a n T xs (Fd N a n T F t don) → rdL xs (t : Int) none = some kv0 → Lt a n (F t) don l →
    roundsD (fun s : List (Option KT) × KT => _impl_Glasses_turns.b4 N (t : Int) xs0 a (T : Int) s.1 s.2) m (xs, l) Kf := by
  intro m
  induction m with
  | zero => intro xs l don hm; exact absurd hm (Nat.not_lt_zero _)
  | succ m ih =>
    intro xs l don hm r hx hl
    show _impl_Glasses_turns.b4 N (t : Int) xs0 a (T : Int) xs l _
    unfold _impl_Glasses_turns.b4
    refine ⟨by rw [hx, h0]; rfl, fun e => ?_, fun p rest hp => ?_⟩
    · show Kf (.go xs)
      refine hK xs (r.congr fun t2 k2 _ _ => ?_)
      unfold Fd
      rw [Om_all (don := don) fun i hi hd => ?_]
      unfold give
      cases e2 : F t i with
      | none => rfl
      | some v =>
        have := hl.so i v hi e2 hd
        rw [e] at this
        cases this
    · obtain ⟨k, v, hk, rfl, hv, hd, hl'⟩ := hl.step h hp
      have hlen := hp.length_eq
      simp only [List.length_cons] at hlen
      obtain ⟨xs', g1, g2, g3⟩ := mp_events (N := N) h hN ht hk (hlow t k v hv) r
      refine ⟨_, g1, ?_⟩
      show roundsD _ m (xs', rest) Kf
      rw [← Fd_more hk hd hv] at g2
      exact ih xs' rest _ (by omega) g2 ((g3 t (Nat.le_refl _)).trans hx) hl'
theorem b2_time (h : Se a n T) (hN : 4000 < N) {c : T4} {t : Nat} (ht : t < T) {xs : List (Option KT)} (r : RepM a n T xs (Gt N a n T c t)) {Q : Bd (List (Option KT)) (List (Option KT)) (List (Option KT) × Int) → Prop}
    (hQ : ∀ xs', RepM a n T xs' (Gt N a n T c (t + 1)) → Q (.next (xs', ((t + 1 : Nat) : Int)))) : _impl_Glasses_turns.b2 N (T : Int) a xs (t : Int) Q := by
  have hT := h.t
  have hl := r.len
  obtain ⟨kv, k1, k2⟩ := r.row t (by omega)
  have hn := h.n3
  have hlen := k2.len h
  have hlt := k2.lt
  unfold _impl_Glasses_turns.b2
  rw [if_pos (by omega), if_pos ⟨by omega, by omega⟩, if_pos (by rw [k1]; rfl)]
  have z : Fd N a n T (Gt N a n T c t) t (fun _ => false) = Gt N a n T c t := by
    funext t2 k2
    unfold Fd
    rw [Om_no, om_none]
  have e0 : (rdL xs (t : Int) none).getD [] = kv := by rw [k1]; rfl
  rw [e0]
  refine walk_time (N := N) h (by omega) (show t ≤ T by omega) (Gt_low h.gl.len t) k1 ?_ N xs kv (fun _ => false) (by omega) (by rw [z]; exact r) k1 hlt
  intro xs' r'
  show Q (.next (xs', i64w ((t : Int) + 1)))
  have e1 : i64w ((t : Int) + 1) = ((t + 1 : Nat) : Int) := i64w_id (by omega) (by omega)
  rw [e1]
  exact hQ xs' r'
theorem walk_times (h : Se a n T) (hN : 4000 < N) {c : T4} {Kf : Ex (List (Option KT)) (List (Option KT)) → Prop} (hK : ∀ xs, RepM a n T xs (Gt N a n T c T) → Kf (.go xs)) :
    ∀ (m t : Nat) (xs : List (Option KT)), t ≤ T → T - t < m → RepM a n T xs (Gt N a n T c t) → roundsD (fun s : List (Option KT) × Int => _impl_Glasses_turns.b2 N (T : Int) a s.1 s.2) m (xs, (t : Int)) Kf := by
  intro m
  induction m with
  | zero => intro t xs _ hm; exact absurd hm (Nat.not_lt_zero _)
  | succ m ih =>
    intro t xs ht hm r
    by_cases c1 : t < T
    · exact b2_time h hN c1 r fun xs' r' => ih (t + 1) xs' (by omega) (by omega) r'
    · have : t = T := by omega
      subst this
      show _impl_Glasses_turns.b2 N (t : Int) a xs (t : Int) _
      have e : ∀ Q, Q (.out (.go xs)) → _impl_Glasses_turns.b2 N (t : Int) a xs (t : Int) Q := by
        intro Q hQ
        unfold _impl_Glasses_turns.b2
        rw [if_neg (by omega)]
        exact hQ
      exact e _ (hK xs r)
theorem b0_make (h : Se a n T) {t : Nat} (ht : t < T + 1) {xs : List (Option KT)} (hl : xs.length = T + 1) {Q : Bd (List (Option KT)) (List (Option KT)) (List (Option KT) × Int) → Prop} (hQ : Q (.next (stL xs (t : Int) (some []), ((t + 1 : Nat) : Int)))) : _impl_Glasses_turns.b0 N (T : Int) xs (t : Int) Q := by
  have hT := h.t
  have eT : i64w ((T : Int) + 1) = ((T + 1 : Nat) : Int) := i64w_id (by omega) (by omega)
  have e1 : i64w ((t : Int) + 1) = ((t + 1 : Nat) : Int) := i64w_id (by omega) (by omega)
  unfold _impl_Glasses_turns.b0
  rw [eT, Int.toNat_natCast, List.length_replicate, if_pos (by omega), if_pos ⟨by omega, by omega⟩, e1]
  exact hQ
theorem walk_make (h : Se a n T) {Kf : Ex (List (Option KT)) (List (Option KT)) → Prop} (hK : ∀ xs, RepM a n T xs (fun _ _ => none) → Kf (.go xs)) :
    ∀ (m t : Nat) (xs : List (Option KT)), t ≤ T + 1 → T + 1 - t < m → xs.length = T + 1 → (∀ t2 : Nat, t2 < t → rdL xs (t2 : Int) none = some []) → roundsD (fun s : List (Option KT) × Int => _impl_Glasses_turns.b0 N (T : Int) s.1 s.2) m (xs, (t : Int)) Kf := by
  intro m
  induction m with
  | zero => intro t xs _ hm; exact absurd hm (Nat.not_lt_zero _)
  | succ m ih =>
    intro t xs ht hm hl hv
    show _impl_Glasses_turns.b0 N (T : Int) xs (t : Int) _
    by_cases c : t < T + 1
    · refine b0_make h c hl (ih (t + 1) _ (by omega) (by omega) (by rw [len_stL]; exact hl) fun t2 h2 => ?_)
      rw [rdL_stL]
      by_cases e : t = t2
      · rw [if_pos ⟨e, by omega⟩]
      · rw [if_neg (fun g => e g.1)]; exact hv t2 (by omega)
    · have e : ∀ Q, Q (.out (.go xs)) → _impl_Glasses_turns.b0 N (T : Int) xs (t : Int) Q := by
        intro Q hQ
        have hT := h.t
        have eT : i64w ((T : Int) + 1) = ((T + 1 : Nat) : Int) := i64w_id (by omega) (by omega)
        unfold _impl_Glasses_turns.b0
        rw [eT, Int.toNat_natCast, List.length_replicate, if_neg (by omega)]
        exact hQ
      exact e _ (hK xs ⟨hl, fun t2 h2 => ⟨[], hv t2 (by omega), Rw.nil fun _ _ => rfl⟩⟩)
/-- The program's maps. -/
theorem turns_all (h : Se a n T) (hN : 4000 < N) {c : T4} (hf : fits a c) {Q : List (Option KT) → Prop} (hQ : ∀ xs, RepM a n T xs (Gt N a n T c T) → Q xs) : _impl_Glasses_turns.f N a c (T : Int) Q := by
  have hT := h.t
  have eT : i64w ((T : Int) + 1) = ((T + 1 : Nat) : Int) := i64w_id (by omega) (by omega)
  unfold _impl_Glasses_turns.f
  rw [eT, if_pos ⟨by omega, by omega⟩, Int.toNat_natCast]
  refine walk_make (N := N) h ?_ N 0 (List.replicate (T + 1) none) (Nat.zero_le _) (by omega) (by simp) (fun t2 h2 => absurd h2 (Nat.not_lt_zero _))
  intro xs r
  show _impl_Glasses_turns.a0 N (T : Int) a c xs Q
  have hl := r.len
  obtain ⟨kv, k1, k2⟩ := r.row 0 (Nat.zero_le _)
  obtain ⟨x0, x1⟩ := hor_range h.gl.ok (fits_in h.gl.len hf)
  have hk : (hor a c.l).toNat < n := by have := h.n_eq; omega
  have ek : c = atT a (((hor a c.l).toNat : Nat) : Int) := by rw [Int.toNat_of_nonneg x0, atT_hor h.gl.len h.gl.ok hf]
  unfold _impl_Glasses_turns.a0
  rw [if_pos ⟨by omega, by omega⟩, if_pos (by rw [show rdL xs 0 none = some kv from k1]; rfl)]
  refine walk_times (N := N) (c := c) h hN hQ N 0 _ (Nat.zero_le _) (by omega) ?_
  have r1 := r.set h (Nat.zero_le _) hk 0 (F' := Gt N a n T c 0) fun t2 k2 => rfl
  rw [← ek] at r1
  exact r1
end
end Go.Proofs.YtioefkcldfjobaaX
