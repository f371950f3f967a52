/- The reference's finder, with what it remembers; the checks ahead. -/
import Derived.Test.YtfnfoecocicigaaYD
namespace Go.Proofs.YtfnfoecocicigaaX
open Go
set_option linter.unusedVariables false
set_option linter.unusedSimpArgs false
theorem rdL_natD {l : List Int} {i : Nat} : rdL l (i : Int) 0 = l.getD i 0 := by unfold rdL; rw [Int.toNat_natCast]
theorem j0_eq {N : Nat} {self : Fi → S4 → Int → Option (Bool × List Int × Fi)} {x : Q4} {q : Nat} {L : Int} {s : List Int} (hx : tot x ≤ 8) (hq : q ≤ 20) (hs : s.length = 137781) :
    _spec_l06Finder_can.j0 N self (sq x) (q : Int) L s = some (s.getD (atI x q) 0 == 2, s, ⟨L, s⟩) := by
  have he := at_eq hx hq
  have hlt := at_lt hx hq
  unfold atE at he
  unfold _spec_l06Finder_can.j0
  rw [he, if_pos ⟨by omega, by omega⟩, rdL_natD]
theorem InvS.mono {L q r : Nat} {s : List Int} (h : InvS L q s) (hr : r ≤ q) : InvS L r s := ⟨h.1, fun y k h1 h2 h3 => h.2 y k h1 (by omega) h3⟩
theorem can_spec {M L : Nat} (hL : L ≤ 3) (hM : 8000 ≤ M) : ∀ (q : Nat), q ≤ 20 → ∀ kf, q < kf → SelfS L q (_spec_l06Finder_can.g (M + 6) kf) := by
  intro q
  induction q with
  | zero =>
    intro _ kf hk seen x hI hx
    obtain ⟨kf, rfl⟩ : ∃ j, kf = j + 1 := ⟨kf - 1, by omega⟩
    refine ⟨seen, ?_, hI, Frm.refl _ _⟩
    show _spec_l06Finder_can.body (M + 6) (_spec_l06Finder_can.g (M + 6) kf) ⟨L, seen⟩ (sq x) ((0 : Nat) : Int) = _
    unfold _spec_l06Finder_can.body
    rw [show spec_l06Total.f (M + 6) (sq x) = some ((tot x : Nat) : Int) from sum_spec _ (by unfold tot at hx; omega), Option.bind_some]
    by_cases c : tot x ≤ 1
    · rw [if_pos (by omega), show canV L 0 x = true from decide_eq_true c]
    · rw [if_neg (by omega), if_pos (by omega), show canV L 0 x = false from decide_eq_false c]
  | succ q ih =>
    intro hq kf hk seen x hI hx
    obtain ⟨kf, rfl⟩ : ∃ j, kf = j + 1 := ⟨kf - 1, by omega⟩
    have hself := ih (by omega) kf (by omega)
    have hx8 : x.1 ≤ 8 ∧ x.2.1 ≤ 8 ∧ x.2.2.1 ≤ 8 ∧ x.2.2.2 ≤ 8 := by unfold tot at hx; omega
    have hw := weight_spec (N := M + 6) (by omega) hL hx8 hq
    have hp := pow_tab (q + 1) (by omega)
    have hj : ∀ s : List Int, s.length = 137781 → _spec_l06Finder_can.j0 (M + 6) (_spec_l06Finder_can.g (M + 6) kf) (sq x) ((q + 1 : Nat) : Int) (L : Int) s = some (s.getD (atI x (q + 1)) 0 == 2, s, ⟨L, s⟩) := fun s hs => j0_eq hx hq hs
    have he := at_eq hx hq
    have hlt := at_lt hx hq
    unfold atE at he
    show ∃ seen', _spec_l06Finder_can.body (M + 6) (_spec_l06Finder_can.g (M + 6) kf) ⟨L, seen⟩ (sq x) ((q + 1 : Nat) : Int) = some (canV L (q + 1) x, seen', ⟨L, seen'⟩) ∧ InvS L (q + 1) seen' ∧ Frm (q + 1) seen seen'
    unfold _spec_l06Finder_can.body
    rw [show spec_l06Total.f (M + 6) (sq x) = some ((tot x : Nat) : Int) from sum_spec _ (by unfold tot at hx; omega), Option.bind_some]
    by_cases c : tot x ≤ 1
    · rw [if_pos (by omega), show canV L (q + 1) x = true by unfold canV; rw [if_pos c]]
      exact ⟨seen, rfl, hI, Frm.refl _ _⟩
    · rw [if_neg (by omega), if_neg (by omega), show spec_l06Weight.f (M + 6) (⟨(L : Int), seen⟩ : Fi).f_lies (sq x) ((q + 1 : Nat) : Int) = some (Wt L x.1 x.2.1 x.2.2.1 x.2.2.2 (q + 1)) from hw, Option.bind_some, if_pos hp.2.2, hp.2.1]
      by_cases c2 : Wt L x.1 x.2.1 x.2.2.1 x.2.2.2 (q + 1) > (2 : Int) ^ (q + 1)
      · rw [if_pos c2, show canV L (q + 1) x = false by unfold canV; rw [if_neg c, if_pos c2]]
        exact ⟨seen, rfl, hI, Frm.refl _ _⟩
      · have hc : canV L (q + 1) x = ((asks x).find? (good L q x)).isSome := by
          show (if tot x ≤ 1 then true else if Wt L x.1 x.2.1 x.2.2.1 x.2.2.2 (q + 1) > (2 : Int) ^ (q + 1) then false else ((asks x).find? (good L q x)).isSome) = _
          rw [if_neg c, if_neg c2]
        have hlen := hI.1
        rw [if_neg c2, if_pos ⟨by decide, by decide⟩, if_pos ⟨by decide, by decide⟩, if_pos ⟨by decide, by decide⟩, if_pos ⟨by decide, by decide⟩, he]
        dsimp only
        have hg : (0 : Int) ≤ ((atI x (q + 1) : Nat) : Int) ∧ ((atI x (q + 1) : Nat) : Int) < (seen.length : Int) := ⟨by omega, by omega⟩
        rw [if_pos hg, rdL_natD]
        rcases hI.2 x (q + 1) hx (Nat.le_refl _) hq with hv | ⟨hv, hcv⟩ | ⟨hv, hcv⟩
        · rw [if_pos hv, if_pos hg, stL_nat]
          have hne : ∀ (y : Q4) (r : Nat), tot y ≤ 8 → r ≤ 20 → ¬ (x = y ∧ q + 1 = r) → ∀ (l : List Int) (v : Int), l.length = 137781 → (l.set (atI x (q + 1)) v).getD (atI y r) 0 = l.getD (atI y r) 0 := by
            intro y r hy hr hn l v hl
            rw [getD_set' (by omega), if_neg (fun g => hn (at_inj hx hy hq hr g))]
          have hat : ∀ (l : List Int) (v : Int), l.length = 137781 → (l.set (atI x (q + 1)) v).getD (atI x (q + 1)) 0 = v := by
            intro l v hl
            rw [getD_set' (by omega), if_pos rfl]
          have I0 : InvS L q (seen.set (atI x (q + 1)) 1) := by
            refine ⟨by rw [List.length_set]; exact hlen, fun y r hy hrq hr => ?_⟩
            rw [hne y r hy hr (fun g => by omega) seen 1 hlen]
            exact hI.2 y r hy (by omega) hr
          obtain ⟨s1, e1, I1, F1⟩ := first_eq hself hL (by omega) hM hx I0
          have hb : (ansA ((asks x).find? (good L q x))).2 = canV L (q + 1) x := by
            rw [hc]
            cases (asks x).find? (good L q x) <;> rfl
          have hF : ∀ (y : Q4) (r : Nat), tot y ≤ 8 → q < r → r ≤ 20 → ¬ (x = y ∧ q + 1 = r) → s1.getD (atI y r) 0 = seen.getD (atI y r) 0 := by
            intro y r hy hqr hr hn
            rw [F1 y r hy hqr hr, hne y r hy hr hn seen 1 hlen]
          rw [e1, Option.bind_some]
          dsimp only
          rw [hb]
          cases hcv : canV L (q + 1) x with
          | true =>
            have hg1 : (0 : Int) ≤ ((atI x (q + 1) : Nat) : Int) ∧ ((atI x (q + 1) : Nat) : Int) < (s1.length : Int) := ⟨by omega, by have := I1.1; omega⟩
            rw [if_pos rfl, if_pos hg1, stL_nat, hj _ (by rw [List.length_set]; exact I1.1), hat s1 2 I1.1]
            refine ⟨_, rfl, ⟨by rw [List.length_set]; exact I1.1, fun y r hy hrq hr => ?_⟩, fun y r hy hqr hr => ?_⟩
            · by_cases hn : x = y ∧ q + 1 = r
              · obtain ⟨rfl, rfl⟩ := hn
                exact .inr (.inr ⟨hat s1 2 I1.1, hcv⟩)
              · rw [hne y r hy hr hn s1 2 I1.1]
                by_cases hrq' : r ≤ q
                · exact I1.2 y r hy hrq' hr
                · rw [hF y r hy (by omega) hr hn]
                  exact hI.2 y r hy hrq hr
            · rw [hne y r hy hr (fun g => by omega) s1 2 I1.1, hF y r hy (by omega) hr (fun g => by omega)]
          | false =>
            have h1 : s1.getD (atI x (q + 1)) 0 = 1 := by rw [F1 x (q + 1) hx (by omega) hq, hat seen 1 hlen]
            rw [if_neg Bool.false_ne_true, hj _ I1.1, h1]
            refine ⟨s1, rfl, ⟨I1.1, fun y r hy hrq hr => ?_⟩, fun y r hy hqr hr => hF y r hy (by omega) hr (fun g => by omega)⟩
            by_cases hn : x = y ∧ q + 1 = r
            · obtain ⟨rfl, rfl⟩ := hn
              exact .inr (.inl ⟨h1, hcv⟩)
            · by_cases hrq' : r ≤ q
              · exact I1.2 y r hy hrq' hr
              · rw [hF y r hy (by omega) hr hn]
                exact hI.2 y r hy hrq hr
        · rw [if_neg (by omega), hj seen hlen, hv, hcv]
          exact ⟨seen, rfl, hI, Frm.refl _ _⟩
        · rw [if_neg (by omega), hj seen hlen, hv, hcv]
          exact ⟨seen, rfl, hI, Frm.refl _ _⟩
/- the checks -/
theorem in_spec (N : Nat) (v lo hi : Int) : spec_l00In.f N v lo hi = some (decide (lo ≤ v ∧ v ≤ hi)) := by
  unfold spec_l00In.f
  by_cases h : lo ≤ v
  · rw [if_pos h]; by_cases h2 : v ≤ hi <;> simp [h, h2]
  · rw [if_neg h]; simp [h]
theorem in_impl (N : Nat) (v lo hi : Int) : impl_within.f N v lo hi = some (decide (lo ≤ v ∧ v ≤ hi)) := by
  unfold impl_within.f
  by_cases h : lo ≤ v
  · rw [if_pos h]; by_cases h2 : v ≤ hi <;> simp [h, h2]
  · rw [if_neg h]; simp [h]
theorem rounds_alls {ρ : Type} {b : Int → Option (Bd ρ Unit Int)} {p : Nat → Prop} [DecidablePred p] {n : Nat} {r : ρ} (hs : ∀ i : Nat, i < n → b (i : Int) = if p i then some (.next ((i + 1 : Nat) : Int)) else some (.out (.ret r))) (he : b (n : Int) = some (.out (.go ()))) {N : Nat} (hN : n < N) :
    ((∀ i, i < n → p i) ∧ rounds b N 0 = some (.go ())) ∨ ((¬ ∀ i, i < n → p i) ∧ rounds b N 0 = some (.ret r)) := by
  have main : ∀ (m k : Nat), k ≤ n → n - k < m → ((∀ i, k ≤ i → i < n → p i) ∧ rounds b m (k : Int) = some (.go ())) ∨ ((¬ ∀ i, k ≤ i → i < n → p i) ∧ rounds b m (k : Int) = some (.ret r)) := by
    intro m
    induction m with
    | zero => intro k _ h; exact absurd h (Nat.not_lt_zero _)
    | succ m ih =>
      intro k hk hm
      by_cases hl : k < n
      · by_cases hp : p k
        · have hnx := rounds_next (n := m) ((hs k hl).trans (if_pos hp))
          rcases ih (k + 1) (by omega) (by omega) with ⟨h1, h2⟩ | ⟨h1, h2⟩
          · refine .inl ⟨fun i a c => ?_, hnx.trans h2⟩
            by_cases e : i = k
            · subst e; exact hp
            · exact h1 i (by omega) c
          · exact .inr ⟨fun g => h1 fun i a c => g i (by omega) c, hnx.trans h2⟩
        · exact .inr ⟨fun g => hp (g k (Nat.le_refl _) hl), rounds_out ((hs k hl).trans (if_neg hp))⟩
      · obtain rfl : k = n := by omega
        exact .inl ⟨fun i a c => absurd c (by omega), rounds_out he⟩
  rcases main N 0 (Nat.zero_le _) (by omega) with ⟨h1, h2⟩ | ⟨h1, h2⟩
  · exact .inl ⟨fun i hi => h1 i (Nat.zero_le _) hi, h2⟩
  · exact .inr ⟨fun g => h1 fun i _ hi => g i hi, h2⟩
abbrev pV (L : Int) (x : S4) (i : Nat) : Prop := (0 ≤ x.get (i : Int) 0 ∧ x.get (i : Int) 0 ≤ 60) ∧ ((i : Int) > L → x.get (i : Int) 0 = 0)
theorem vb_spec {N : Nat} {L : Int} {x : S4} {i : Nat} (hi : i < 4) : spec_l06Valid.b0 N x L (i : Int) = if pV L x i then some (.next ((i + 1 : Nat) : Int)) else some (.out (.ret false)) := by
  have w : i64w ((i : Int) + 1) = ((i + 1 : Nat) : Int) := i64w_id (by omega) (by omega)
  unfold spec_l06Valid.b0 spec_l06Valid.j2
  rw [if_pos (by omega), if_pos ⟨by omega, by omega⟩, in_spec, Option.bind_some, w]
  by_cases h1 : 0 ≤ x.get (i : Int) 0 ∧ x.get (i : Int) 0 ≤ 60
  · rw [decide_eq_true h1, if_pos rfl]
    by_cases h2 : (i : Int) > L
    · rw [if_pos h2, if_pos ⟨by omega, by omega⟩]
      by_cases h3 : x.get (i : Int) 0 = 0
      · rw [if_pos h3, if_pos ⟨h1, fun _ => h3⟩]
      · rw [if_neg h3, if_neg (fun g => h3 (g.2 h2))]
    · rw [if_neg h2, if_pos ⟨h1, fun g => absurd g h2⟩]
  · rw [decide_eq_false h1, if_neg Bool.false_ne_true, if_neg (fun g => h1 g.1)]
theorem vb_impl {N : Nat} {L : Int} {x : S4} {i : Nat} (hi : i < 4) : impl_ValidState.b0 N x L (i : Int) = if pV L x i then some (.next ((i + 1 : Nat) : Int)) else some (.out (.ret false)) := by
  have w : i64w ((i : Int) + 1) = ((i + 1 : Nat) : Int) := i64w_id (by omega) (by omega)
  unfold impl_ValidState.b0 impl_ValidState.j2
  rw [if_pos (by omega), if_pos ⟨by omega, by omega⟩, in_impl, Option.bind_some, w]
  by_cases h1 : 0 ≤ x.get (i : Int) 0 ∧ x.get (i : Int) 0 ≤ 60
  · rw [decide_eq_true h1, if_pos rfl]
    by_cases h2 : (i : Int) > L
    · rw [if_pos h2]
      by_cases h3 : x.get (i : Int) 0 = 0
      · rw [if_pos h3, if_pos ⟨h1, fun _ => h3⟩]
      · rw [if_neg h3, if_neg (fun g => h3 (g.2 h2))]
    · rw [if_neg h2, if_pos ⟨h1, fun g => absurd g h2⟩]
  · rw [decide_eq_false h1, if_neg Bool.false_ne_true, if_neg (fun g => h1 g.1)]
theorem valid_same {N : Nat} (hN : 5 < N) (L : Int) (x : S4) : ∃ b, spec_l06Valid.f N L x = some b ∧ impl_ValidState.f N L x = some b ∧ (b = true → (0 ≤ L ∧ L ≤ 3) ∧ ∃ q : Q4, x = sq q ∧ tot q ≤ 60) := by
  unfold spec_l06Valid.f impl_ValidState.f
  rw [in_spec, in_impl, Option.bind_some, Option.bind_some]
  by_cases h : 0 ≤ L ∧ L ≤ 3
  · rw [decide_eq_true h, if_pos rfl, if_pos rfl]
    have es : spec_l06Valid.b0 N x L ((4 : Nat) : Int) = some (.out (.go ())) := by unfold spec_l06Valid.b0; rw [if_neg (by omega)]
    have ei : impl_ValidState.b0 N x L ((4 : Nat) : Int) = some (.out (.go ())) := by unfold impl_ValidState.b0; rw [if_neg (by omega)]
    rcases rounds_alls (b := fun s => spec_l06Valid.b0 N x L s) (p := pV L x) (fun i hi => vb_spec hi) es (N := N) (by omega) with ⟨a1, a2⟩ | ⟨a1, a2⟩
    · rcases rounds_alls (b := fun s => impl_ValidState.b0 N x L s) (p := pV L x) (fun i hi => vb_impl hi) ei (N := N) (by omega) with ⟨_, b2⟩ | ⟨b1, _⟩
      · rw [a2, b2]
        obtain ⟨y0, y1, y2, y3, rfl⟩ := ar4' x
        have p0 : 0 ≤ y0 ∧ y0 ≤ 60 := (a1 0 (by omega)).1
        have p1 : 0 ≤ y1 ∧ y1 ≤ 60 := (a1 1 (by omega)).1
        have p2 : 0 ≤ y2 ∧ y2 ≤ 60 := (a1 2 (by omega)).1
        have p3 : 0 ≤ y3 ∧ y3 ≤ 60 := (a1 3 (by omega)).1
        obtain ⟨z0, rfl⟩ := Int.eq_ofNat_of_zero_le p0.1
        obtain ⟨z1, rfl⟩ := Int.eq_ofNat_of_zero_le p1.1
        obtain ⟨z2, rfl⟩ := Int.eq_ofNat_of_zero_le p2.1
        obtain ⟨z3, rfl⟩ := Int.eq_ofNat_of_zero_le p3.1
        have s1 : spec_l06Total.f N (SI z0 z1 z2 z3) = some ((z0 + z1 + z2 + z3 : Nat) : Int) := sum_spec N (by omega)
        have s2 : _impl_State_sum.f N (SI z0 z1 z2 z3) = some ((z0 + z1 + z2 + z3 : Nat) : Int) := sum_impl N (by omega)
        refine ⟨decide (((z0 + z1 + z2 + z3 : Nat) : Int) ≤ 60), ?_, ?_, fun g => ⟨h, (z0, z1, z2, z3), rfl, ?_⟩⟩
        · show spec_l06Valid.a0 N (SI z0 z1 z2 z3) = _
          unfold spec_l06Valid.a0
          rw [s1]; rfl
        · show impl_ValidState.a0 N (SI z0 z1 z2 z3) = _
          unfold impl_ValidState.a0
          rw [s2]; rfl
        · have := of_decide_eq_true g
          show z0 + z1 + z2 + z3 ≤ 60
          omega
      · exact absurd a1 b1
    · rcases rounds_alls (b := fun s => impl_ValidState.b0 N x L s) (p := pV L x) (fun i hi => vb_impl hi) ei (N := N) (by omega) with ⟨b1, _⟩ | ⟨_, b2⟩
      · exact absurd b1 a1
      · rw [a2, b2]
        exact ⟨false, rfl, rfl, fun g => by cases g⟩
  · rw [decide_eq_false h, if_neg Bool.false_ne_true, if_neg Bool.false_ne_true]
    exact ⟨false, rfl, rfl, fun g => by cases g⟩
/-- Both begin alike: with a code, or with a state that is searched. -/
theorem start_same {N : Nat} (hN : 5 < N) (L : Int) (x : S4) (k : Int) : (∃ c, ¬ c = 0 ∧ spec_l06Start.f N L x k = some (none, c) ∧ impl_exactCode.f N L x k = some c) ∨
    (spec_l06Start.f N L x k = some (some ⟨L, List.replicate 137781 0⟩, 0) ∧ impl_exactCode.f N L x k = some 0 ∧ (0 ≤ k ∧ k ≤ 20) ∧ (0 ≤ L ∧ L ≤ 3) ∧ ∃ q : Q4, x = sq q ∧ tot q ≤ 8) := by
  obtain ⟨b, e1, e2, hb⟩ := valid_same hN L x
  unfold spec_l06Start.f impl_exactCode.f
  rw [e1, e2, Option.bind_some, Option.bind_some]
  cases b with
  | false => exact .inl ⟨1, by decide, by rw [if_neg Bool.false_ne_true], by rw [if_neg Bool.false_ne_true]⟩
  | true =>
    obtain ⟨hL, q, rfl, hq⟩ := hb rfl
    rw [if_pos rfl, if_pos rfl, in_spec, in_impl, Option.bind_some, Option.bind_some]
    by_cases hk : 0 ≤ k ∧ k ≤ 20
    · rw [decide_eq_true hk, if_pos rfl, if_pos rfl, show spec_l06Total.f N (sq q) = some ((tot q : Nat) : Int) from sum_spec N (by unfold tot at hq; omega), show _impl_State_sum.f N (sq q) = some ((tot q : Nat) : Int) from sum_impl N (by unfold tot at hq; omega), Option.bind_some, Option.bind_some]
      by_cases h8 : tot q ≤ 8
      · rw [if_neg (by omega), if_pos ⟨by decide, by decide⟩, decide_eq_true (show ((tot q : Nat) : Int) ≤ 8 by omega)]
        exact .inr ⟨rfl, rfl, hk, hL, q, rfl, h8⟩
      · rw [if_pos (by omega), decide_eq_false (show ¬ ((tot q : Nat) : Int) ≤ 8 by omega)]
        exact .inl ⟨3, by decide, rfl, rfl⟩
    · rw [decide_eq_false hk, if_neg Bool.false_ne_true, if_neg Bool.false_ne_true]
      exact .inl ⟨2, by decide, rfl, rfl⟩
theorem inv_start (L : Nat) : InvS L 20 (List.replicate 137781 0) := by
  refine ⟨List.length_replicate, fun y r hy _ hr => .inl ?_⟩
  rw [List.getD_eq_getElem?_getD, List.getElem?_replicate]
  split <;> rfl
theorem invM_nil (L : Nat) : InvM L [] := fun p hp => by cases hp
end Go.Proofs.YtfnfoecocicigaaX
