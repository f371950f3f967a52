/- The first weight that is not needed, plainly. -/
import Derived.Test.YtekcbhgojjdcoaaYD
namespace Go.Proofs.YtekcbhgojjdcoaaX
open Go
set_option linter.unusedVariables false
set_option linter.unusedSimpArgs false
section
variable {w : List Int} {N : Nat}
/-- Each mass from 1 to most is balanced. -/
def full (both : Bool) (w : List Int) (most : Int) : Prop := ∀ m : Nat, 1 ≤ m → (m : Int) ≤ most → bd (loOf both) (LOf both) w 0 (m : Int) ≠ none
theorem missing_eq (h : OkW w) (hN : 5000 < N) (both : Bool) {most : Int} (h1 : 1 ≤ most) (h2 : most ≤ 2000) : ∃ l, spec_l01Missing.f N w most both = some l ∧ ((l.length : Int) = 0 ↔ full both w most) := by
  obtain ⟨X, x1, x2⟩ := table_eq (N := N) h hN both
  have xl := x2.len
  have xr' : (rdL X 0 []).length = 4001 := x2.row 0 (Nat.zero_le _)
  have xv : ∀ m : Nat, m ≤ 2000 → rdL (rdL X 0 []) ((2000 + m : Nat) : Int) 0 = vi (bd (loOf both) (LOf both) w 0 (m : Int)) := by
    intro m hm
    have xv := x2.val 0 (Nat.zero_le _) (2000 + m) (by omega)
    have xf : Frw (loOf both) (LOf both) w 0 0 (2000 + m) = bd (loOf both) (LOf both) w 0 (m : Int) := by
      unfold Frw bdn
      rw [if_pos (Nat.le_refl _)]
      congr 1
      omega
    rw [xf] at xv
    exact xv
  have main : ∀ (M k : Nat) (l : List Int), 1 ≤ k → (k : Int) ≤ most + 1 → most + 1 - k < M → l.length < k → ((l.length : Int) = 0 ↔ full both w ((k : Int) - 1)) →
      ∃ l', rounds (fun s => spec_l01Missing.b0 N most X s.1 s.2) M (l, (k : Int)) = some (.go l') ∧ ((l'.length : Int) = 0 ↔ full both w most) := by
    intro M
    induction M with
    | zero => intro k l _ _ g; omega
    | succ M ih =>
      intro k l k1 k2 k3 k4 k5
      by_cases c : (k : Int) ≤ most
      · have e1 : i64w (2000 + (k : Int)) = ((2000 + k : Nat) : Int) := by rw [i64w_id (by omega) (by omega)]; omega
        have e2 : i64w ((k : Int) + 1) = ((k + 1 : Nat) : Int) := i64w_id (by omega) (by omega)
        have ek : (((k + 1 : Nat) : Int) - 1) = (k : Int) := by omega
        have hx := xv k (by omega)
        cases e : bd (loOf both) (LOf both) w 0 (k : Int) with
        | none =>
          have hb : spec_l01Missing.b0 N most X l (k : Int) = some (.next (l ++ [(k : Int)], ((k + 1 : Nat) : Int))) := by
            unfold spec_l01Missing.b0 spec_l01Missing.j2
            rw [if_pos c, if_pos ⟨by omega, by omega⟩, e1, if_pos ⟨by omega, by omega⟩, hx, e, if_pos (by decide), if_pos (by simp; omega), e2]
          rw [rounds_next (show (fun s : List Int × Int => spec_l01Missing.b0 N most X s.1 s.2) (l, (k : Int)) = _ from hb)]
          refine ih (k + 1) _ (by omega) (by omega) (by omega) (by simp; omega) ⟨fun g => ?_, fun g => absurd e (g k k1 (by omega))⟩
          simp at g
          omega
        | some v =>
          have hb : spec_l01Missing.b0 N most X l (k : Int) = some (.next (l, ((k + 1 : Nat) : Int))) := by
            unfold spec_l01Missing.b0 spec_l01Missing.j2
            rw [if_pos c, if_pos ⟨by omega, by omega⟩, e1, if_pos ⟨by omega, by omega⟩, hx, e, if_neg (by simp only [vi]; omega), e2]
          rw [rounds_next (show (fun s : List Int × Int => spec_l01Missing.b0 N most X s.1 s.2) (l, (k : Int)) = _ from hb)]
          refine ih (k + 1) _ (by omega) (by omega) (by omega) (by omega) (k5.trans ⟨fun g m m1 m2 => ?_, fun g m m1 m2 => g m m1 (by omega)⟩)
          by_cases cm : m = k
          · subst cm; rw [e]; exact fun z => by cases z
          · exact g m m1 (by omega)
      · have hb : spec_l01Missing.b0 N most X l (k : Int) = some (.out (.go l)) := by
          unfold spec_l01Missing.b0
          rw [if_neg c]
        refine ⟨l, rounds_out hb, ?_⟩
        have : (k : Int) - 1 = most := by omega
        rw [← this]
        exact k5
  obtain ⟨l', m1, m2⟩ := main N 1 [] (by omega) (by omega) (by omega) (by simp) ⟨fun _ m a b => by omega, fun _ => rfl⟩
  refine ⟨l', ?_, m2⟩
  unfold spec_l01Missing.f
  rw [x1, Option.bind_some, show rounds (fun s => spec_l01Missing.b0 N most X s.1 s.2) N (([] : List Int), 1) = _ from m1]
  rfl
theorem upTo_all (h : OkW w) (hN : 5000 < N) (both : Bool) {Q : Int → Prop} (hQ : ∀ r : Int, (∀ most : Int, 1 ≤ most → (r ≥ most ↔ full both w most)) → Q r) : _impl_Weights_upTo.f N w both Q := by
  unfold _impl_Weights_upTo.f _impl_Weights_weighed.f
  refine balances_all (N := N) h hN both fun xs r => ?_
  have rl := r.len
  obtain ⟨kv, k1, k2⟩ := r.row 0 (Nat.le_refl _) (Nat.zero_le _)
  have k1' : rdL xs 0 none = some kv := k1
  rw [if_pos ⟨by omega, by omega⟩, if_pos (by rw [k1']; rfl), show (rdL xs 0 none).getD [] = kv by rw [k1']; rfl]
  have main : ∀ (M k : Nat), k ≤ 2000 → 2000 - k < M → full both w (k : Int) → roundsD (fun s => _impl_Weights_upTo.b0 N s.1 s.2) M (kv, (k : Int)) (Ex.finD (fun s => _impl_Weights_upTo.a0 N s Q) Q) := by
    intro M
    induction M with
    | zero => intro k _ g; omega
    | succ M ih =>
      intro k hk hM ha
      have e1 : i64w ((k : Int) + 1) = ((k + 1 : Nat) : Int) := i64w_id (by omega) (by omega)
      show _impl_Weights_upTo.b0 N kv (k : Int) _
      unfold _impl_Weights_upTo.b0
      rw [e1]
      refine ⟨_, rfl, ?_⟩
      dsimp only
      cases e : bd (loOf both) (LOf both) w 0 ((k + 1 : Nat) : Int) with
      | none =>
        rw [if_neg (k2.at_none e)]
        refine hQ (k : Int) fun most hm => ⟨fun g m m1 m2 => ha m m1 (by omega), fun g => ?_⟩
        apply Classical.byContradiction
        intro c
        exact g (k + 1) (by omega) (by omega) e
      | some v =>
        rw [if_pos (k2.at_some e z_S_impl_balance).1]
        have := bd_range h (sdOf both) e
        refine ih (k + 1) (by omega) (by omega) fun m m1 m2 => ?_
        by_cases cm : m = k + 1
        · subst cm; rw [e]; exact fun z => by cases z
        · exact ha m m1 (by omega)
  exact main N 0 (by omega) (by omega) fun m a b => by omega
/-- The weights with one left out. -/
def less (w : List Int) (i : Nat) : List Int := w.take i ++ w.drop (i + 1)
theorem less_len {i : Nat} (hi : i < w.length) : (less w i).length = w.length - 1 := by simp [less]; omega
theorem less_ok (h : OkW w) {i : Nat} (hi : i < w.length) (h1 : 1 < w.length) : OkW (less w i) := by
  have e := less_len hi
  have h16 := h.l16
  have hs := h.sum
  refine ⟨by omega, by omega, fun x hx => ?_, ?_⟩
  · rcases List.mem_append.1 hx with g | g
    · exact h.pos x (List.mem_of_mem_take g)
    · exact h.pos x (List.mem_of_mem_drop g)
  · have h0 := h.pos _ (List.getElem_mem hi)
    have e3 : w.sum = (w.take i).sum + (w.drop i).sum := by rw [← List.sum_append, List.take_append_drop]
    rw [drop_at hi, List.sum_cons] at e3
    have e4 : (less w i).sum = (w.take i).sum + (w.drop (i + 1)).sum := by simp [less, List.sum_append]
    omega
theorem need_both (h : OkW w) (hN : 5000 < N) {both : Bool} {most : Int} (h1 : 1 ≤ most) (h2 : most ≤ 2000) : ∀ (M k : Nat), k ≤ w.length → w.length - k < M →
    ∃ e : Ex (Int × Int) Unit, rounds (fun s => spec_NeedlessWeight.b0 N w most both s) M (k : Int) = some e ∧ ∀ Kf : Ex (Int × Int) Unit → Prop, Kf e → roundsD (fun s => impl_NeedlessWeight.b0 N w both most s) M (k : Int) Kf := by
  have h16 := h.l16
  intro M
  induction M with
  | zero => intro k _ g; exact absurd g (Nat.not_lt_zero _)
  | succ M ih =>
    intro k hk hM
    have e1 : i64w ((k : Int) + 1) = ((k + 1 : Nat) : Int) := i64w_id (by omega) (by omega)
    have hcl : slices_Clone_impl_Weights_int16.f N w = some w := by
      unfold slices_Clone_impl_Weights_int16.f
      rw [if_pos (by simp; omega)]
      rfl
    by_cases c : k < w.length
    · have edel : delL w (k : Int) ((k + 1 : Nat) : Int) = less w k := by simp only [delL, less, Int.toNat_natCast]
      have elen := less_len c
      by_cases c1 : 1 < w.length
      · have ho := less_ok h c c1
        obtain ⟨l, l1, l2⟩ := missing_eq (N := N) ho hN both h1 h2
        have ea : (([] : List Int) ++ ((w.drop ((0 : Int)).toNat).take (((k : Int)).toNat - ((0 : Int)).toNat))) ++ ((w.drop (((k + 1 : Nat) : Int)).toNat).take (((w.length : Int)).toNat - (((k + 1 : Nat) : Int)).toNat)) = less w k := by
          unfold less
          simp only [Int.toNat_natCast, Int.toNat_zero, List.drop_zero, Nat.sub_zero, List.nil_append]
          rw [List.take_of_length_le (l := w.drop (k + 1)) (by simp)]
        have hb : spec_NeedlessWeight.b0 N w most both (k : Int) = if (l.length : Int) = 0 then some (.out (.ret ((k : Int), 0))) else some (.next ((k + 1 : Nat) : Int)) := by
          unfold spec_NeedlessWeight.b0
          rw [if_pos (by omega), if_pos (by omega), if_pos ⟨by omega, by omega, by omega⟩, if_pos (by simp; omega), e1, if_pos ⟨by omega, by omega, by omega⟩, if_pos (by simp; omega), ea, l1, Option.bind_some]
        have hi : ∀ Q : Bd (Int × Int) Unit Int → Prop, (if (l.length : Int) = 0 then Q (.out (.ret ((k : Int), 0))) else Q (.next ((k + 1 : Nat) : Int))) → impl_NeedlessWeight.b0 N w both most (k : Int) Q := by
          intro Q hQ
          unfold impl_NeedlessWeight.b0
          rw [if_pos (by omega)]
          refine ⟨w, hcl, ?_⟩
          rw [e1, if_pos ⟨by omega, by omega, by omega, by omega⟩, edel, if_pos (by omega)]
          refine upTo_all (N := N) ho hN both fun r hr => ?_
          by_cases g : (l.length : Int) = 0
          · rw [if_pos g] at hQ
            rw [if_pos ((hr most h1).2 (l2.1 g))]
            exact hQ
          · rw [if_neg g] at hQ
            rw [if_neg (fun z => g (l2.2 ((hr most h1).1 z)))]
            unfold impl_NeedlessWeight.j2
            rw [e1]
            exact hQ
        by_cases g : (l.length : Int) = 0
        · rw [if_pos g] at hb
          refine ⟨.ret ((k : Int), 0), rounds_out hb, fun Kf hK => ?_⟩
          refine hi _ ?_
          rw [if_pos g]
          exact hK
        · rw [if_neg g] at hb
          rw [rounds_next hb]
          obtain ⟨e, f1, f2⟩ := ih (k + 1) (by omega) (by omega)
          refine ⟨e, f1, fun Kf hK => ?_⟩
          refine hi _ ?_
          rw [if_neg g]
          exact f2 Kf hK
      · have ek : k = 0 := by omega
        have en : w.length = 1 := by omega
        subst ek
        have hb : spec_NeedlessWeight.b0 N w most both ((0 : Nat) : Int) = some (.out (.go ())) := by
          unfold spec_NeedlessWeight.b0
          rw [if_pos (by omega), if_neg (by omega)]
        refine ⟨.go (), rounds_out hb, fun Kf hK => ?_⟩
        obtain ⟨M, rfl⟩ : ∃ j, M = j + 1 := ⟨M - 1, by omega⟩
        show impl_NeedlessWeight.b0 N w both most ((0 : Nat) : Int) _
        unfold impl_NeedlessWeight.b0
        rw [if_pos (by omega)]
        refine ⟨w, hcl, ?_⟩
        rw [e1, if_pos ⟨by omega, by omega, by omega, by omega⟩, edel, if_neg (by omega)]
        unfold impl_NeedlessWeight.j2
        rw [e1]
        show impl_NeedlessWeight.b0 N w both most ((0 + 1 : Nat) : Int) _
        unfold impl_NeedlessWeight.b0
        rw [if_neg (by omega)]
        exact hK
    · have hb : spec_NeedlessWeight.b0 N w most both (k : Int) = some (.out (.go ())) := by
        unfold spec_NeedlessWeight.b0
        rw [if_neg (by omega)]
      refine ⟨.go (), rounds_out hb, fun Kf hK => ?_⟩
      show impl_NeedlessWeight.b0 N w both most (k : Int) _
      unfold impl_NeedlessWeight.b0
      rw [if_neg (by omega)]
      exact hK
end
theorem toWeights_eq {N : Nat} {a : List Int} (h : a.length ≤ 1048576) (hN : a.length < N) : laws_toWeights.f N a = some a := by
  unfold laws_toWeights.f
  rw [if_pos ⟨by omega, by omega⟩, Int.toNat_natCast, rounds_copy a 0 hN ?_ ?_]
  · rfl
  · intro x i hi hx
    simp only [laws_toWeights.b0]
    rw [if_pos (by omega), if_pos ⟨by omega, by omega⟩, if_pos ⟨by omega, by omega⟩, rdL_nat hi, stL_nat, i64w_succ hi (by omega)]
  · intro x hx
    simp only [laws_toWeights.b0]
    rw [if_neg (by omega)]
theorem needIn {N : Nat} (a : Int) : spec_l00In.f N a 1 2000 = some (decide (1 ≤ a ∧ a ≤ 2000)) := by
  unfold spec_l00In.f
  by_cases c : a ≥ 1
  · rw [if_pos c]; simp [c]
  · rw [if_neg c]
    have : ¬ 1 ≤ a := c
    simp [this]
theorem laws_FnExactNeedlessWeight.told (a0 : List (Int)) (h0 : ∀ x ∈ a0, IntKind.min .i16 ≤ x ∧ x ≤ IntKind.max .i16) (l0 : a0.length ≤ 9223372036854775807) (a1 : Int) (h1 : IntKind.min .i64 ≤ a1 ∧ a1 ≤ IntKind.max .i64) (a2 : Bool) : ∃ N, laws_FnExactNeedlessWeight.f N a0 a1 a2 (fun r => r = true) := by
  refine ⟨1152921504606846976, ?_⟩
  generalize hN : 1152921504606846976 = N
  unfold laws_FnExactNeedlessWeight.f
  by_cases hl : (a0.length : Int) > 1048576
  · rw [if_pos hl]
  · rw [if_neg hl]
    have hl' : a0.length ≤ 1048576 := by omega
    have hb : ∀ x ∈ a0, -32768 ≤ x ∧ x ≤ 32767 := h0
    have tg := toWeights_eq (N := N) hl' (by omega)
    have eg := eqWeights_same (N := N) hl' (by omega)
    have key : ∃ r8 : Int × Int, spec_NeedlessWeight.f N a0 a1 a2 = some r8 ∧ ∀ Q : Int × Int → Prop, Q r8 → impl_NeedlessWeight.f N a0 a1 a2 Q := by
      obtain ⟨b, v1, v2, v3⟩ := valid_ok (N := N) hb (by omega)
      have hw2 : impl_within.f N a1 1 2000 = some (decide (1 ≤ a1 ∧ a1 ≤ 2000)) := needIn (N := N) a1
      unfold spec_NeedlessWeight.f impl_NeedlessWeight.f
      rw [v1, Option.bind_some]
      cases b with
      | false =>
        rw [if_neg Bool.false_ne_true]
        refine ⟨_, rfl, fun Q hQ => ⟨_, v2, ?_⟩⟩
        rw [if_neg Bool.false_ne_true]
        exact hQ
      | true =>
        have hw := v3 rfl
        have h16 := hw.l16
        rw [if_pos rfl, needIn, Option.bind_some]
        by_cases c : 1 ≤ a1 ∧ a1 ≤ 2000
        · rw [if_pos (decide_eq_true c)]
          obtain ⟨l, l1, l2⟩ := missing_eq (N := N) hw (by omega) a2 c.1 c.2
          rw [l1, Option.bind_some]
          by_cases g : (l.length : Int) = 0
          · rw [if_neg (by omega)]
            obtain ⟨e, f1, f2⟩ := need_both (N := N) hw (by omega) (both := a2) c.1 c.2 N 0 (Nat.zero_le _) (by omega)
            rw [show rounds (fun s => spec_NeedlessWeight.b0 N a0 a1 a2 s) N 0 = _ from f1, Option.bind_some]
            have tail : ∀ Q : Int × Int → Prop, Ex.finD (fun s => impl_NeedlessWeight.a0 N Q) Q e → impl_NeedlessWeight.f N a0 a1 a2 Q := by
              intro Q hQ
              unfold impl_NeedlessWeight.f
              refine ⟨_, v2, ?_⟩
              rw [if_pos rfl]
              refine ⟨_, hw2, ?_⟩
              rw [if_pos (decide_eq_true c)]
              refine upTo_all (N := N) hw (by omega) a2 fun r hr => ?_
              rw [if_neg (by have := (hr a1 c.1).2 (l2.1 g); omega)]
              exact f2 _ hQ
            cases e with
            | go s => exact ⟨_, rfl, fun Q hQ => tail Q hQ⟩
            | ret s => exact ⟨_, rfl, fun Q hQ => tail Q hQ⟩
          · rw [if_pos (by omega)]
            refine ⟨_, rfl, fun Q hQ => ⟨_, v2, ?_⟩⟩
            rw [if_pos rfl]
            refine ⟨_, hw2, ?_⟩
            rw [if_pos (decide_eq_true c)]
            refine upTo_all (N := N) hw (by omega) a2 fun r hr => ?_
            rw [if_pos (by
              apply Classical.byContradiction
              intro z
              exact g (l2.2 ((hr a1 c.1).1 (by omega))))]
            exact hQ
        · rw [if_neg (by simpa using c)]
          refine ⟨_, rfl, fun Q hQ => ⟨_, v2, ?_⟩⟩
          rw [if_pos rfl]
          refine ⟨_, hw2, ?_⟩
          rw [if_neg (by simpa using c)]
          exact hQ
    obtain ⟨⟨x, y⟩, k1, k2⟩ := key
    refine ⟨_, tg, _, k1, _, tg, k2 _ ?_⟩
    rw [if_pos rfl, if_pos rfl]
    refine ⟨_, tg, _, eg, ?_⟩
    rw [if_pos rfl]
end Go.Proofs.YtekcbhgojjdcoaaX
