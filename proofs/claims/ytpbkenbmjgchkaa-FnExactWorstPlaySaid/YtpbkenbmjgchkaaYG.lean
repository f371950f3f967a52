/- Games of questions and lies, plainly: a game that is played. -/
import Derived.Test.YtpbkenbmjgchkaaYF
namespace Go.Proofs.YtpbkenbmjgchkaaX
open Go
set_option linter.unusedVariables false
set_option linter.unusedSimpArgs false
theorem all_bits : ∀ n : Nat, n < 61 → ∀ i : Nat, i < 64 → (B64 ((2 : Int) ^ n - 1)).getLsbD i = decide (i < n) := by decide +kernel
theorem not_bad {n : Int} (hn : B60 n) {l : List Int} (hl : ∀ x ∈ l, 0 ≤ x ∧ x < n) (b : Bool) : bad n ⟨orAll 0 l, b⟩ = false := by
  unfold B60 at hn
  have hv : (B64 (orAll 0 l) &&& ~~~ B64 (allN n)) = 0#64 := by
    apply BitVec.eq_of_getLsbD_eq
    intro i hi
    rw [BitVec.getLsbD_and, BitVec.getLsbD_not, orAll_bits l 0 (fun x hx => by have := hl x hx; omega) i hi]
    have hz : (B64 0).getLsbD i = false := by simp [B64]
    have ha := all_bits n.toNat (by omega) i hi
    unfold allN
    rw [hz, ha]
    by_cases c : (i : Int) ∈ l
    · have := hl _ c
      have h2 : i < n.toNat := by omega
      simp [h2]
    · have : l.contains (i : Int) = false := by simpa using c
      rw [this]
      simp
  unfold bad
  have e : bAndNot .u64 (orAll 0 l) (allN n) = u64w (((B64 (orAll 0 l) &&& ~~~ B64 (allN n)).toNat : Nat) : Int) := rfl
  rw [e, hv]
  rfl
/-- What both sides ask next, within the numbers. -/
theorem next_set {N : Nat} {G : Ga} (hG : InG G) (hN : 70 < N) (hk : okG G = true) : ∃ x q s, spec_l06State.f N G = some x ∧ spec_l06Half.f N x = some q ∧ spec_l06Set.f N G q = some s ∧ impl_NextSet.f N G = some (s, 0) ∧ ∀ b, bad G.f_Numbers ⟨s, b⟩ = false := by
  have h := okG_iff hk
  have hn := h.n60
  have hn' := hn
  unfold B60 at hn
  obtain ⟨r, e1, e2, hr⟩ := half_both (N := N) hN (x := arS G (nG G)) (arS_range G (by unfold nG; omega))
  obtain ⟨s, e3, e4⟩ := set_same h hN hr
  have hx := arS_range G (k := nG G) (by unfold nG; omega)
  have e5 := set_spec h hN (q := r) (fun j hj => by have := hr j hj; have := hx j hj; omega)
  have es : s = orAll 0 (inc G r (nG G)) := Option.some.inj (e3.symm.trans e5)
  refine ⟨_, _, _, state_spec h hN, e1, e3, ?_, fun b => ?_⟩
  · simp only [impl_NextSet.f, G_eta, okG_impl hG hN, if_pos hk, state_impl h hN, Option.bind_some, e2, e4]
  · rw [es]
    exact not_bad hn' (fun x hx => by have := inc_mem_range hx; unfold nG at this; omega) b
theorem six_tab : ∀ a : Nat, a < 64 → u64w (bAnd .i64 (a : Int) 63) = (a : Int) := by decide +kernel
theorem within_eq (N : Nat) (a b c : Int) : impl_within.f N a b c = some (decide (b ≤ a ∧ a ≤ c)) := by
  unfold impl_within.f
  by_cases h : b ≤ a
  · rw [if_pos h]
    simp [h]
  · rw [if_neg h]
    simp [h]
theorem l00In_eq (N : Nat) (a b c : Int) : spec_l00In.f N a b c = some (decide (b ≤ a ∧ a ≤ c)) := within_eq N a b c
theorem answer_both {N : Nat} {s m : Int} (hm : 0 ≤ m ∧ m ≤ 63) (w : Bool) : ∃ b, impl_AnswerTo.f N s m w = some b ∧ spec_AnswerTo.f N s m w = some b := by
  have e1 : mxI m 0 = m := by unfold mxI; rw [if_neg (by omega)]
  have e2 : u64w (bAnd .i64 m 63) = m := by
    have := six_tab m.toNat (by omega)
    rwa [Int.toNat_of_nonneg hm.1] at this
  simp only [impl_AnswerTo.f, spec_AnswerTo.f, within_eq, l00In_eq, decide_eq_true hm, Option.bind_some, if_true, e1, e2, if_pos hm.1]
  exact ⟨_, rfl, rfl⟩
theorem with_both {N : Nat} {G : Ga} (hl : G.f_Asked.length ≤ 60) (s : Int) (b : Bool) : _impl_Game_with.f N G s b = some ⟨G.f_Numbers, G.f_Lies, G.f_Asked ++ [⟨s, b⟩]⟩ ∧ spec_l06With.f N G s b = some ⟨G.f_Numbers, G.f_Lies, G.f_Asked ++ [⟨s, b⟩]⟩ := by
  have g1 : ([] : List As_).length + G.f_Asked.length ≤ 8796093022208 := by simp; omega
  have g2 : (G.f_Asked.length + ([(⟨s, b⟩ : As_)]).length) ≤ 8796093022208 := by simp; omega
  constructor
  · simp only [_impl_Game_with.f, slices_Clone_impl_Ask_impl_Ask.f, if_pos g1, Option.bind_some, List.nil_append, if_pos g2]
  · simp only [spec_l06With.f, if_pos g1, List.nil_append, if_pos g2]
def okP (n l : Int) : Bool := decide (1 ≤ n ∧ n ≤ 60) && decide (0 ≤ l ∧ l ≤ 3)
theorem game_impl (N : Nat) (n l : Int) : impl_isGame.f N n l = some (okP n l) := by
  unfold okP
  simp only [impl_isGame.f, within_eq, Option.bind_some]
  by_cases c : 1 ≤ n ∧ n ≤ 60
  · simp [c]
  · simp [c]
theorem game_spec (N : Nat) (n l : Int) : spec_l06Begin.f N n l = some (okP n l) := game_impl N n l
/-- Both sides play alike. -/
theorem play_both {N : Nat} (hN : 200 < N) {n l m : Int} (hn : 1 ≤ n ∧ n ≤ 60) (hl : 0 ≤ l ∧ l ≤ 3) (hm : 0 ≤ m ∧ m ≤ 63) (ws : List Bool) :
    ∃ r : Ga × Int × Int, spec_l06Play.f N n l m ws = some r ∧ ((rounds (fun s => impl_PlayGame.b0 N ws m s.1 s.2.1 s.2.2.1 s.2.2.2) N (i8w n, i8w l, [], 0)).bind (Ex.fin fun s => impl_PlayGame.a0 N)) = some r ∧ r.1.f_Asked.length ≤ 60 := by
  have e8n : i8w n = n := i8w_id (by omega) (by omega)
  have e8l : i8w l = l := i8w_id (by omega) (by omega)
  obtain ⟨e, e', h1, h2, h3⟩ := rounds_both (b := fun s => spec_l06Play.b0 N ws m s.1 s.2.1 s.2.2) (b' := fun s => impl_PlayGame.b0 N ws m s.1 s.2.1 s.2.2.1 s.2.2.2)
    (fun s s' => ∃ A : List As_, s = (n, l, A) ∧ s' = (n, l, A, (A.length : Int)) ∧ A.length ≤ 60 ∧ okG ⟨n, l, A⟩ = true) (fun s => 60 - s.2.2.length)
    (fun e e' => ∃ r : Ga × Int × Int, e = .ret r ∧ e' = .ret r ∧ r.1.f_Asked.length ≤ 60) (by
    rintro s s' ⟨A, rfl, rfl, hA, hk⟩
    have hG : InG (⟨n, l, A⟩ : Ga) := ⟨⟨by show -128 ≤ n; omega, by show n ≤ 127; omega⟩, ⟨by show -128 ≤ l; omega, by show l ≤ 127; omega⟩⟩
    have h := okG_iff hk
    have fs := found_spec (N := N) h (by omega)
    have fi := cand_impl (N := N) h (by omega)
    by_cases c0 : (cd (⟨n, l, A⟩ : Ga) (nG ⟨n, l, A⟩)).length = 0
    · left
      rw [if_pos c0] at fs
      simp only [spec_l06Play.b0, impl_PlayGame.b0, fs, fi, Option.bind_some, if_pos (show ((cd (⟨n, l, A⟩ : Ga) (nG ⟨n, l, A⟩)).length : Int) = 0 by omega), if_neg (show ¬ ((8 : Int) = 0) by decide), if_true]
      exact ⟨_, _, rfl, rfl, _, rfl, rfl, by simp⟩
    · rw [if_neg c0] at fs
      by_cases c1 : (cd (⟨n, l, A⟩ : Ga) (nG ⟨n, l, A⟩)).length = 1
      · left
        rw [if_pos c1] at fs
        simp only [spec_l06Play.b0, impl_PlayGame.b0, fs, fi, Option.bind_some, if_neg (show ¬ ((cd (⟨n, l, A⟩ : Ga) (nG ⟨n, l, A⟩)).length : Int) = 0 by omega), if_pos (show ((cd (⟨n, l, A⟩ : Ga) (nG ⟨n, l, A⟩)).length : Int) = 1 by omega), if_pos (show (0 : Int) ≤ 0 ∧ 0 < ((cd (⟨n, l, A⟩ : Ga) (nG ⟨n, l, A⟩)).length : Int) by omega), if_true]
        exact ⟨_, _, rfl, rfl, _, rfl, rfl, hA⟩
      · rw [if_neg c1] at fs
        by_cases c2 : A.length = 60
        · left
          simp only [spec_l06Play.b0, impl_PlayGame.b0, fs, fi, Option.bind_some, if_neg (show ¬ ((cd (⟨n, l, A⟩ : Ga) (nG ⟨n, l, A⟩)).length : Int) = 0 by omega), if_neg (show ¬ ((cd (⟨n, l, A⟩ : Ga) (nG ⟨n, l, A⟩)).length : Int) = 1 by omega), if_neg (show ¬ ((4 : Int) = 0) by decide), if_neg (show ¬ ((4 : Int) = 8) by decide), if_pos (show (A.length : Int) = 60 by omega)]
          exact ⟨_, _, rfl, rfl, _, rfl, rfl, by simp⟩
        · right
          obtain ⟨x, q, s, t1, t2, t3, t4, hb⟩ := next_set (N := N) hG (by omega) hk
          have hok : ∀ b, okG (⟨n, l, A ++ [⟨s, b⟩]⟩ : Ga) = true := by
            intro b
            have hbb := hb b
            unfold okG at hk ⊢
            simp only [Bool.and_eq_true, decide_eq_true_eq] at hk ⊢
            refine ⟨hk.1, hk.2.1, by simp; omega, ?_⟩
            rw [List.any_append]
            have := hk.2.2.2
            simp only [Bool.not_eq_true', Bool.or_eq_false_iff, List.any_cons, List.any_nil, Bool.or_false] at this ⊢
            exact ⟨this, hbb⟩
          have hnext : i64w ((A.length : Int) + 1) = ((A.length + 1 : Nat) : Int) := by rw [i64w_id (by omega) (by omega)]; omega
          have fin : ∀ b, ∃ t t' : _, spec_l06Play.j2 N n l (A ++ [(⟨s, b⟩ : As_)]) = some (.next t) ∧ impl_PlayGame.j2 N (A.length : Int) n l (A ++ [(⟨s, b⟩ : As_)]) = some (.next t') ∧
              (∃ B : List As_, t = (n, l, B) ∧ t' = (n, l, B, (B.length : Int)) ∧ B.length ≤ 60 ∧ okG ⟨n, l, B⟩ = true) ∧ 60 - t.2.2.length < 60 - A.length := by
            intro b
            refine ⟨_, _, rfl, rfl, ⟨A ++ [⟨s, b⟩], rfl, by rw [hnext]; simp, by simp; omega, hok b⟩, by simp; omega⟩
          by_cases c3 : (A.length : Int) < (ws.length : Int)
          · obtain ⟨b, a1, a2⟩ := answer_both (N := N) (s := s) hm (rdL ws (A.length : Int) false)
            obtain ⟨w1, w2⟩ := with_both (N := N) (G := ⟨n, l, A⟩) hA s b
            simp only [spec_l06Play.b0, impl_PlayGame.b0, fs, fi, Option.bind_some, if_neg (show ¬ ((cd (⟨n, l, A⟩ : Ga) (nG ⟨n, l, A⟩)).length : Int) = 0 by omega), if_neg (show ¬ ((cd (⟨n, l, A⟩ : Ga) (nG ⟨n, l, A⟩)).length : Int) = 1 by omega), if_neg (show ¬ ((4 : Int) = 0) by decide), if_neg (show ¬ ((4 : Int) = 8) by decide), if_neg (show ¬ (A.length : Int) = 60 by omega), t1, t2, t3, t4, if_pos c3, if_pos (show (0 : Int) ≤ (A.length : Int) ∧ (A.length : Int) < (ws.length : Int) from ⟨by omega, c3⟩), a1, a2, w1, w2]
            exact fin b
          · obtain ⟨b, a1, a2⟩ := answer_both (N := N) (s := s) hm false
            obtain ⟨w1, w2⟩ := with_both (N := N) (G := ⟨n, l, A⟩) hA s b
            simp only [spec_l06Play.b0, impl_PlayGame.b0, fs, fi, Option.bind_some, if_neg (show ¬ ((cd (⟨n, l, A⟩ : Ga) (nG ⟨n, l, A⟩)).length : Int) = 0 by omega), if_neg (show ¬ ((cd (⟨n, l, A⟩ : Ga) (nG ⟨n, l, A⟩)).length : Int) = 1 by omega), if_neg (show ¬ ((4 : Int) = 0) by decide), if_neg (show ¬ ((4 : Int) = 8) by decide), if_neg (show ¬ (A.length : Int) = 60 by omega), t1, t2, t3, t4, if_neg c3, a1, a2, w1, w2]
            exact fin b) N N (n, l, []) (n, l, [], 0) ⟨[], rfl, rfl, by simp, by
      unfold okG
      have hB : B60 n := hn
      simp [hB, hl]⟩ (by simp; omega) (by simp; omega)
  obtain ⟨r, rfl, rfl, hr⟩ := h3
  refine ⟨r, ?_, ?_, hr⟩
  · simp only [spec_l06Play.f, e8n, e8l, h1, Option.bind_some, Ex.fin]
  · simp only [e8n, e8l, h2, Option.bind_some, Ex.fin]
theorem Play_same {N : Nat} (hN : 200 < N) {n l m : Int} (ws : List Bool) : ∃ r : Ga × Int × Int, spec_PlayGame.f N n l m ws = some r ∧ impl_PlayGame.f N n l m ws = some r ∧ r.1.f_Asked.length ≤ 60 := by
  simp only [spec_PlayGame.f, impl_PlayGame.f, game_spec, game_impl, Option.bind_some]
  by_cases c : okP n l = true
  · have hc := c
    unfold okP at hc
    simp only [Bool.and_eq_true, decide_eq_true_eq] at hc
    simp only [if_pos c, i64w_id (x := n - 1) (by omega) (by omega), within_eq, l00In_eq, Option.bind_some]
    by_cases d : 0 ≤ m ∧ m ≤ n - 1
    · obtain ⟨r, e1, e2, hr⟩ := play_both (N := N) hN hc.1 hc.2 (m := m) (by omega) ws
      simp only [decide_eq_true d, if_true, e1, e2, Option.bind_some]
      exact ⟨r, rfl, rfl, hr⟩
    · simp only [decide_eq_false d, Bool.false_eq_true, if_false]
      exact ⟨_, rfl, rfl, by simp⟩
  · simp only [if_neg c]
    exact ⟨_, rfl, rfl, by simp⟩
theorem Worst_same {N : Nat} (hN : 200 < N) {n l : Int} : ∃ r : Int × Int × Int, spec_WorstPlay.f N n l = some r ∧ impl_WorstPlay.f N n l = some r := by
  simp only [spec_WorstPlay.f, impl_WorstPlay.f, game_spec, game_impl, Option.bind_some]
  by_cases c : okP n l = true
  · have hc := c
    unfold okP at hc
    simp only [Bool.and_eq_true, decide_eq_true_eq] at hc
    obtain ⟨e, e', h1, h2, h3⟩ := rounds_both (b := fun s => spec_WorstPlay.b0 N n l s.1 s.2.1 s.2.2) (b' := fun s => impl_WorstPlay.b0 N n l s.1 s.2.1 s.2.2)
      (fun s s' => s = s' ∧ 0 ≤ s.2.2 ∧ s.2.2 ≤ n) (fun s => (n - s.2.2).toNat) (fun e e' => e = e') (by
      rintro ⟨x, y, i⟩ s' ⟨rfl, i0, i1⟩
      simp only at i0 i1
      by_cases ci : i < n
      · obtain ⟨r, e1, e2, hr⟩ := play_both (N := N) hN hc.1 hc.2 (m := i) (by omega) ([] : List Bool)
        have e3 : impl_PlayGame.f N n l i [] = some r := by
          simp only [impl_PlayGame.f, game_impl, Option.bind_some, if_pos c, i64w_id (x := n - 1) (by omega) (by omega), within_eq, decide_eq_true (show 0 ≤ i ∧ i ≤ n - 1 by omega), if_true, e2]
        by_cases d : r.2.2 = 0
        · right
          by_cases d2 : (r.1.f_Asked.length : Int) > y
          · simp only [spec_WorstPlay.b0, impl_WorstPlay.b0, if_pos ci, e1, e3, Option.bind_some, if_pos d, impl_size_impl_Ask.f, if_pos d2, spec_WorstPlay.j2, impl_WorstPlay.j2, i64w_id (x := i + 1) (by omega) (by omega)]
            exact ⟨_, _, rfl, rfl, ⟨rfl, by dsimp only; omega, by dsimp only; omega⟩, by dsimp only; omega⟩
          · simp only [spec_WorstPlay.b0, impl_WorstPlay.b0, if_pos ci, e1, e3, Option.bind_some, if_pos d, impl_size_impl_Ask.f, if_neg d2, spec_WorstPlay.j2, impl_WorstPlay.j2, i64w_id (x := i + 1) (by omega) (by omega)]
            exact ⟨_, _, rfl, rfl, ⟨rfl, by dsimp only; omega, by dsimp only; omega⟩, by dsimp only; omega⟩
        · left
          simp only [spec_WorstPlay.b0, impl_WorstPlay.b0, if_pos ci, e1, e3, Option.bind_some, if_neg d]
          exact ⟨_, _, rfl, rfl, rfl⟩
      · left
        simp only [spec_WorstPlay.b0, impl_WorstPlay.b0, if_neg ci]
        exact ⟨_, _, rfl, rfl, rfl⟩) N N (0, (-1), 0) (0, (-1), 0) ⟨rfl, by simp, by simp; omega⟩ (by simp; omega) (by simp; omega)
    subst h3
    simp only [if_pos c, h1, h2, Option.bind_some]
    cases e with
    | ret r => exact ⟨_, rfl, rfl⟩
    | go s => exact ⟨_, rfl, rfl⟩
  · simp only [if_neg c]
    exact ⟨_, rfl, rfl⟩
end Go.Proofs.YtpbkenbmjgchkaaX
