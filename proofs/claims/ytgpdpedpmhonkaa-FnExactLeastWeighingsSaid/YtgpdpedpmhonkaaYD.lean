/- Where both begin, and what both answer. -/
import Derived.Test.YtgpdpedpmhonkaaYC
namespace Go.Proofs.YtgpdpedpmhonkaaX
open Go
set_option linter.unusedVariables false
set_option linter.unusedSimpArgs false
abbrev Tk := S_laws_Task
theorem toTask_eq (N : Nat) (a : Tk) : laws_toTask.f N a = some a := by
  cases a; rfl
theorem in_spec (N : Nat) (v lo hi : Int) : spec_l00In.f N v lo hi = some (decide (lo ≤ v ∧ v ≤ hi)) := by
  unfold spec_l00In.f
  by_cases h : v ≥ lo
  · rw [if_pos h]; congr 1; rw [decide_eq_decide]; exact ⟨fun g => ⟨h, g⟩, fun g => g.2⟩
  · rw [if_neg h, decide_eq_false (fun g => h g.1)]
theorem in_impl (N : Nat) (v lo hi : Int) : impl_within.f N v lo hi = some (decide (lo ≤ v ∧ v ≤ hi)) := by
  unfold impl_within.f
  by_cases h : lo ≤ v
  · rw [if_pos h]; congr 1; rw [decide_eq_decide]; exact ⟨fun g => ⟨h, g⟩, fun g => g.2⟩
  · rw [if_neg h, decide_eq_false (fun g => h g.1)]
/-- A task that is valid. -/
def okT (t : Tk) : Prop := (1 ≤ t.f_Coins ∧ t.f_Coins ≤ 13) ∧ 0 ≤ t.f_Kind ∧ t.f_Kind ≤ 2
instance (t : Tk) : Decidable (okT t) := by unfold okT; infer_instance
theorem valid_spec (N : Nat) {t : Tk} (h0 : -128 ≤ t.f_Coins ∧ t.f_Coins ≤ 127) (h1 : -128 ≤ t.f_Kind ∧ t.f_Kind ≤ 127) : spec_l03Ok.f N t = some (decide (okT t)) := by
  unfold spec_l03Ok.f
  rw [idb (x := t.f_Coins) (by omega), idb (x := t.f_Kind) (by omega), in_spec, in_spec, Option.bind_some, Option.bind_some]
  by_cases c : 1 ≤ t.f_Coins ∧ t.f_Coins ≤ 13
  · rw [if_pos (decide_eq_true c)]; congr 1; rw [decide_eq_decide]; exact ⟨fun g => ⟨c, g⟩, fun g => g.2⟩
  · rw [if_neg (by rw [decide_eq_false c]; exact Bool.false_ne_true), decide_eq_false (fun g => c g.1)]
theorem valid_impl (N : Nat) {t : Tk} (h0 : -128 ≤ t.f_Coins ∧ t.f_Coins ≤ 127) (h1 : -128 ≤ t.f_Kind ∧ t.f_Kind ≤ 127) : impl_ValidTask.f N t = some (decide (okT t)) := by
  unfold impl_ValidTask.f impl_isKind.f
  rw [idb (x := t.f_Coins) (by omega), idb (x := t.f_Kind) (by omega), in_impl, in_impl, Option.bind_some, Option.bind_some, Option.bind_some]
  by_cases c : 1 ≤ t.f_Coins ∧ t.f_Coins ≤ 13
  · rw [if_pos (decide_eq_true c)]; congr 1; rw [decide_eq_decide]; exact ⟨fun g => ⟨c, g⟩, fun g => g.2⟩
  · rw [if_neg (by rw [decide_eq_false c]; exact Bool.false_ne_true), decide_eq_false (fun g => c g.1)]
/-- What is known ahead. -/
def x0 (t : Tk) : Kn := if t.f_Kind = 0 then ⟨0, t.f_Coins.toNat, 0, t.f_None⟩ else if t.f_Kind = 1 then ⟨0, 0, t.f_Coins.toNat, t.f_None⟩ else ⟨t.f_Coins.toNat, 0, 0, t.f_None⟩
/-- How many coins there are. -/
def tT (t : Tk) : Nat := t.f_Coins.toNat + (if t.f_Good = true then 1 else 0)
theorem x0_ok {t : Tk} (h : okT t) : ok (tT t) (x0 t) := by
  obtain ⟨h1, h2⟩ := h
  unfold ok tT x0
  split <;> split <;> (try split) <;> simp only <;> omega
theorem begin_eq (N : Nat) {t : Tk} (h : okT t) : spec_l03Begin.f N t = some ((⟨(tT t : Int), List.replicate 32928 0⟩ : Fi), ks (x0 t)) := by
  obtain ⟨⟨h1, h2⟩, h3⟩ := h
  obtain ⟨c, kd, nn, g⟩ := t
  simp only at h1 h2 h3
  obtain ⟨c, rfl⟩ := Int.eq_ofNat_of_zero_le (show 0 ≤ c by omega)
  have e1 : i64w (c : Int) = (c : Int) := idb (by omega)
  have e2 : i64w ((c : Int) + 1) = (c : Int) + 1 := idb (by omega)
  have j : ∀ T : Int, spec_l03Begin.j0 N (⟨(c : Int), kd, nn, g⟩ : Tk) T = some ((⟨T, List.replicate 32928 0⟩ : Fi), ks (x0 ⟨(c : Int), kd, nn, g⟩)) := by
    intro T
    unfold spec_l03Begin.j0 x0
    have k1 : kd = 0 ∨ kd = 1 ∨ kd = 2 := by omega
    rcases k1 with rfl | rfl | rfl <;> dsimp only <;> rw [e1]
    · rw [if_pos rfl, if_pos rfl]
      unfold spec_l03Begin.j1
      cases nn
      · rw [if_neg Bool.false_ne_true]; rfl
      · rw [if_pos rfl]; rfl
    · rw [if_neg (by decide), if_pos rfl, if_neg (by decide), if_pos rfl]
      unfold spec_l03Begin.j1
      cases nn
      · rw [if_neg Bool.false_ne_true]; rfl
      · rw [if_pos rfl]; rfl
    · rw [if_neg (by decide), if_neg (by decide), if_neg (by decide), if_neg (by decide)]
      unfold spec_l03Begin.j1
      cases nn
      · rw [if_neg Bool.false_ne_true]; rfl
      · rw [if_pos rfl]; rfl
  unfold spec_l03Begin.f
  rw [if_pos ⟨by decide, by decide⟩]
  dsimp only
  rw [e1, e2, j, j]
  cases g
  · rw [if_neg Bool.false_ne_true]; rfl
  · rw [if_pos rfl]
    simp only [tT, if_true, Int.toNat_natCast]
    rfl
/-- The coins, by what is known of them. -/
def pk (kd : Int) (l : List Int) : List Int × List Int × List Int × List Int := if kd = 0 then ([], l, [], []) else if kd = 1 then ([], [], l, []) else (l, [], [], [])
theorem known_loop {N : Nat} {t : Tk} (h : okT t) (hN : 20 ≤ N) : ∃ l : List Int, l.length = t.f_Coins.toNat ∧ rounds (fun s => _impl_Task_known.b0 N t s.1 s.2.1 s.2.2.1 s.2.2.2.1 s.2.2.2.2) N ([], [], [], [], 0) = some (.go (pk t.f_Kind l)) := by
  obtain ⟨⟨h1, h2⟩, h3⟩ := h
  have i8 : ∀ z : Int, 0 ≤ z ∧ z ≤ 14 → i8w z = z := fun z hz => i8w_id (by omega) (by omega)
  have k1 : t.f_Kind = 0 ∨ t.f_Kind = 1 ∨ t.f_Kind = 2 := by omega
  have main : ∀ (M i : Nat) (l : List Int), l.length = i → (i : Int) ≤ t.f_Coins → t.f_Coins.toNat - i < M → ∃ l' : List Int, l'.length = t.f_Coins.toNat ∧ rounds (fun s => _impl_Task_known.b0 N t s.1 s.2.1 s.2.2.1 s.2.2.2.1 s.2.2.2.2) M ((pk t.f_Kind l).1, (pk t.f_Kind l).2.1, (pk t.f_Kind l).2.2.1, (pk t.f_Kind l).2.2.2, (i : Int)) = some (.go (pk t.f_Kind l')) := by
    intro M
    induction M with
    | zero => intro i l _ _ h; exact absurd h (Nat.not_lt_zero _)
    | succ M ih =>
      intro i l hl hi hM
      by_cases c : (i : Int) < t.f_Coins
      · obtain ⟨l', e1, e2⟩ := ih (i + 1) (l ++ [(i : Int)]) (by simp [hl]) (by omega) (by omega)
        refine ⟨l', e1, (rounds_next ?_).trans e2⟩
        dsimp only
        unfold _impl_Task_known.b0
        rw [if_pos c]
        rcases k1 with k | k | k <;> rw [k] <;> unfold pk
        · simp only [show rdL ([1, 2, 0] : List Int) 0 0 = 1 from rfl, Int.reduceEq, if_true, if_false]
          rw [if_pos (by rw [hl]; simp only [List.length_cons, List.length_nil]; omega)]
          unfold _impl_Task_known.j2
          rw [i8 _ (by omega)]
          rfl
        · simp only [show rdL ([1, 2, 0] : List Int) 1 0 = 2 from rfl, Int.reduceEq, if_true, if_false]
          rw [if_pos (by rw [hl]; simp only [List.length_cons, List.length_nil]; omega)]
          unfold _impl_Task_known.j2
          rw [i8 _ (by omega)]
          rfl
        · simp only [show rdL ([1, 2, 0] : List Int) 2 0 = 0 from rfl, Int.reduceEq, if_true, if_false]
          rw [if_pos (by rw [hl]; simp only [List.length_cons, List.length_nil]; omega)]
          unfold _impl_Task_known.j2
          rw [i8 _ (by omega)]
          rfl
      · refine ⟨l, by omega, rounds_out ?_⟩
        dsimp only
        unfold _impl_Task_known.b0
        rw [if_neg c]
  obtain ⟨l, e1, e2⟩ := main N 0 [] rfl (by omega) (by omega)
  refine ⟨l, e1, ?_⟩
  rw [← e2]
  rcases k1 with k | k | k <;> rw [k] <;> rfl
theorem sorts_b0 {N : Nat} {a : Ar (List Int) 4} {z : KQ} {i : Nat} (hi : i < 4) : _impl_sorts_of.b0 N a z (i : Int) = some (.next ((⟨z.f_many.set (i : Int) ((a.get (i : Int) []).length : Int), z.f_none⟩ : KQ), ((i + 1 : Nat) : Int))) := by
  have hj : ∀ z, _impl_sorts_of.j2 N (i : Int) z = some (.next (z, ((i + 1 : Nat) : Int))) := by
    intro z
    unfold _impl_sorts_of.j2
    rw [idb (x := (i : Int) + 1) (by omega)]
    rfl
  unfold _impl_sorts_of.b0
  rw [if_pos (by omega), hj, hj, hj, hj]
  have k1 : i = 0 ∨ i = 1 ∨ i = 2 ∨ i = 3 := by omega
  rcases k1 with rfl | rfl | rfl | rfl <;> rfl
theorem sorts_eq {N : Nat} (hN : 20 ≤ N) (l0 l1 l2 l3 : List Int) (n : Bool) : _impl_sorts_of.f N (⟨[l0, l1, l2, l3], rfl⟩ : Ar (List Int) 4) n = some (⟨A4 l0.length l1.length l2.length l3.length, n⟩ : KQ) := by
  obtain ⟨N, rfl⟩ : ∃ M, N = M + 5 := ⟨N - 5, by omega⟩
  have e0 := sorts_b0 (N := N + 5) (a := (⟨[l0, l1, l2, l3], rfl⟩ : Ar (List Int) 4)) (z := ⟨Ar.rep 4 0, n⟩) (i := 0) (by omega)
  have e1 := sorts_b0 (N := N + 5) (a := (⟨[l0, l1, l2, l3], rfl⟩ : Ar (List Int) 4)) (z := ⟨A4 l0.length 0 0 0, n⟩) (i := 1) (by omega)
  have e2 := sorts_b0 (N := N + 5) (a := (⟨[l0, l1, l2, l3], rfl⟩ : Ar (List Int) 4)) (z := ⟨A4 l0.length l1.length 0 0, n⟩) (i := 2) (by omega)
  have e3 := sorts_b0 (N := N + 5) (a := (⟨[l0, l1, l2, l3], rfl⟩ : Ar (List Int) 4)) (z := ⟨A4 l0.length l1.length l2.length 0, n⟩) (i := 3) (by omega)
  have e4 : _impl_sorts_of.b0 (N + 5) (⟨[l0, l1, l2, l3], rfl⟩ : Ar (List Int) 4) ⟨A4 l0.length l1.length l2.length l3.length, n⟩ ((4 : Nat) : Int) = some (.out (.go ⟨A4 l0.length l1.length l2.length l3.length, n⟩)) := if_neg (by omega)
  unfold _impl_sorts_of.f
  rw [show rounds (fun s : KQ × Int => _impl_sorts_of.b0 (N + 5) (⟨[l0, l1, l2, l3], rfl⟩ : Ar (List Int) 4) s.1 s.2) (N + 5) ((⟨Ar.rep 4 0, n⟩ : KQ), 0) = some (.go ⟨A4 l0.length l1.length l2.length l3.length, n⟩) from
    (rounds_next (n := N + 4) (s := ((⟨Ar.rep 4 0, n⟩ : KQ), (0 : Int))) e0).trans ((rounds_next (n := N + 3) (s := ((⟨A4 l0.length 0 0 0, n⟩ : KQ), ((1 : Nat) : Int))) e1).trans ((rounds_next (n := N + 2) (s := ((⟨A4 l0.length l1.length 0 0, n⟩ : KQ), ((2 : Nat) : Int))) e2).trans ((rounds_next (n := N + 1) (s := ((⟨A4 l0.length l1.length l2.length 0, n⟩ : KQ), ((3 : Nat) : Int))) e3).trans (rounds_out (n := N) (s := ((⟨A4 l0.length l1.length l2.length l3.length, n⟩ : KQ), ((4 : Nat) : Int))) e4))))]
  rfl
theorem known_eq {N : Nat} {t : Tk} (h : okT t) (hN : 20 ≤ N) : ∃ r : Ar (List Int) 4, _impl_Task_known.f N t = some r ∧ _impl_sorts_of.f N (⟨[r.get 0 [], r.get 1 [], r.get 2 [], r.get 3 []], rfl⟩ : Ar (List Int) 4) t.f_None = some (kq (tT t) (x0 t)) := by
  obtain ⟨l, hl, e⟩ := known_loop h hN
  obtain ⟨⟨h1, h2⟩, h3⟩ := h
  have k1 : t.f_Kind = 0 ∨ t.f_Kind = 1 ∨ t.f_Kind = 2 := by omega
  have hT : (tT t : Int) = t.f_Coins + (if t.f_Good = true then 1 else 0) := by
    unfold tT
    split <;> omega
  refine ⟨⟨[(pk t.f_Kind l).1, (pk t.f_Kind l).2.1, (pk t.f_Kind l).2.2.1, if t.f_Good = true then [t.f_Coins] else (pk t.f_Kind l).2.2.2], rfl⟩, ?_, ?_⟩
  · unfold _impl_Task_known.f
    rw [if_pos ⟨by omega, by simp only [List.length_cons, List.length_nil]; omega⟩, e]
    show _impl_Task_known.a0 N t _ _ _ _ = _
    unfold _impl_Task_known.a0
    by_cases c : t.f_Good = true
    · rw [if_pos c, if_pos c]
    · rw [if_neg c, if_neg c]
  · refine (sorts_eq hN (pk t.f_Kind l).1 (pk t.f_Kind l).2.1 (pk t.f_Kind l).2.2.1 (if t.f_Good = true then [t.f_Coins] else (pk t.f_Kind l).2.2.2) t.f_None).trans (congrArg some ?_)
    refine kq_mk ?_ ?_ ?_ ?_ ?_
    all_goals unfold x0 <;> (try unfold pk)
    all_goals rcases k1 with k | k | k <;> rw [k]
    all_goals simp only [Int.reduceEq, if_true, if_false, List.length_nil, hl, hT]
    all_goals (try omega)
    all_goals (try rfl)
    all_goals (split <;> simp only [List.length_cons, List.length_nil] <;> omega)
/-- The first number of weighings that do, of m more. -/
def lwf (p : Nat → Bool) : Nat → Nat → Int × Int
  | 0, _ => (0, 6)
  | m + 1, i => if p i = true then ((i : Int), 0) else lwf p m (i + 1)
theorem InvS.up {T q : Nat} {s s' : List Int} (h : InvS T 5 s) (g : InvS T q s') (f : Frm T q s s') : InvS T 5 s' := by
  refine ⟨g.1, fun y r hy hr hr5 => ?_⟩
  by_cases c : r ≤ q
  · exact g.2 y r hy c hr5
  · rw [f y r hy (by omega) hr5]
    exact h.2 y r hy hr hr5
theorem least_spec {N : Nat} {t : Tk} (h : okT t) (hN : 20 ≤ N) (hv : spec_l03Ok.f N t = some true) : spec_LeastWeighings.f N t = some (lwf (fun k => canB (tT t) k (x0 t)) 6 0) := by
  unfold spec_LeastWeighings.f
  rw [hv, Option.bind_some, if_pos rfl, begin_eq N h, Option.bind_some]
  have main : ∀ (m i M : Nat) (seen : List Int), i + m = 6 → m < M → InvS (tT t) 5 seen → (rounds (fun s => spec_LeastWeighings.b0 N ((⟨(tT t : Int), List.replicate 32928 0⟩ : Fi), ks (x0 t)) s.1 s.2.1 s.2.2) M ((tT t : Int), seen, (i : Int))).bind (Ex.fin fun s => spec_LeastWeighings.a0 N) = some (lwf (fun k => canB (tT t) k (x0 t)) m i) := by
    intro m
    induction m with
    | zero =>
      intro i M seen him hM hI
      obtain ⟨M, rfl⟩ : ∃ j, M = j + 1 := ⟨M - 1, by omega⟩
      rw [rounds_out (n := M) (e := .go ()) (by unfold spec_LeastWeighings.b0; exact if_neg (by simp only; omega))]
      rfl
    | succ m ih =>
      intro i M seen him hM hI
      obtain ⟨M, rfl⟩ : ∃ j, M = j + 1 := ⟨M - 1, by omega⟩
      obtain ⟨s', e, I, F⟩ := can_spec (T := tT t) hN i (by omega) N (by omega) seen (x0 t) (hI.mono (by omega)) (x0_ok h)
      have eb : spec_LeastWeighings.b0 N ((⟨(tT t : Int), List.replicate 32928 0⟩ : Fi), ks (x0 t)) (tT t : Int) seen (i : Int) = if canB (tT t) i (x0 t) = true then some (.out (.ret ((i : Int), 0))) else some (.next ((tT t : Int), s', ((i + 1 : Nat) : Int))) := by
        unfold spec_LeastWeighings.b0 _spec_l03Finder_can.f
        rw [if_pos (by omega)]
        dsimp only
        rw [e, Option.bind_some, idb (x := (i : Int) + 1) (by omega)]
        rfl
      unfold lwf
      by_cases c : canB (tT t) i (x0 t) = true
      · rw [if_pos c] at eb
        rw [rounds_out (n := M) (s := ((tT t : Int), seen, (i : Int))) eb, if_pos c]
        rfl
      · rw [if_neg c] at eb
        rw [rounds_next (n := M) (s := ((tT t : Int), seen, (i : Int))) eb, if_neg c]
        exact ih (i + 1) M s' (by omega) (by omega) (hI.up I F)
  exact main 6 0 N _ rfl (by omega) (inv_start _)
theorem least_impl {N : Nat} {t : Tk} (h : okT t) (hN : 20 ≤ N) (hv : impl_ValidTask.f N t = some true) : impl_LeastWeighings.f N t = some (lwf (fun k => canB (tT t) k (x0 t)) 6 0) := by
  unfold impl_LeastWeighings.f
  rw [hv, Option.bind_some, if_pos rfl]
  obtain ⟨r, e1, e2⟩ := known_eq h hN
  have main : ∀ (m i M : Nat), i + m = 6 → m < M → (rounds (fun s => impl_LeastWeighings.b0 N t s) M (i : Int)).bind (Ex.fin fun s => impl_LeastWeighings.a0 N) = some (lwf (fun k => canB (tT t) k (x0 t)) m i) := by
    intro m
    induction m with
    | zero =>
      intro i M him hM
      obtain ⟨M, rfl⟩ : ∃ j, M = j + 1 := ⟨M - 1, by omega⟩
      rw [rounds_out (n := M) (e := .go ()) (by unfold impl_LeastWeighings.b0; exact if_neg (by omega))]
      rfl
    | succ m ih =>
      intro i M him hM
      obtain ⟨M, rfl⟩ : ∃ j, M = j + 1 := ⟨M - 1, by omega⟩
      obtain ⟨kv', e, I⟩ := can_impl (T := tT t) hN i (by omega) N (by omega) [] (x0 t) (invM_nil _) (x0_ok h)
      have eb : impl_LeastWeighings.b0 N t (i : Int) = if canB (tT t) i (x0 t) = true then some (.out (.ret ((i : Int), 0))) else some (.next ((i + 1 : Nat) : Int)) := by
        unfold impl_LeastWeighings.b0 _impl_finder_can.f
        rw [if_pos (by omega), e1, Option.bind_some, e2, Option.bind_some, e, Option.bind_some, idb (x := (i : Int) + 1) (by omega)]
        rfl
      unfold lwf
      by_cases c : canB (tT t) i (x0 t) = true
      · rw [if_pos c] at eb
        rw [rounds_out (n := M) (s := (i : Int)) eb, if_pos c]
        rfl
      · rw [if_neg c] at eb
        rw [rounds_next (n := M) (s := (i : Int)) eb, if_neg c]
        exact ih (i + 1) M (by omega) (by omega)
  exact main 6 0 N rfl (by omega)
theorem can_spec_eq {N : Nat} {t : Tk} (h : okT t) (hN : 20 ≤ N) (hv : spec_l03Ok.f N t = some true) {k : Nat} (hk : k ≤ 5) : spec_CanFind.f N t (k : Int) = some (canB (tT t) k (x0 t), 0) := by
  obtain ⟨s', e, I, F⟩ := can_spec (T := tT t) hN k hk N (by omega) (List.replicate 32928 0) (x0 t) ((inv_start _).mono hk) (x0_ok h)
  unfold spec_CanFind.f _spec_l03Finder_can.f
  rw [hv, Option.bind_some, if_pos rfl, in_spec, Option.bind_some, if_pos (decide_eq_true ⟨by omega, by omega⟩), begin_eq N h, Option.bind_some]
  dsimp only
  rw [e, Option.bind_some]
theorem can_impl_eq {N : Nat} {t : Tk} (h : okT t) (hN : 20 ≤ N) (hv : impl_ValidTask.f N t = some true) {k : Nat} (hk : k ≤ 5) : impl_CanFind.f N t (k : Int) = some (canB (tT t) k (x0 t), 0) := by
  obtain ⟨kv', e, I⟩ := can_impl (T := tT t) hN k hk N (by omega) [] (x0 t) (invM_nil _) (x0_ok h)
  obtain ⟨r, e1, e2⟩ := known_eq h hN
  unfold impl_CanFind.f _impl_finder_can.f
  rw [hv, Option.bind_some, if_pos rfl, in_impl, Option.bind_some, if_pos (decide_eq_true ⟨by omega, by omega⟩), e1, Option.bind_some, e2, Option.bind_some, e, Option.bind_some]
end Go.Proofs.YtgpdpedpmhonkaaX
