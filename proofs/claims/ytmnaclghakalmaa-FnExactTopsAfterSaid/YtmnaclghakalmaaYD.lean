/- Tops in their order: the specification's list and the program's are the same; marks of tops. -/
import Derived.Test.YtmnaclghakalmaaYC
import Derived.Test.YtmnaclghakalmaaTC
namespace Go.Proofs.YtmnaclghakalmaaX
open Go
set_option linter.unusedVariables false
set_option linter.unusedSimpArgs false
def ltT (x y : Ar Int 4) : Prop := TC.lex x.l y.l < 0
instance (x y : Ar Int 4) : Decidable (ltT x y) := inferInstanceAs (Decidable (TC.lex x.l y.l < 0))
theorem ltT_trans {x y z : Ar Int 4} (h : ltT x y) (g : ltT y z) : ltT x z := TC.lex_trans _ _ _ (x.h.trans y.h.symm) (y.h.trans z.h.symm) h g
theorem ltT_irr (x : Ar Int 4) : ¬ ltT x x := by unfold ltT; rw [TC.lex_self]; decide
theorem ltT_tri (x y : Ar Int 4) : ltT x y ∨ x = y ∨ ltT y x := by
  rcases TC.lex_le (a := x.l) (b := y.l) with h | h | h
  · exact .inl h
  · exact .inr (.inl (Ar.ext' (TC.lex_zero _ _ (x.h.trans y.h.symm) h)))
  · exact .inr (.inr h)
/-- Lists that rise and have the same elements are one. -/
theorem rise_eq : ∀ (R S : List (Ar Int 4)), R.Pairwise ltT → S.Pairwise ltT → (∀ x, x ∈ R ↔ x ∈ S) → R = S
  | [], [], _, _, _ => rfl
  | [], s :: S, _, _, h => absurd ((h s).2 List.mem_cons_self) (by simp)
  | r :: R, [], _, _, h => absurd ((h r).1 List.mem_cons_self) (by simp)
  | r :: R, s :: S, hR, hS, h => by
    have h1 := List.pairwise_cons.1 hR
    have h2 := List.pairwise_cons.1 hS
    have e : r = s := by
      rcases List.mem_cons.1 ((h r).1 List.mem_cons_self) with e | e
      · exact e
      · rcases List.mem_cons.1 ((h s).2 List.mem_cons_self) with e2 | e2
        · exact e2.symm
        · exact absurd (ltT_trans (h2.1 r e) (h1.1 s e2)) (ltT_irr s)
    subst e
    rw [rise_eq R S h1.2 h2.2 fun x => ?_]
    constructor
    · intro hx
      rcases List.mem_cons.1 ((h x).1 (List.mem_cons_of_mem _ hx)) with e | e
      · subst e; exact absurd (h1.1 x hx) (ltT_irr x)
      · exact e
    · intro hx
      rcases List.mem_cons.1 ((h x).2 (List.mem_cons_of_mem _ hx)) with e | e
      · subst e; exact absurd (h2.1 x hx) (ltT_irr x)
      · exact e
theorem rise_nodup {R : List (Ar Int 4)} (h : R.Pairwise ltT) : R.Nodup := h.imp fun hh e => by subst e; exact ltT_irr _ hh
/-- The library's sort of a list without repeats rises. -/
theorem sorted_rises {X : List (Ar Int 4)} (hn : X.Nodup) : (tSorted X).Pairwise ltT ∧ ∀ x, x ∈ tSorted X ↔ x ∈ X := by
  have hp : (tSorted X).Perm X := List.mergeSort_perm _ _
  refine ⟨?_, fun x => hp.mem_iff⟩
  have hs : (tSorted X).Pairwise (fun x y => (!decide (tCf y x < 0)) = true) := by
    refine List.pairwise_mergeSort (le := fun x y => !decide (tCf y x < 0)) (fun a b c h1 h2 => ?_) (fun a b => ?_) X
    · simp only [Bool.not_eq_true', decide_eq_false_iff_not] at h1 h2 ⊢
      intro h3
      have h3 : ltT c a := h3
      rcases ltT_tri b a with h | h | h
      · exact h1 h
      · subst h; exact h2 h3
      · exact h2 (ltT_trans h3 h)
    · simp only [Bool.or_eq_true, Bool.not_eq_true', decide_eq_false_iff_not]
      rcases ltT_tri a b with h | h | h
      · exact .inl fun g => ltT_irr a (ltT_trans h g)
      · subst h; exact .inl (ltT_irr a)
      · exact .inr fun g => ltT_irr a (ltT_trans g h)
  have hnd : (tSorted X).Nodup := hp.nodup_iff.2 hn
  refine (List.Pairwise.and hs hnd).imp fun {x y} hh => ?_
  obtain ⟨h1, h2⟩ := hh
  simp only [Bool.not_eq_true', decide_eq_false_iff_not] at h1
  rcases ltT_tri x y with h | h | h
  · exact h
  · exact absurd h h2
  · exact absurd h h1
theorem before_eq {N : Nat} (hN : 10 < N) (a b : Ar Int 4) : spec_l07Before.f N a b = some (decide (ltT a b)) := by
  obtain ⟨x0, x1, x2, x3, rfl⟩ := four a
  obtain ⟨y0, y1, y2, y3, rfl⟩ := four b
  obtain ⟨M, rfl⟩ : ∃ M, N = M + 5 := ⟨N - 5, by omega⟩
  have hd : ltT (⟨[x0, x1, x2, x3], rfl⟩ : Ar Int 4) ⟨[y0, y1, y2, y3], rfl⟩ ↔ (x0 < y0 ∨ x0 = y0 ∧ (x1 < y1 ∨ x1 = y1 ∧ (x2 < y2 ∨ x2 = y2 ∧ x3 < y3))) := by
    unfold ltT TC.lex TC.lex TC.lex TC.lex TC.lex
    by_cases a0 : x0 < y0
    · simp [a0]
    · by_cases b0 : y0 < x0
      · have : ¬ x0 = y0 := by omega
        simp [a0, b0, this]
      · have e0 : x0 = y0 := by omega
        by_cases a1 : x1 < y1
        · simp [e0, a1]
        · by_cases b1 : y1 < x1
          · have : ¬ x1 = y1 := by omega
            simp [e0, a1, b1, this]
          · have e1 : x1 = y1 := by omega
            by_cases a2 : x2 < y2
            · simp [e0, e1, a2]
            · by_cases b2 : y2 < x2
              · have : ¬ x2 = y2 := by omega
                simp [e0, e1, a2, b2, this]
              · have e2 : x2 = y2 := by omega
                by_cases a3 : x3 < y3
                · simp [e0, e1, e2, a3]
                · by_cases b3 : y3 < x3
                  · have : ¬ x3 = y3 := by omega
                    simp [e0, e1, e2, a3, b3, this]
                  · simp [e0, e1, e2, a3, b3]
  have hd2 : decide (ltT (⟨[x0, x1, x2, x3], rfl⟩ : Ar Int 4) ⟨[y0, y1, y2, y3], rfl⟩) = decide (x0 < y0 ∨ x0 = y0 ∧ (x1 < y1 ∨ x1 = y1 ∧ (x2 < y2 ∨ x2 = y2 ∧ x3 < y3))) := decide_eq_decide.2 hd
  rw [hd2]
  unfold spec_l07Before.f
  by_cases e0 : x0 = y0
  · rw [rounds_next (s' := 1) (by unfold spec_l07Before.b0; exact if_pos e0)]
    by_cases e1 : x1 = y1
    · rw [rounds_next (s' := 2) (by unfold spec_l07Before.b0; exact if_pos e1)]
      by_cases e2 : x2 = y2
      · rw [rounds_next (s' := 3) (by unfold spec_l07Before.b0; exact if_pos e2)]
        by_cases e3 : x3 = y3
        · rw [rounds_next (s' := 4) (by unfold spec_l07Before.b0; exact if_pos e3), rounds_out (e := .go ()) (by unfold spec_l07Before.b0; rfl)]
          simp [e0, e1, e2, e3, Ex.fin, spec_l07Before.a0]
        · rw [rounds_out (e := .ret (decide (x3 < y3))) (by unfold spec_l07Before.b0; exact if_neg e3)]
          simp [e0, e1, e2, e3, Ex.fin]
      · rw [rounds_out (e := .ret (decide (x2 < y2))) (by unfold spec_l07Before.b0; exact if_neg e2)]
        simp [e0, e1, e2, Ex.fin]
    · rw [rounds_out (e := .ret (decide (x1 < y1))) (by unfold spec_l07Before.b0; exact if_neg e1)]
      simp [e0, e1, Ex.fin]
  · rw [rounds_out (e := .ret (decide (x0 < y0))) (by unfold spec_l07Before.b0; exact if_neg e0)]
    simp [e0, Ex.fin]
theorem rd_mid {A B : List (Ar Int 4)} {x z : Ar Int 4} : rdL (A ++ x :: B) (A.length : Int) z = x := by simp [rdL, List.getD]
theorem st_swap (A B : List (Ar Int 4)) (x y : Ar Int 4) : stL (stL (A ++ y :: x :: B) (((A ++ [y]).length : Nat) : Int) y) (A.length : Int) x = A ++ x :: y :: B := by
  simp [stL, List.set_append]
/-- The last element is brought to its place. -/
theorem put_place {N : Nat} (hN : 10 < N) (x : Ar Int 4) : ∀ (m : Nat) (A B : List (Ar Int 4)), A.length < m → (A ++ B).length ≤ 4000 → (A ++ B).Pairwise ltT → (∀ b ∈ B, ltT x b) → x ∉ A →
    ∃ R, rounds (fun s : List (Ar Int 4) × Int => spec_TopsAfter.b3 N s.1 s.2) m (A ++ x :: B, (A.length : Int)) = some (.go R) ∧ R.Pairwise ltT ∧ ∀ z, z ∈ R ↔ z = x ∨ z ∈ A ++ B := by
  intro m
  induction m with
  | zero => intro A B hm; exact absurd hm (Nat.not_lt_zero _)
  | succ m ih =>
    intro A B hm hl hp hB hx
    have fin : (∀ a ∈ A, ltT a x) → (A ++ x :: B).Pairwise ltT ∧ ∀ z, z ∈ A ++ x :: B ↔ z = x ∨ z ∈ A ++ B := by
      intro hA
      obtain ⟨p1, p2, p3⟩ := List.pairwise_append.1 hp
      refine ⟨List.pairwise_append.2 ⟨p1, List.pairwise_cons.2 ⟨hB, p2⟩, fun a ha b hb => ?_⟩, fun z => ?_⟩
      · rcases List.mem_cons.1 hb with e | e
        · subst e; exact hA a ha
        · exact p3 a ha b e
      · simp only [List.mem_append, List.mem_cons]
        constructor
        · rintro (h | h | h)
          · exact .inr (.inl h)
          · exact .inl h
          · exact .inr (.inr h)
        · rintro (h | h | h)
          · exact .inr (.inl h)
          · exact .inl h
          · exact .inr (.inr h)
    rcases List.eq_nil_or_concat A with rfl | ⟨A', y, rfl⟩
    · refine ⟨_, rounds_out ?_, fin (by simp)⟩
      show spec_TopsAfter.b3 N _ _ = _
      unfold spec_TopsAfter.b3
      exact if_neg (by simp)
    · rw [List.concat_eq_append] at hm hl hp hx fin ⊢
      have hlen : (((A' ++ [y]).length : Nat) : Int) = (A'.length : Int) + 1 := by simp
      have e0 : (A' ++ [y]) ++ x :: B = A' ++ y :: x :: B := by simp
      have e1 : i64w ((((A' ++ [y]).length : Nat) : Int) - 1) = (A'.length : Int) := by
        rw [hlen, show (A'.length : Int) + 1 - 1 = (A'.length : Int) by omega]
        simp only [List.length_append, List.length_singleton] at hl
        exact i64w_id (by omega) (by omega)
      have g0 : (((A' ++ [y]).length : Nat) : Int) > 0 := by omega
      have g1 : (0 : Int) ≤ (((A' ++ [y]).length : Nat) : Int) ∧ (((A' ++ [y]).length : Nat) : Int) < ((((A' ++ [y]) ++ x :: B).length : Nat) : Int) := ⟨by omega, by simp; omega⟩
      have g2 : (0 : Int) ≤ (A'.length : Int) ∧ (A'.length : Int) < ((((A' ++ [y]) ++ x :: B).length : Nat) : Int) := ⟨by omega, by simp; omega⟩
      have r1 : rdL ((A' ++ [y]) ++ x :: B) (((A' ++ [y]).length : Nat) : Int) (Ar.rep 4 0) = x := rd_mid
      have r2 : rdL ((A' ++ [y]) ++ x :: B) (A'.length : Int) (Ar.rep 4 0) = y := by rw [e0]; exact rd_mid
      by_cases hc : ltT x y
      · have hb : spec_TopsAfter.b3 N ((A' ++ [y]) ++ x :: B) (((A' ++ [y]).length : Nat) : Int) = some (.next (A' ++ x :: y :: B, (A'.length : Int))) := by
          unfold spec_TopsAfter.b3
          rw [if_pos g0, if_pos g1, e1, if_pos g2, r1, r2, before_eq hN, Option.bind_some, decide_eq_true hc, if_pos rfl, if_pos g1, if_pos g2, if_pos g1]
          rw [if_pos ⟨g2.1, by rw [show (stL ((A' ++ [y]) ++ x :: B) (((A' ++ [y]).length : Nat) : Int) y).length = ((A' ++ [y]) ++ x :: B).length by simp [stL]]; exact g2.2⟩, e0, st_swap]
        rw [rounds_next hb]
        have hp' : (A' ++ y :: B).Pairwise ltT := by simpa using hp
        obtain ⟨R, k1, k2, k3⟩ := ih A' (y :: B) (by simp at hm; omega) (by simp at hl ⊢; omega) hp' (fun b hb => by
          rcases List.mem_cons.1 hb with e | e
          · subst e; exact hc
          · exact hB b e) (fun h => hx (List.mem_append_left _ h))
        exact ⟨R, k1, k2, fun z => by rw [k3]; simp⟩
      · have hb : spec_TopsAfter.b3 N ((A' ++ [y]) ++ x :: B) (((A' ++ [y]).length : Nat) : Int) = some (.out (.go ((A' ++ [y]) ++ x :: B))) := by
          unfold spec_TopsAfter.b3
          rw [if_pos g0, if_pos g1, e1, if_pos g2, r1, r2, before_eq hN, Option.bind_some, decide_eq_false hc, if_neg (by decide)]
        refine ⟨_, rounds_out hb, fin fun a ha => ?_⟩
        have hyx : ltT y x := by
          rcases ltT_tri x y with h | h | h
          · exact absurd h hc
          · exact absurd (by simp [h]) hx
          · exact h
        rcases List.mem_append.1 ha with h | h
        · have := (List.pairwise_append.1 (List.pairwise_append.1 hp).1).2.2 a h y (by simp)
          exact ltT_trans this hyx
        · rw [List.mem_singleton] at h; subst h; exact hyx
section
variable {a : List Int} {n T N : Nat}
theorem spec_rows (h : Se a n T) (hN : 5000 < N) {L : List (List Int)} {F : Tb} (r : RepT n T L F) {t : Nat} (ht : t ≤ T) :
    ∃ R : List (Ar Int 4), rounds (fun s : List (Ar Int 4) × Int => spec_TopsAfter.b0 N L (t : Int) a s.1 s.2) N ([], 0) = some (.go R) ∧ R.Pairwise ltT ∧ ∀ z, z ∈ R ↔ ∃ k : Nat, k < n ∧ F t k ≠ none ∧ z = atT a (k : Int) := by
  have hrow := r.row t ht
  have hval := r.val t ht
  have hn3 := h.n3
  have main : ∀ (m k : Nat) (X : List (Ar Int 4)), k ≤ n → n - k < m → X.length ≤ k → X.Pairwise ltT → (∀ z, z ∈ X ↔ ∃ j : Nat, j < k ∧ F t j ≠ none ∧ z = atT a (j : Int)) →
      ∃ R : List (Ar Int 4), rounds (fun s : List (Ar Int 4) × Int => spec_TopsAfter.b0 N L (t : Int) a s.1 s.2) m (X, (k : Int)) = some (.go R) ∧ R.Pairwise ltT ∧ ∀ z, z ∈ R ↔ ∃ k : Nat, k < n ∧ F t k ≠ none ∧ z = atT a (k : Int) := by
    intro m
    induction m with
    | zero => intro k X _ hm; exact absurd hm (Nat.not_lt_zero _)
    | succ m ih =>
      intro k X hk hm hX hp hmem
      by_cases c : k < n
      · have e1 : i64w ((k : Int) + 1) = ((k + 1 : Nat) : Int) := i64w_id (by omega) (by omega)
        have g1 : (k : Int) < ((rdL L (t : Int) []).length : Int) := by omega
        have g2 : (0 : Int) ≤ (k : Int) ∧ (k : Int) < ((rdL L (t : Int) []).length : Int) := ⟨by omega, by omega⟩
        cases e : F t k with
        | none =>
          have hb : spec_TopsAfter.b0 N L (t : Int) a X (k : Int) = some (.next (X, ((k + 1 : Nat) : Int))) := by
            unfold spec_TopsAfter.b0 spec_TopsAfter.j2
            rw [if_pos g1, if_pos g2, hval k c, e, if_pos (show vi none < 0 by decide), e1]
          rw [rounds_next hb]
          refine ih (k + 1) X (by omega) (by omega) (by omega) hp fun z => ?_
          rw [hmem]
          constructor
          · rintro ⟨j, j1, j2, j3⟩; exact ⟨j, by omega, j2, j3⟩
          · rintro ⟨j, j1, j2, j3⟩
            by_cases ej : j = k
            · subst ej; exact absurd e j2
            · exact ⟨j, by omega, j2, j3⟩
        | some v =>
          have hx : atT a (k : Int) ∉ X := fun hc => by
            obtain ⟨j, j1, j2, j3⟩ := (hmem _).1 hc
            have := atT_inj h c (by omega) j3
            omega
          obtain ⟨R, k1, k2, k3⟩ := put_place (N := N) (by omega) (atT a (k : Int)) N X [] (by omega) (by simp; omega) (by simpa using hp) (by simp) hx
          have hrl : R.length ≤ k + 1 := by
            have hnd := rise_nodup k2
            have := hnd.length_le_of_subset (l₂ := atT a (k : Int) :: X) fun z hz => by
              have := (k3 z).1 hz
              simpa using this
            simp at this
            omega
          have hb : spec_TopsAfter.b0 N L (t : Int) a X (k : Int) = some (.next (R, ((k + 1 : Nat) : Int))) := by
            unfold spec_TopsAfter.b0
            have hl1 : i64w ((((X ++ [atT a (k : Int)]).length : Nat) : Int) - 1) = (X.length : Int) := by
              simp only [List.length_append, List.length_singleton]
              rw [i64w_id (by omega) (by omega)]
              omega
            rw [if_pos g1, if_pos g2, hval k c, e, if_neg (show ¬ vi (some v) < 0 by simp only [vi]; omega), at_eq (k := (k : Int)) h.gl.ok h.gl.len (by omega) (by omega) (by omega), Option.bind_some, if_pos (by simp; omega), hl1, k1]
            show spec_TopsAfter.a3 N (k : Int) R = _
            unfold spec_TopsAfter.a3 spec_TopsAfter.j2
            rw [e1]
          rw [rounds_next hb]
          refine ih (k + 1) R (by omega) (by omega) hrl k2 fun z => ?_
          rw [k3]
          simp only [List.append_nil]
          rw [hmem]
          constructor
          · rintro (hz | ⟨j, j1, j2, j3⟩)
            · exact ⟨k, by omega, by rw [e]; simp, hz⟩
            · exact ⟨j, by omega, j2, j3⟩
          · rintro ⟨j, j1, j2, j3⟩
            by_cases ej : j = k
            · subst ej; exact .inl j3
            · exact .inr ⟨j, by omega, j2, j3⟩
      · have : k = n := by omega
        subst this
        refine ⟨X, rounds_out ?_, hp, hmem⟩
        show spec_TopsAfter.b0 N L (t : Int) a X (k : Int) = _
        unfold spec_TopsAfter.b0
        rw [if_neg (by omega)]
  exact main N 0 [] (Nat.zero_le _) (by omega) (by simp) (by simp) (fun z => by simp)
theorem impl_rows (h : Se a n T) {kv0 : KT} {xs : List (Option KT)} (h0 : rdL xs (T : Int) none = some kv0) {Kf : Ex (List (Ar Int 4) × Int) (List (Ar Int 4)) → Prop} (hl0 : kv0.length ≤ 3000) (hK : ∀ X : List (Ar Int 4), X.Perm (kv0.map (·.1)) → Kf (.go X)) :
    ∀ (m : Nat) (X : List (Ar Int 4)) (l : KT), l.length < m → (X ++ l.map (·.1)).Perm (kv0.map (·.1)) → roundsD (fun s : List (Ar Int 4) × KT => impl_TopsAfter.b0 N xs (T : Int) s.1 s.2) m (X, l) Kf := by
  intro m
  induction m with
  | zero => intro X l hm; exact absurd hm (Nat.not_lt_zero _)
  | succ m ih =>
    intro X l hm hX
    show impl_TopsAfter.b0 N xs (T : Int) X l _
    unfold impl_TopsAfter.b0
    refine ⟨by rw [h0]; rfl, fun e => ?_, fun p rest hp => ?_⟩
    · show Kf (.go X)
      subst e
      exact hK X (by simpa using hX)
    · have hlen := hp.length_eq
      simp only [List.length_cons] at hlen
      have hXl := hX.length_eq
      simp only [List.length_append, List.length_map] at hXl
      dsimp only
      rw [if_pos (by simp; omega)]
      refine ih (X ++ [p.1]) rest (by omega) ?_
      have : (l.map (·.1)).Perm ((p :: rest).map (·.1)) := hp.map (·.1)
      simpa using (List.Perm.append_left X this).symm.trans hX
end
/-- The marks of n tops. -/
def mk4 (k : Int) : Ar Int 4 := ⟨[i16w k, i16w (k + 1), i16w (k + 2), i16w (k + 3)], rfl⟩
def marks4 (n : Nat) : List (Ar Int 4) := (List.range n).map fun (j : Nat) => mk4 (1 + 4 * (j : Int))
theorem marks4_len (n : Nat) : (marks4 n).length = n := by simp [marks4]
theorem marks4_rd {n j : Nat} (hj : j < n) (z : Ar Int 4) : rdL (marks4 n) (j : Int) z = mk4 (1 + 4 * (j : Int)) := by
  simp [rdL, marks4, List.getD, hj]
theorem marks4_succ (n : Nat) : marks4 (n + 1) = marks4 n ++ [mk4 (1 + 4 * (n : Int))] := by simp [marks4, List.range_succ]
theorem st_len (L : List (Ar Int 4)) (i : Int) (v : Ar Int 4) : (stL L i v).length = L.length := by simp [stL]
theorem st_st (L : List (Ar Int 4)) (i : Int) (v w : Ar Int 4) : stL (stL L i v) i w = stL L i w := by simp [stL]
theorem rd_st (L : List (Ar Int 4)) {j : Nat} (hj : j < L.length) (v z : Ar Int 4) : rdL (stL L (j : Int) v) (j : Int) z = v := by simp [rdL, stL, List.getD, hj]
theorem mark_one {N : Nat} (hN : 10 < N) {L : List (Ar Int 4)} {j : Nat} (hj : j < L.length) {k : Int} (k0 : 0 ≤ k) (k1 : k ≤ 1000000) :
    rounds (fun s : List (Ar Int 4) × Int × Int => laws_markTopsS.b2 N (j : Int) s.1 s.2.1 s.2.2) N (L, k, 0) = some (.go (stL L (j : Int) (mk4 k), k + 4)) := by
  obtain ⟨M, hM⟩ : ∃ M, N = M + 5 := ⟨N - 5, by omega⟩
  obtain ⟨y0, y1, y2, y3, hy⟩ := four (rdL L (j : Int) (Ar.rep 4 0))
  have gj : ∀ L' : List (Ar Int 4), L'.length = L.length → (0 : Int) ≤ (j : Int) ∧ (j : Int) < (L'.length : Int) := fun L' h => ⟨by omega, by omega⟩
  have step : ∀ (L' : List (Ar Int 4)) (i : Nat) (k' : Int), L'.length = L.length → i < 4 → 0 ≤ k' → k' ≤ 2000000 → laws_markTopsS.b2 N (j : Int) L' k' (i : Int) = some (.next (stL L' (j : Int) ((rdL L' (j : Int) (Ar.rep 4 0)).set (i : Int) (i16w k')), k' + 1, ((i + 1 : Nat) : Int))) := by
    intro L' i k' hL hi h0 h1
    unfold laws_markTopsS.b2
    rw [if_pos (by omega), if_pos (gj L' hL), if_pos ⟨by omega, by omega⟩, i64w_id (x := k' + 1) (by omega) (by omega), i64w_id (x := (i : Int) + 1) (by omega) (by omega)]
    rfl
  have s0 := step L 0 k rfl (by decide) k0 (by omega)
  have s1 := step (stL L (j : Int) ((rdL L (j : Int) (Ar.rep 4 0)).set 0 (i16w k))) 1 (k + 1) (st_len _ _ _) (by decide) (by omega) (by omega)
  rw [rd_st _ hj, st_st] at s1
  have s2 := step (stL L (j : Int) (((rdL L (j : Int) (Ar.rep 4 0)).set 0 (i16w k)).set 1 (i16w (k + 1)))) 2 (k + 1 + 1) (st_len _ _ _) (by decide) (by omega) (by omega)
  rw [rd_st _ hj, st_st] at s2
  have s3 := step (stL L (j : Int) ((((rdL L (j : Int) (Ar.rep 4 0)).set 0 (i16w k)).set 1 (i16w (k + 1))).set 2 (i16w (k + 1 + 1)))) 3 (k + 1 + 1 + 1) (st_len _ _ _) (by decide) (by omega) (by omega)
  rw [rd_st _ hj, st_st] at s3
  have e4 : (((((rdL L (j : Int) (Ar.rep 4 0)).set 0 (i16w k)).set 1 (i16w (k + 1))).set 2 (i16w (k + 1 + 1))).set 3 (i16w (k + 1 + 1 + 1))) = mk4 k := by
    rw [hy, show k + 1 + 1 = k + 2 by omega, show k + 2 + 1 = k + 3 by omega]
    rfl
  have last : laws_markTopsS.b2 N (j : Int) (stL L (j : Int) (mk4 k)) (k + 4) 4 = some (.out (.go (stL L (j : Int) (mk4 k), k + 4))) := by
    unfold laws_markTopsS.b2
    exact if_neg (by decide)
  rw [show rounds (fun s : List (Ar Int 4) × Int × Int => laws_markTopsS.b2 N (j : Int) s.1 s.2.1 s.2.2) N (L, k, 0) = rounds (fun s : List (Ar Int 4) × Int × Int => laws_markTopsS.b2 N (j : Int) s.1 s.2.1 s.2.2) (M + 5) (L, k, 0) by rw [← hM]]
  rw [rounds_next s0, rounds_next s1, rounds_next s2, rounds_next s3]
  have e4' : stL L (j : Int) (((((rdL L (j : Int) (Ar.rep 4 0)).set 0 (i16w k)).set 1 (i16w (k + 1))).set 2 (i16w (k + 1 + 1))).set ((3 : Nat) : Int) (i16w (k + 1 + 1 + 1))) = stL L (j : Int) (mk4 k) := by rw [← e4]; rfl
  rw [e4', show k + 1 + 1 + 1 + 1 = k + 4 by omega]
  exact rounds_out last
theorem mark_tops {N : Nat} (X : List (Ar Int 4)) (hl : X.length ≤ 3000) (hN : 5000 < N) : laws_markTopsS.f N X 1 = some (1 + 4 * (X.length : Int), marks4 X.length) := by
  have q := rounds_for (b := fun s : List (Ar Int 4) × Int × Int => laws_markTopsS.b0 N s.1 s.2.1 s.2.2) (e := .go (1 + 4 * (X.length : Int), marks4 X.length)) (fun j => (marks4 j ++ X.drop j, 1 + 4 * (j : Int), (j : Int))) X.length 0 N (Nat.zero_le _) (by omega) (by
    intro j _ hj
    have hlen : (marks4 j ++ X.drop j).length = X.length := by rw [List.length_append, marks4_len, List.length_drop]; omega
    have hm := mark_one (N := N) (by omega) (L := marks4 j ++ X.drop j) (j := j) (by omega) (k := 1 + 4 * (j : Int)) (by omega) (by omega)
    have hset : stL (marks4 j ++ X.drop j) (j : Int) (mk4 (1 + 4 * (j : Int))) = marks4 (j + 1) ++ X.drop (j + 1) := by
      rw [marks4_succ, List.drop_eq_getElem_cons hj]
      unfold stL
      rw [Int.toNat_natCast, List.set_append_right _ _ (by rw [marks4_len]; omega), marks4_len, Nat.sub_self, List.append_assoc]
      rfl
    show laws_markTopsS.b0 N _ _ _ = _
    unfold laws_markTopsS.b0
    dsimp only
    rw [if_pos (by omega), hm, Option.bind_some]
    show laws_markTopsS.a2 N (j : Int) _ _ = _
    unfold laws_markTopsS.a2
    rw [hset, i64w_id (by omega) (by omega)]
    have : 1 + 4 * (j : Int) + 4 = 1 + 4 * ((j + 1 : Nat) : Int) := by omega
    rw [this]
    rfl) (by
    show laws_markTopsS.b0 N _ _ _ = _
    unfold laws_markTopsS.b0
    dsimp only
    have hlen : (marks4 X.length ++ X.drop X.length).length = X.length := by rw [List.length_append, marks4_len, List.length_drop]; omega
    rw [if_neg (by omega), List.drop_length, List.append_nil])
  have q' : rounds (fun s : List (Ar Int 4) × Int × Int => laws_markTopsS.b0 N s.1 s.2.1 s.2.2) N (X, 1, 0) = _ := q
  unfold laws_markTopsS.f
  rw [q']
  rfl
theorem held_one {N n : Nat} (hN : 10 < N) {j : Nat} (hj : j < n) (hn : n ≤ 3000) :
    rounds (fun s : Int × Int => laws_heldTopsS.b2 N (j : Int) (marks4 n) s.1 s.2) N (1 + 4 * (j : Int), 0) = some (.go (1 + 4 * (j : Int) + 4)) := by
  have q := rounds_for (b := fun s : Int × Int => laws_heldTopsS.b2 N (j : Int) (marks4 n) s.1 s.2) (e := .go (1 + 4 * (j : Int) + 4)) (fun i => (1 + 4 * (j : Int) + (i : Int), (i : Int))) 4 0 N (Nat.zero_le _) (by omega) (by
    intro i _ hi
    show laws_heldTopsS.b2 N (j : Int) (marks4 n) (1 + 4 * (j : Int) + (i : Int)) (i : Int) = _
    unfold laws_heldTopsS.b2
    have hg : (mk4 (1 + 4 * (j : Int))).get (i : Int) 0 = i16w (1 + 4 * (j : Int) + (i : Int)) := by
      obtain rfl | rfl | rfl | rfl : i = 0 ∨ i = 1 ∨ i = 2 ∨ i = 3 := by omega
      · show i16w (1 + 4 * (j : Int)) = i16w (1 + 4 * (j : Int) + 0); rw [Int.add_zero]
      · rfl
      · rfl
      · rfl
    rw [if_pos (by omega), if_pos ⟨by omega, by rw [marks4_len]; omega⟩, if_pos ⟨by omega, by omega⟩, marks4_rd hj, hg, if_pos rfl, i64w_id (by omega) (by omega), i64w_id (by omega) (by omega)]
    have : 1 + 4 * (j : Int) + (i : Int) + 1 = 1 + 4 * (j : Int) + ((i + 1 : Nat) : Int) := by omega
    rw [this]; rfl) (by
    show laws_heldTopsS.b2 N (j : Int) (marks4 n) _ _ = _
    unfold laws_heldTopsS.b2
    exact if_neg (by show ¬ (4 : Int) < 4; decide))
  have q' : rounds (fun s : Int × Int => laws_heldTopsS.b2 N (j : Int) (marks4 n) s.1 s.2) N (1 + 4 * (j : Int) + 0, 0) = _ := q
  rwa [Int.add_zero] at q'
theorem held_tops {N n : Nat} (hl : n ≤ 3000) (hN : 5000 < N) : laws_heldTopsS.f N (marks4 n) 1 = some (1 + 4 * (n : Int)) := by
  have q := rounds_for (b := fun s : Int × Int => laws_heldTopsS.b0 N (marks4 n) s.1 s.2) (e := .go (1 + 4 * (n : Int))) (fun j => (1 + 4 * (j : Int), (j : Int))) n 0 N (Nat.zero_le _) (by omega) (by
    intro j _ hj
    show laws_heldTopsS.b0 N (marks4 n) (1 + 4 * (j : Int)) (j : Int) = _
    unfold laws_heldTopsS.b0
    rw [if_pos (by rw [marks4_len]; omega), held_one (by omega) hj hl, Option.bind_some]
    show laws_heldTopsS.a2 N (j : Int) _ = _
    unfold laws_heldTopsS.a2
    rw [i64w_id (by omega) (by omega)]
    have : 1 + 4 * (j : Int) + 4 = 1 + 4 * ((j + 1 : Nat) : Int) := by omega
    rw [this]; rfl) (by
    show laws_heldTopsS.b0 N (marks4 n) _ _ = _
    unfold laws_heldTopsS.b0
    dsimp only
    rw [if_neg (by rw [marks4_len]; omega)])
  have q' : rounds (fun s : Int × Int => laws_heldTopsS.b0 N (marks4 n) s.1 s.2) N (1, 0) = _ := q
  unfold laws_heldTopsS.f
  rw [q']
  rfl
theorem eqTops_self {N : Nat} (hN : 10 < N) (x : Ar Int 4) : laws_eqTops.f N x x = some true := by
  obtain ⟨x0, x1, x2, x3, rfl⟩ := four x
  have q := rounds_for (b := fun s : Int => laws_eqTops.b0 N (⟨[x0, x1, x2, x3], rfl⟩ : Ar Int 4) ⟨[x0, x1, x2, x3], rfl⟩ s) (e := .go ()) (fun i => (i : Int)) 4 0 N (Nat.zero_le _) (by omega) (by
    intro i _ hi
    unfold laws_eqTops.b0
    rw [if_pos (by omega), if_pos ⟨by omega, by omega⟩, if_pos ⟨by omega, by omega⟩, if_pos rfl, i64w_id (by omega) (by omega)]
    rfl) (by
    unfold laws_eqTops.b0
    exact if_neg (by decide))
  unfold laws_eqTops.f
  rw [show rounds (fun s : Int => laws_eqTops.b0 N (⟨[x0, x1, x2, x3], rfl⟩ : Ar Int 4) ⟨[x0, x1, x2, x3], rfl⟩ s) N 0 = _ from q]
  rfl
theorem eqTopsS_self {N : Nat} (X : List (Ar Int 4)) (hl : X.length ≤ 3000) (hN : 5000 < N) : laws_eqTopsS.f N X X = some true := by
  have q := rounds_for (b := fun s : Int => laws_eqTopsS.b0 N X X s) (e := .go ()) (fun i => (i : Int)) X.length 0 N (Nat.zero_le _) (by omega) (by
    intro i _ hi
    unfold laws_eqTopsS.b0
    rw [if_pos (by omega), if_pos ⟨by omega, by omega⟩, if_pos ⟨by omega, by omega⟩, eqTops_self (by omega), Option.bind_some, if_pos rfl, i64w_id (by omega) (by omega)]
    rfl) (by
    unfold laws_eqTopsS.b0
    rw [if_neg (by omega)])
  unfold laws_eqTopsS.f
  rw [if_pos rfl, show rounds (fun s : Int => laws_eqTopsS.b0 N X X s) N 0 = _ from q]
  rfl
end Go.Proofs.YtmnaclghakalmaaX
