/- Games of questions and lies, plainly: the program's own set, and that it is the reference's. -/
import Derived.Test.YtpbkenbmjgchkaaYC
namespace Go.Proofs.YtpbkenbmjgchkaaX
open Go
set_option linter.unusedVariables false
set_option linter.unusedSimpArgs false
theorem or_loop {b : Int × Int → Option (Bd Int Int (Int × Int))} (l : List Int) {N : Nat} (hN : l.length < N)
    (hb : ∀ s (i : Nat) (hi : i < l.length), b (s, (i : Int)) = some (.next (bOr .u64 s (shlI .u64 1 l[i]), ((i + 1 : Nat) : Int))))
    (he : ∀ s, b (s, (l.length : Int)) = some (.out (.go s))) (s : Int) : rounds b N (s, 0) = some (.go (orAll s l)) := by
  have q := rounds_walk0 (b := b) (fun s i => (s, i)) l (fun s m => (.go (bOr .u64 s (shlI .u64 1 m)) : Ex (Ex Int Int) Int)) (fun s => (.go s : Ex Int Int)) (fun _ _ => True) (acc := s) hN trivial (fun s i hi _ => ⟨trivial, hb s i hi⟩) (fun s _ => he s)
  have w : ∀ (l : List Int) (s : Int), walk (fun s m => (.go (bOr .u64 s (shlI .u64 1 m)) : Ex (Ex Int Int) Int)) (fun s => (.go s : Ex Int Int)) s l = .go (orAll s l) := by
    intro l
    induction l with
    | nil => intro s; rfl
    | cons m l ih => intro s; exact ih _
  rw [w] at q
  exact q
theorem in_0 {N : Nat} {S : Ar (List Int) 4} {q : Ar Int 4} (l : List Int) (hl : ((S.get 0 []).drop ((0 : Int)).toNat).take (((q.get 0 0)).toNat - ((0 : Int)).toNat) = l) (h0 : ∀ x ∈ l, 0 ≤ x) (h60 : l.length ≤ 60) (hN : 70 < N) (s : Int) :
    rounds (fun s => _impl_Game_setFor.b3 N S q 0 s.1 s.2) N (s, 0) = some (.go (orAll s l)) := by
  refine or_loop l (by omega) ?_ ?_ s
  · intro s i hi
    have g1 : (i : Int) < l.length := by omega
    have g2 : (0 : Int) ≤ i := by omega
    have g3 : 0 ≤ l[i] := h0 _ (List.getElem_mem hi)
    simp only [_impl_Game_setFor.b3, hl, g1, g2, and_self, if_true, rdL_nat hi, g3, i64w_succ hi (show l.length ≤ 9223372036854775807 by omega)]
  · intro s
    simp only [_impl_Game_setFor.b3, hl]
    rw [if_neg (by omega)]
theorem in_1 {N : Nat} {S : Ar (List Int) 4} {q : Ar Int 4} (l : List Int) (hl : ((S.get 1 []).drop ((0 : Int)).toNat).take (((q.get 1 0)).toNat - ((0 : Int)).toNat) = l) (h0 : ∀ x ∈ l, 0 ≤ x) (h60 : l.length ≤ 60) (hN : 70 < N) (s : Int) :
    rounds (fun s => _impl_Game_setFor.b5 N S q 1 s.1 s.2) N (s, 0) = some (.go (orAll s l)) := by
  refine or_loop l (by omega) ?_ ?_ s
  · intro s i hi
    have g1 : (i : Int) < l.length := by omega
    have g2 : (0 : Int) ≤ i := by omega
    have g3 : 0 ≤ l[i] := h0 _ (List.getElem_mem hi)
    simp only [_impl_Game_setFor.b5, hl, g1, g2, and_self, if_true, rdL_nat hi, g3, i64w_succ hi (show l.length ≤ 9223372036854775807 by omega)]
  · intro s
    simp only [_impl_Game_setFor.b5, hl]
    rw [if_neg (by omega)]
theorem in_2 {N : Nat} {S : Ar (List Int) 4} {q : Ar Int 4} (l : List Int) (hl : ((S.get 2 []).drop ((0 : Int)).toNat).take (((q.get 2 0)).toNat - ((0 : Int)).toNat) = l) (h0 : ∀ x ∈ l, 0 ≤ x) (h60 : l.length ≤ 60) (hN : 70 < N) (s : Int) :
    rounds (fun s => _impl_Game_setFor.b7 N S q 2 s.1 s.2) N (s, 0) = some (.go (orAll s l)) := by
  refine or_loop l (by omega) ?_ ?_ s
  · intro s i hi
    have g1 : (i : Int) < l.length := by omega
    have g2 : (0 : Int) ≤ i := by omega
    have g3 : 0 ≤ l[i] := h0 _ (List.getElem_mem hi)
    simp only [_impl_Game_setFor.b7, hl, g1, g2, and_self, if_true, rdL_nat hi, g3, i64w_succ hi (show l.length ≤ 9223372036854775807 by omega)]
  · intro s
    simp only [_impl_Game_setFor.b7, hl]
    rw [if_neg (by omega)]
theorem in_3 {N : Nat} {S : Ar (List Int) 4} {q : Ar Int 4} (l : List Int) (hl : ((S.get 3 []).drop ((0 : Int)).toNat).take (((q.get 3 0)).toNat - ((0 : Int)).toNat) = l) (h0 : ∀ x ∈ l, 0 ≤ x) (h60 : l.length ≤ 60) (hN : 70 < N) (s : Int) :
    rounds (fun s => _impl_Game_setFor.b9 N S q 3 s.1 s.2) N (s, 0) = some (.go (orAll s l)) := by
  refine or_loop l (by omega) ?_ ?_ s
  · intro s i hi
    have g1 : (i : Int) < l.length := by omega
    have g2 : (0 : Int) ≤ i := by omega
    have g3 : 0 ≤ l[i] := h0 _ (List.getElem_mem hi)
    simp only [_impl_Game_setFor.b9, hl, g1, g2, and_self, if_true, rdL_nat hi, g3, i64w_succ hi (show l.length ≤ 9223372036854775807 by omega)]
  · intro s
    simp only [_impl_Game_setFor.b9, hl]
    rw [if_neg (by omega)]
def tk (G : Ga) (q : Ar Int 4) (k : Nat) (j : Int) : List Int := (sl G k j).take (q.get j 0).toNat
theorem tk_range {G : Ga} {q : Ar Int 4} {k : Nat} {j x : Int} (h : x ∈ tk G q k j) : 0 ≤ x ∧ x < k := sl_mem (List.mem_of_mem_take h)
theorem tk_len (G : Ga) (q : Ar Int 4) (k : Nat) (j : Int) : (tk G q k j).length ≤ k := by
  unfold tk
  have := sl_len G k j
  rw [List.length_take]
  omega
theorem set_impl {N : Nat} {G : Ga} (h : OkG G) (hN : 70 < N) {q : Ar Int 4} (hq : ∀ j : Nat, j < 4 → 0 ≤ q.get j 0 ∧ q.get j 0 ≤ (arS G (nG G)).get j 0) :
    _impl_Game_setFor.f N G q = some (orAll 0 (tk G q (nG G) 0 ++ tk G q (nG G) 1 ++ tk G q (nG G) 2 ++ tk G q (nG G) 3)) := by
  have hn := h.n60
  unfold B60 at hn
  have hn' : nG G ≤ 60 := by unfold nG; omega
  have q0 : 0 ≤ q.get 0 0 ∧ q.get 0 0 ≤ ((sl G (nG G) 0).length : Int) := hq 0 (by omega)
  have q1 : 0 ≤ q.get 1 0 ∧ q.get 1 0 ≤ ((sl G (nG G) 1).length : Int) := hq 1 (by omega)
  have q2 : 0 ≤ q.get 2 0 ∧ q.get 2 0 ≤ ((sl G (nG G) 2).length : Int) := hq 2 (by omega)
  have q3 : 0 ≤ q.get 3 0 ∧ q.get 3 0 ≤ ((sl G (nG G) 3).length : Int) := hq 3 (by omega)
  obtain ⟨N, rfl⟩ : ∃ M, N = M + 5 := ⟨N - 5, by omega⟩
  simp only [_impl_Game_setFor.f, G_eta, sorts_impl h hN, Option.bind_some]
  have e0 : ∀ s, _impl_Game_setFor.b0 (N + 5) q (srS G) s 0 = some (.next (orAll s (tk G q (nG G) 0), 1)) := by
    intro s
    have hin := in_0 (N := N + 5) (S := srS G) (q := q) (tk G q (nG G) 0) (by simp [tk, srS, Ar.get]) (fun x hx => (tk_range hx).1) (by have := tk_len G q (nG G) 0; omega) hN s
    unfold _impl_Game_setFor.b0
    rw [if_pos (show ((0 : Int) < 4) by decide), if_pos (show ((0 : Int) = 0) by decide), if_pos (by decide), if_pos (show (0 : Int) ≤ (0 : Int) ∧ (0 : Int) ≤ q.get 0 0 ∧ q.get 0 0 ≤ (((srS G).get 0 []).length : Int) from ⟨by decide, q0.1, q0.2⟩), hin]
    show some (Bd.next (_, i64w (0 + 1))) = _
    rw [show i64w (0 + 1) = 1 by decide]
  have e1 : ∀ s, _impl_Game_setFor.b0 (N + 5) q (srS G) s 1 = some (.next (orAll s (tk G q (nG G) 1), 2)) := by
    intro s
    have hin := in_1 (N := N + 5) (S := srS G) (q := q) (tk G q (nG G) 1) (by simp [tk, srS, Ar.get]) (fun x hx => (tk_range hx).1) (by have := tk_len G q (nG G) 1; omega) hN s
    unfold _impl_Game_setFor.b0
    rw [if_pos (show ((1 : Int) < 4) by decide), if_neg (show ¬ ((1 : Int) = 0) by decide), if_pos (show ((1 : Int) = 1) by decide), if_pos (by decide), if_pos (show (0 : Int) ≤ (0 : Int) ∧ (0 : Int) ≤ q.get 1 0 ∧ q.get 1 0 ≤ (((srS G).get 1 []).length : Int) from ⟨by decide, q1.1, q1.2⟩), hin]
    show some (Bd.next (_, i64w (1 + 1))) = _
    rw [show i64w (1 + 1) = 2 by decide]
  have e2 : ∀ s, _impl_Game_setFor.b0 (N + 5) q (srS G) s 2 = some (.next (orAll s (tk G q (nG G) 2), 3)) := by
    intro s
    have hin := in_2 (N := N + 5) (S := srS G) (q := q) (tk G q (nG G) 2) (by simp [tk, srS, Ar.get]) (fun x hx => (tk_range hx).1) (by have := tk_len G q (nG G) 2; omega) hN s
    unfold _impl_Game_setFor.b0
    rw [if_pos (show ((2 : Int) < 4) by decide), if_neg (show ¬ ((2 : Int) = 0) by decide), if_neg (show ¬ ((2 : Int) = 1) by decide), if_pos (show ((2 : Int) = 2) by decide), if_pos (by decide), if_pos (show (0 : Int) ≤ (0 : Int) ∧ (0 : Int) ≤ q.get 2 0 ∧ q.get 2 0 ≤ (((srS G).get 2 []).length : Int) from ⟨by decide, q2.1, q2.2⟩), hin]
    show some (Bd.next (_, i64w (2 + 1))) = _
    rw [show i64w (2 + 1) = 3 by decide]
  have e3 : ∀ s, _impl_Game_setFor.b0 (N + 5) q (srS G) s 3 = some (.next (orAll s (tk G q (nG G) 3), 4)) := by
    intro s
    have hin := in_3 (N := N + 5) (S := srS G) (q := q) (tk G q (nG G) 3) (by simp [tk, srS, Ar.get]) (fun x hx => (tk_range hx).1) (by have := tk_len G q (nG G) 3; omega) hN s
    unfold _impl_Game_setFor.b0
    rw [if_pos (show ((3 : Int) < 4) by decide), if_neg (show ¬ ((3 : Int) = 0) by decide), if_neg (show ¬ ((3 : Int) = 1) by decide), if_neg (show ¬ ((3 : Int) = 2) by decide), if_pos (show ((3 : Int) = 3) by decide), if_pos (by decide), if_pos (show (0 : Int) ≤ (0 : Int) ∧ (0 : Int) ≤ q.get 3 0 ∧ q.get 3 0 ≤ (((srS G).get 3 []).length : Int) from ⟨by decide, q3.1, q3.2⟩), hin]
    show some (Bd.next (_, i64w (3 + 1))) = _
    rw [show i64w (3 + 1) = 4 by decide]
  have e4 : ∀ s, _impl_Game_setFor.b0 (N + 5) q (srS G) s 4 = some (.out (.go s)) := by
    intro s
    unfold _impl_Game_setFor.b0
    rw [if_neg (by decide)]
  have qq : rounds (fun s => _impl_Game_setFor.b0 (N + 5) q (srS G) s.1 s.2) (N + 5) (0, 0) = some (.go (orAll 0 (tk G q (nG G) 0 ++ tk G q (nG G) 1 ++ tk G q (nG G) 2 ++ tk G q (nG G) 3))) := by
    rw [rounds_next (e0 0), rounds_next (e1 _), rounds_next (e2 _), rounds_next (e3 _), rounds_out (e4 _)]
    simp only [orAll_append]
  rw [qq]; rfl
theorem mem_snoc {l : List Int} {k x : Int} {a : Nat} : x ∈ (l ++ [k]).take a ↔ x ∈ l.take a ∨ (l.length < a ∧ x = k) := by
  rw [List.take_append, List.mem_append]
  by_cases c : l.length < a
  · rw [show a - l.length = (a - l.length - 1) + 1 by omega]
    simp [c]
  · rw [show a - l.length = 0 by omega]
    simp [c]
theorem inc_iff {G : Ga} (h : OkG G) {q : Ar Int 4} (hq : ∀ j : Nat, j < 4 → 0 ≤ q.get j 0) : ∀ (k : Nat) (x : Int), x ∈ inc G q k ↔ x ∈ tk G q k 0 ++ tk G q k 1 ++ tk G q k 2 ++ tk G q k 3
  | 0, x => by simp [inc, tk, sl, idx]
  | k + 1, x => by
    have ih := inc_iff h hq k x
    have q0 : 0 ≤ q.get 0 0 := hq 0 (by omega)
    have q1 : 0 ≤ q.get 1 0 := hq 1 (by omega)
    have q2 : 0 ≤ q.get 2 0 := hq 2 (by omega)
    have q3 : 0 ≤ q.get 3 0 := hq 3 (by omega)
    simp only [List.mem_append] at ih ⊢
    show x ∈ (if takes G q k then inc G q k ++ [(k : Int)] else inc G q k) ↔ _
    by_cases c : W G (k : Int) ≤ G.f_Lies
    · rcases W_four h c with e | e | e | e
      · have hc : ∀ j, (W G (k : Int) = j ∧ W G (k : Int) ≤ G.f_Lies) ↔ 0 = j := fun j => ⟨fun h => by rw [← e]; exact h.1, fun h => ⟨by rw [e]; exact h, c⟩⟩
        have ht : takes G q k ↔ (sl G k 0).length < (q.get 0 0).toNat := by unfold takes; rw [e]; exact ⟨fun h => by have := h.2; omega, fun h => ⟨by omega, by omega⟩⟩
        have hj : x ∈ tk G q (k + 1) 0 ↔ x ∈ tk G q k 0 ∨ ((sl G k 0).length < (q.get 0 0).toNat ∧ x = (k : Int)) := by
          unfold tk
          rw [sl_succ, if_pos ((hc 0).2 rfl)]
          exact mem_snoc
        have h1 : tk G q (k + 1) 1 = tk G q k 1 := by unfold tk; rw [sl_succ, if_neg (fun x => absurd ((hc 1).1 x) (by decide))]
        have h2 : tk G q (k + 1) 2 = tk G q k 2 := by unfold tk; rw [sl_succ, if_neg (fun x => absurd ((hc 2).1 x) (by decide))]
        have h3 : tk G q (k + 1) 3 = tk G q k 3 := by unfold tk; rw [sl_succ, if_neg (fun x => absurd ((hc 3).1 x) (by decide))]
        rw [h1, h2, h3, hj]
        by_cases t : takes G q k
        · rw [if_pos t, List.mem_append, List.mem_singleton, ih]
          have := ht.1 t
          constructor
          · rintro (h | h)
            · rcases h with ((h | h) | h) | h <;> simp [h]
            · simp [h, this]
          · rintro (((h | h) | h) | h)
            all_goals first | (simp [h]; done) | (rcases h with h | h <;> simp [h])
        · rw [if_neg t, ih]
          have hn : ¬ (sl G k 0).length < (q.get 0 0).toNat := fun x => t (ht.2 x)
          simp only [hn, false_and, or_false]
      · have hc : ∀ j, (W G (k : Int) = j ∧ W G (k : Int) ≤ G.f_Lies) ↔ 1 = j := fun j => ⟨fun h => by rw [← e]; exact h.1, fun h => ⟨by rw [e]; exact h, c⟩⟩
        have ht : takes G q k ↔ (sl G k 1).length < (q.get 1 0).toNat := by unfold takes; rw [e]; exact ⟨fun h => by have := h.2; omega, fun h => ⟨by omega, by omega⟩⟩
        have hj : x ∈ tk G q (k + 1) 1 ↔ x ∈ tk G q k 1 ∨ ((sl G k 1).length < (q.get 1 0).toNat ∧ x = (k : Int)) := by
          unfold tk
          rw [sl_succ, if_pos ((hc 1).2 rfl)]
          exact mem_snoc
        have h0 : tk G q (k + 1) 0 = tk G q k 0 := by unfold tk; rw [sl_succ, if_neg (fun x => absurd ((hc 0).1 x) (by decide))]
        have h2 : tk G q (k + 1) 2 = tk G q k 2 := by unfold tk; rw [sl_succ, if_neg (fun x => absurd ((hc 2).1 x) (by decide))]
        have h3 : tk G q (k + 1) 3 = tk G q k 3 := by unfold tk; rw [sl_succ, if_neg (fun x => absurd ((hc 3).1 x) (by decide))]
        rw [h0, h2, h3, hj]
        by_cases t : takes G q k
        · rw [if_pos t, List.mem_append, List.mem_singleton, ih]
          have := ht.1 t
          constructor
          · rintro (h | h)
            · rcases h with ((h | h) | h) | h <;> simp [h]
            · simp [h, this]
          · rintro (((h | h) | h) | h)
            all_goals first | (simp [h]; done) | (rcases h with h | h <;> simp [h])
        · rw [if_neg t, ih]
          have hn : ¬ (sl G k 1).length < (q.get 1 0).toNat := fun x => t (ht.2 x)
          simp only [hn, false_and, or_false]
      · have hc : ∀ j, (W G (k : Int) = j ∧ W G (k : Int) ≤ G.f_Lies) ↔ 2 = j := fun j => ⟨fun h => by rw [← e]; exact h.1, fun h => ⟨by rw [e]; exact h, c⟩⟩
        have ht : takes G q k ↔ (sl G k 2).length < (q.get 2 0).toNat := by unfold takes; rw [e]; exact ⟨fun h => by have := h.2; omega, fun h => ⟨by omega, by omega⟩⟩
        have hj : x ∈ tk G q (k + 1) 2 ↔ x ∈ tk G q k 2 ∨ ((sl G k 2).length < (q.get 2 0).toNat ∧ x = (k : Int)) := by
          unfold tk
          rw [sl_succ, if_pos ((hc 2).2 rfl)]
          exact mem_snoc
        have h0 : tk G q (k + 1) 0 = tk G q k 0 := by unfold tk; rw [sl_succ, if_neg (fun x => absurd ((hc 0).1 x) (by decide))]
        have h1 : tk G q (k + 1) 1 = tk G q k 1 := by unfold tk; rw [sl_succ, if_neg (fun x => absurd ((hc 1).1 x) (by decide))]
        have h3 : tk G q (k + 1) 3 = tk G q k 3 := by unfold tk; rw [sl_succ, if_neg (fun x => absurd ((hc 3).1 x) (by decide))]
        rw [h0, h1, h3, hj]
        by_cases t : takes G q k
        · rw [if_pos t, List.mem_append, List.mem_singleton, ih]
          have := ht.1 t
          constructor
          · rintro (h | h)
            · rcases h with ((h | h) | h) | h <;> simp [h]
            · simp [h, this]
          · rintro (((h | h) | h) | h)
            all_goals first | (simp [h]; done) | (rcases h with h | h <;> simp [h])
        · rw [if_neg t, ih]
          have hn : ¬ (sl G k 2).length < (q.get 2 0).toNat := fun x => t (ht.2 x)
          simp only [hn, false_and, or_false]
      · have hc : ∀ j, (W G (k : Int) = j ∧ W G (k : Int) ≤ G.f_Lies) ↔ 3 = j := fun j => ⟨fun h => by rw [← e]; exact h.1, fun h => ⟨by rw [e]; exact h, c⟩⟩
        have ht : takes G q k ↔ (sl G k 3).length < (q.get 3 0).toNat := by unfold takes; rw [e]; exact ⟨fun h => by have := h.2; omega, fun h => ⟨by omega, by omega⟩⟩
        have hj : x ∈ tk G q (k + 1) 3 ↔ x ∈ tk G q k 3 ∨ ((sl G k 3).length < (q.get 3 0).toNat ∧ x = (k : Int)) := by
          unfold tk
          rw [sl_succ, if_pos ((hc 3).2 rfl)]
          exact mem_snoc
        have h0 : tk G q (k + 1) 0 = tk G q k 0 := by unfold tk; rw [sl_succ, if_neg (fun x => absurd ((hc 0).1 x) (by decide))]
        have h1 : tk G q (k + 1) 1 = tk G q k 1 := by unfold tk; rw [sl_succ, if_neg (fun x => absurd ((hc 1).1 x) (by decide))]
        have h2 : tk G q (k + 1) 2 = tk G q k 2 := by unfold tk; rw [sl_succ, if_neg (fun x => absurd ((hc 2).1 x) (by decide))]
        rw [h0, h1, h2, hj]
        by_cases t : takes G q k
        · rw [if_pos t, List.mem_append, List.mem_singleton, ih]
          have := ht.1 t
          constructor
          · rintro (h | h)
            · rcases h with ((h | h) | h) | h <;> simp [h]
            · simp [h, this]
          · rintro (((h | h) | h) | h)
            all_goals first | (simp [h]; done) | (rcases h with h | h <;> simp [h])
        · rw [if_neg t, ih]
          have hn : ¬ (sl G k 3).length < (q.get 3 0).toNat := fun x => t (ht.2 x)
          simp only [hn, false_and, or_false]
    · have ht : ¬ takes G q k := fun x => c x.1
      have hs : ∀ j, tk G q (k + 1) j = tk G q k j := fun j => by unfold tk; rw [sl_succ, if_neg (fun x => c x.2)]
      rw [if_neg ht, hs, hs, hs, hs, ih]
theorem set_same {N : Nat} {G : Ga} (h : OkG G) (hN : 70 < N) {q : Ar Int 4} (hq : ∀ j : Nat, j < 4 → 0 ≤ q.get j 0 ∧ q.get j 0 ≤ (arS G (nG G)).get j 0) : ∃ r, spec_l06Set.f N G q = some r ∧ _impl_Game_setFor.f N G q = some r := by
  have hn := h.n60
  unfold B60 at hn
  have hn' : nG G ≤ 60 := by unfold nG; omega
  have hb : ∀ j : Nat, j < 4 → (arS G (nG G)).get j 0 ≤ 60 := by
    intro j hj
    have h0 := sl_len G (nG G) 0
    have h1 := sl_len G (nG G) 1
    have h2 := sl_len G (nG G) 2
    have h3 := sl_len G (nG G) 3
    obtain rfl | rfl | rfl | rfl : j = 0 ∨ j = 1 ∨ j = 2 ∨ j = 3 := by omega
    · show ((sl G (nG G) 0).length : Int) ≤ 60; omega
    · show ((sl G (nG G) 1).length : Int) ≤ 60; omega
    · show ((sl G (nG G) 2).length : Int) ≤ 60; omega
    · show ((sl G (nG G) 3).length : Int) ≤ 60; omega
  refine ⟨_, set_spec h hN fun j hj => ⟨(hq j hj).1, by have := hq j hj; have := hb j hj; omega⟩, ?_⟩
  rw [set_impl h hN hq]
  congr 1
  refine orAll_same (fun x hx => ?_) (fun x hx => ?_) (fun x => (inc_iff h (fun j hj => (hq j hj).1) (nG G) x).symm)
  · simp only [List.mem_append] at hx
    rcases hx with ((hx | hx) | hx) | hx <;> (have := tk_range hx; omega)
  · have := inc_mem_range hx
    omega
end Go.Proofs.YtpbkenbmjgchkaaX
