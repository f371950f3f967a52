/- Games of questions and lies, plainly: the set that is asked. -/
import Derived.Test.YtpbkenbmjgchkaaYB
namespace Go.Proofs.YtpbkenbmjgchkaaX
open Go
set_option linter.unusedVariables false
set_option linter.unusedSimpArgs false
def B64 (x : Int) : BitVec 64 := BitVec.ofInt 64 x
theorem wrap64 (b : BitVec 64) : u64w (b.toNat : Int) = b.toNat := u64w_id (by omega) (by have := b.isLt; omega)
theorem bOr_eq (x y : Int) : bOr .u64 x y = ((B64 x ||| B64 y).toNat : Int) := wrap64 (B64 x ||| B64 y)
theorem B64_nat (b : BitVec 64) : B64 (b.toNat : Int) = b := by simp [B64]
theorem B64_or (x y : Int) : B64 (bOr .u64 x y) = B64 x ||| B64 y := by rw [bOr_eq, B64_nat]
theorem bit_tab : ∀ m : Nat, m < 64 → B64 (shlI .u64 1 (m : Int)) = BitVec.twoPow 64 m := by decide +kernel
/-- A set with further numbers. -/
def orAll (s : Int) (l : List Int) : Int := l.foldl (fun s m => bOr .u64 s (shlI .u64 1 m)) s
def InU (x : Int) : Prop := x = ((B64 x).toNat : Int)
theorem orAll_in : ∀ (l : List Int) (s : Int), InU s → InU (orAll s l)
  | [], s, h => h
  | m :: l, s, h => orAll_in l _ (by show bOr .u64 s (shlI .u64 1 m) = ((B64 (bOr .u64 s (shlI .u64 1 m))).toNat : Int); rw [B64_or, bOr_eq])
theorem orAll_bits : ∀ (l : List Int) (s : Int), (∀ x ∈ l, 0 ≤ x ∧ x < 64) → ∀ i : Nat, i < 64 → (B64 (orAll s l)).getLsbD i = ((B64 s).getLsbD i || l.contains (i : Int))
  | [], s, _, i, _ => by simp [orAll]
  | m :: l, s, h, i, hi => by
    have hm := h m (by simp)
    have ih := orAll_bits l (bOr .u64 s (shlI .u64 1 m)) (fun x hx => h x (by simp [hx])) i hi
    obtain ⟨k, rfl⟩ := Int.eq_ofNat_of_zero_le hm.1
    show (B64 (orAll (bOr .u64 s (shlI .u64 1 (k : Int))) l)).getLsbD i = _
    rw [ih, B64_or, bit_tab k (by omega)]
    simp only [BitVec.getLsbD_or, BitVec.getLsbD_twoPow, List.contains_cons]
    have hk : k < 64 := by omega
    have e : decide (k = i) = ((i : Int) == (k : Int)) := by
      rw [Bool.eq_iff_iff, decide_eq_true_eq, beq_iff_eq]
      omega
    simp only [decide_eq_true hk, Bool.true_and, e, Bool.or_assoc]
theorem orAll_same {l l' : List Int} (h : ∀ x ∈ l, 0 ≤ x ∧ x < 64) (h' : ∀ x ∈ l', 0 ≤ x ∧ x < 64) (hm : ∀ x, x ∈ l ↔ x ∈ l') : orAll 0 l = orAll 0 l' := by
  have i0 : InU 0 := by unfold InU B64; decide
  have e1 : InU (orAll 0 l) := orAll_in l 0 i0
  have e2 : InU (orAll 0 l') := orAll_in l' 0 i0
  have e3 : B64 (orAll 0 l) = B64 (orAll 0 l') := by
    apply BitVec.eq_of_getLsbD_eq
    intro i hi
    rw [orAll_bits l 0 h i hi, orAll_bits l' 0 h' i hi]
    congr 1
    rw [Bool.eq_iff_iff, List.contains_iff_mem, List.contains_iff_mem]
    exact hm _
  unfold InU at e1 e2
  rw [e1, e2, e3]
theorem orAll_append (s : Int) (l l' : List Int) : orAll s (l ++ l') = orAll (orAll s l) l' := by simp [orAll, List.foldl_append]
theorem orAll_snoc (s : Int) (l : List Int) (m : Int) : orAll s (l ++ [m]) = bOr .u64 (orAll s l) (shlI .u64 1 m) := by simp [orAll, List.foldl_append]

/- the reference -/
/-- Whether the k-th number is taken. -/
def takes (G : Ga) (q : Ar Int 4) (k : Nat) : Prop := W G (k : Int) ≤ G.f_Lies ∧ ((sl G k (W G (k : Int))).length : Int) < q.get (W G (k : Int)) 0
instance (G : Ga) (q : Ar Int 4) (k : Nat) : Decidable (takes G q k) := by unfold takes; infer_instance
def inc (G : Ga) (q : Ar Int 4) : Nat → List Int
  | 0 => []
  | k + 1 => if takes G q k then inc G q k ++ [(k : Int)] else inc G q k
theorem inc_mem_range {G : Ga} {q : Ar Int 4} : ∀ {k : Nat} {x : Int}, x ∈ inc G q k → 0 ≤ x ∧ x < k
  | 0, x, h => by cases h
  | k + 1, x, h => by
    unfold inc at h
    split at h
    · rcases List.mem_append.1 h with h | h
      · have := inc_mem_range h; omega
      · rw [List.mem_singleton] at h; omega
    · have := inc_mem_range h; omega
/-- What is left of one number of an ask. -/
def lf (q s : Int) : Int := if s < q then q - s else 0
def rem (G : Ga) (q : Ar Int 4) (k : Nat) : Ar Int 4 :=
  ⟨[lf (q.get 0 0) ((sl G k 0).length : Int), lf (q.get 1 0) ((sl G k 1).length : Int), lf (q.get 2 0) ((sl G k 2).length : Int), lf (q.get 3 0) ((sl G k 3).length : Int)], rfl⟩
theorem Ar4 (q : Ar Int 4) : q = ⟨[q.get 0 0, q.get 1 0, q.get 2 0, q.get 3 0], rfl⟩ := by
  obtain ⟨l, h⟩ := q
  apply Ar.ext'
  match l, h with
  | [a, b, c, d], _ => rfl
theorem set_spec {N : Nat} {G : Ga} (h : OkG G) (hN : 70 < N) {q : Ar Int 4} (hq : ∀ j : Nat, j < 4 → 0 ≤ q.get j 0 ∧ q.get j 0 ≤ 1000) : spec_l06Set.f N G q = some (orAll 0 (inc G q (nG G))) := by
  have hn := h.n60
  have hl := h.l3
  have hlen := h.len
  unfold B60 at hn
  have q0 : 0 ≤ q.get 0 0 ∧ q.get 0 0 ≤ 1000 := hq 0 (by omega)
  have q1 : 0 ≤ q.get 1 0 ∧ q.get 1 0 ≤ 1000 := hq 1 (by omega)
  have q2 : 0 ≤ q.get 2 0 ∧ q.get 2 0 ≤ 1000 := hq 2 (by omega)
  have q3 : 0 ≤ q.get 3 0 ∧ q.get 3 0 ≤ 1000 := hq 3 (by omega)
  have qq := rounds_for (b := fun s => spec_l06Set.b0 N G s.1 s.2.1 s.2.2) (e := .go (orAll 0 (inc G q (nG G)))) (fun k => (rem G q k, orAll 0 (inc G q k), (k : Int))) (nG G) 0 N (by omega) (by unfold nG; omega) (by
    intro i _ hi
    unfold nG at hi
    have g2 : (0 : Int) ≤ (i : Int) := by omega
    simp only [spec_l06Set.b0, spec_l06Set.j2, i64w_id (x := G.f_Numbers) (by omega) (by omega), i64w_id (x := G.f_Lies) (by omega) (by omega), G_eta, lies_spec hlen hN (m := (i : Int)) ⟨by omega, by omega⟩, Option.bind_some, u64w_id (x := (i : Int)) (by omega) (by omega), g2, if_true]
    rw [if_pos (by omega), i64w_id (x := (i : Int) + 1) (by omega) (by omega), show (i : Int) + 1 = ((i + 1 : Nat) : Int) by omega]
    have h0 := sl_len G i 0
    have h1 := sl_len G i 1
    have h2 := sl_len G i 2
    have h3 := sl_len G i 3
    by_cases c : W G (i : Int) ≤ G.f_Lies
    · rw [if_pos c]
      rcases W_four h c with e | e | e | e
      · have hc : ∀ j, (W G (i : Int) = j ∧ W G (i : Int) ≤ G.f_Lies) ↔ 0 = j := fun j => ⟨fun h => by rw [← e]; exact h.1, fun h => ⟨by rw [e]; exact h, c⟩⟩
        have hg : (rem G q i).get 0 0 = lf (q.get 0 0) ((sl G i 0).length : Int) := rfl
        have ht : takes G q i ↔ ((sl G i 0).length : Int) < q.get 0 0 := by unfold takes; rw [e]; exact ⟨fun h => h.2, fun h => ⟨by omega, h⟩⟩
        simp only [e, hg]
        rw [if_pos (by omega)]
        by_cases t : ((sl G i 0).length : Int) < q.get 0 0
        · have hlf : lf (q.get 0 0) ((sl G i 0).length : Int) = q.get 0 0 - ((sl G i 0).length : Int) := if_pos t
          rw [hlf, if_pos (by omega), if_pos (by omega), if_pos (by omega), i64w_id (by omega) (by omega)]
          have e1 : inc G q (i + 1) = inc G q i ++ [(i : Int)] := by show (if takes G q i then _ else _) = _; rw [if_pos (ht.2 t)]
          rw [e1, orAll_snoc]
          have e2 : (rem G q i).set 0 (q.get 0 0 - ((sl G i 0).length : Int) - 1) = rem G q (i + 1) := by
            apply Ar.ext'
            simp only [rem, sl_succ, hc, Ar.set]
            simp [lf]
            split <;> omega
          rw [e2]
        · have hlf : lf (q.get 0 0) ((sl G i 0).length : Int) = 0 := if_neg t
          rw [hlf, if_neg (by omega)]
          have e1 : inc G q (i + 1) = inc G q i := by show (if takes G q i then _ else _) = _; rw [if_neg (fun x => t (ht.1 x))]
          rw [e1]
          have e2 : rem G q (i + 1) = rem G q i := by
            apply Ar.ext'
            simp only [rem, sl_succ, hc]
            simp [lf]
            omega
          rw [e2]
      · have hc : ∀ j, (W G (i : Int) = j ∧ W G (i : Int) ≤ G.f_Lies) ↔ 1 = j := fun j => ⟨fun h => by rw [← e]; exact h.1, fun h => ⟨by rw [e]; exact h, c⟩⟩
        have hg : (rem G q i).get 1 0 = lf (q.get 1 0) ((sl G i 1).length : Int) := rfl
        have ht : takes G q i ↔ ((sl G i 1).length : Int) < q.get 1 0 := by unfold takes; rw [e]; exact ⟨fun h => h.2, fun h => ⟨by omega, h⟩⟩
        simp only [e, hg]
        rw [if_pos (by omega)]
        by_cases t : ((sl G i 1).length : Int) < q.get 1 0
        · have hlf : lf (q.get 1 0) ((sl G i 1).length : Int) = q.get 1 0 - ((sl G i 1).length : Int) := if_pos t
          rw [hlf, if_pos (by omega), if_pos (by omega), if_pos (by omega), i64w_id (by omega) (by omega)]
          have e1 : inc G q (i + 1) = inc G q i ++ [(i : Int)] := by show (if takes G q i then _ else _) = _; rw [if_pos (ht.2 t)]
          rw [e1, orAll_snoc]
          have e2 : (rem G q i).set 1 (q.get 1 0 - ((sl G i 1).length : Int) - 1) = rem G q (i + 1) := by
            apply Ar.ext'
            simp only [rem, sl_succ, hc, Ar.set]
            simp [lf]
            split <;> omega
          rw [e2]
        · have hlf : lf (q.get 1 0) ((sl G i 1).length : Int) = 0 := if_neg t
          rw [hlf, if_neg (by omega)]
          have e1 : inc G q (i + 1) = inc G q i := by show (if takes G q i then _ else _) = _; rw [if_neg (fun x => t (ht.1 x))]
          rw [e1]
          have e2 : rem G q (i + 1) = rem G q i := by
            apply Ar.ext'
            simp only [rem, sl_succ, hc]
            simp [lf]
            omega
          rw [e2]
      · have hc : ∀ j, (W G (i : Int) = j ∧ W G (i : Int) ≤ G.f_Lies) ↔ 2 = j := fun j => ⟨fun h => by rw [← e]; exact h.1, fun h => ⟨by rw [e]; exact h, c⟩⟩
        have hg : (rem G q i).get 2 0 = lf (q.get 2 0) ((sl G i 2).length : Int) := rfl
        have ht : takes G q i ↔ ((sl G i 2).length : Int) < q.get 2 0 := by unfold takes; rw [e]; exact ⟨fun h => h.2, fun h => ⟨by omega, h⟩⟩
        simp only [e, hg]
        rw [if_pos (by omega)]
        by_cases t : ((sl G i 2).length : Int) < q.get 2 0
        · have hlf : lf (q.get 2 0) ((sl G i 2).length : Int) = q.get 2 0 - ((sl G i 2).length : Int) := if_pos t
          rw [hlf, if_pos (by omega), if_pos (by omega), if_pos (by omega), i64w_id (by omega) (by omega)]
          have e1 : inc G q (i + 1) = inc G q i ++ [(i : Int)] := by show (if takes G q i then _ else _) = _; rw [if_pos (ht.2 t)]
          rw [e1, orAll_snoc]
          have e2 : (rem G q i).set 2 (q.get 2 0 - ((sl G i 2).length : Int) - 1) = rem G q (i + 1) := by
            apply Ar.ext'
            simp only [rem, sl_succ, hc, Ar.set]
            simp [lf]
            split <;> omega
          rw [e2]
        · have hlf : lf (q.get 2 0) ((sl G i 2).length : Int) = 0 := if_neg t
          rw [hlf, if_neg (by omega)]
          have e1 : inc G q (i + 1) = inc G q i := by show (if takes G q i then _ else _) = _; rw [if_neg (fun x => t (ht.1 x))]
          rw [e1]
          have e2 : rem G q (i + 1) = rem G q i := by
            apply Ar.ext'
            simp only [rem, sl_succ, hc]
            simp [lf]
            omega
          rw [e2]
      · have hc : ∀ j, (W G (i : Int) = j ∧ W G (i : Int) ≤ G.f_Lies) ↔ 3 = j := fun j => ⟨fun h => by rw [← e]; exact h.1, fun h => ⟨by rw [e]; exact h, c⟩⟩
        have hg : (rem G q i).get 3 0 = lf (q.get 3 0) ((sl G i 3).length : Int) := rfl
        have ht : takes G q i ↔ ((sl G i 3).length : Int) < q.get 3 0 := by unfold takes; rw [e]; exact ⟨fun h => h.2, fun h => ⟨by omega, h⟩⟩
        simp only [e, hg]
        rw [if_pos (by omega)]
        by_cases t : ((sl G i 3).length : Int) < q.get 3 0
        · have hlf : lf (q.get 3 0) ((sl G i 3).length : Int) = q.get 3 0 - ((sl G i 3).length : Int) := if_pos t
          rw [hlf, if_pos (by omega), if_pos (by omega), if_pos (by omega), i64w_id (by omega) (by omega)]
          have e1 : inc G q (i + 1) = inc G q i ++ [(i : Int)] := by show (if takes G q i then _ else _) = _; rw [if_pos (ht.2 t)]
          rw [e1, orAll_snoc]
          have e2 : (rem G q i).set 3 (q.get 3 0 - ((sl G i 3).length : Int) - 1) = rem G q (i + 1) := by
            apply Ar.ext'
            simp only [rem, sl_succ, hc, Ar.set]
            simp [lf]
            split <;> omega
          rw [e2]
        · have hlf : lf (q.get 3 0) ((sl G i 3).length : Int) = 0 := if_neg t
          rw [hlf, if_neg (by omega)]
          have e1 : inc G q (i + 1) = inc G q i := by show (if takes G q i then _ else _) = _; rw [if_neg (fun x => t (ht.1 x))]
          rw [e1]
          have e2 : rem G q (i + 1) = rem G q i := by
            apply Ar.ext'
            simp only [rem, sl_succ, hc]
            simp [lf]
            omega
          rw [e2]
    · rw [if_neg c]
      have e1 : inc G q (i + 1) = inc G q i := by show (if takes G q i then _ else _) = _; rw [if_neg (fun x => c x.1)]
      have e2 : rem G q (i + 1) = rem G q i := by
        simp only [rem, sl_succ, show ∀ j, ¬ (W G (i : Int) = j ∧ W G (i : Int) ≤ G.f_Lies) from fun j hj => c hj.2, if_false]
      rw [e1, e2]) (by
    simp only [spec_l06Set.b0, i64w_id (x := G.f_Numbers) (by omega) (by omega)]
    unfold nG
    rw [if_neg (by omega)])
  have e0 : rem G q 0 = q := by
    rw [Ar4 q]
    apply Ar.ext'
    show [lf (q.get 0 0) 0, lf (q.get 1 0) 0, lf (q.get 2 0) 0, lf (q.get 3 0) 0] = [q.get 0 0, q.get 1 0, q.get 2 0, q.get 3 0]
    have lz : ∀ v : Int, 0 ≤ v → lf v 0 = v := fun v hv => by unfold lf; split <;> omega
    have q0' : 0 ≤ q.get 0 0 := q0.1
    have q1' : 0 ≤ q.get 1 0 := q1.1
    have q2' : 0 ≤ q.get 2 0 := q2.1
    have q3' : 0 ≤ q.get 3 0 := q3.1
    rw [lz _ q0', lz _ q1', lz _ q2', lz _ q3']
  have q' : rounds (fun s => spec_l06Set.b0 N G s.1 s.2.1 s.2.2) N (q, 0, 0) = some (.go (orAll 0 (inc G q (nG G)))) := by
    have := qq
    simp only [e0] at this
    exact this
  unfold spec_l06Set.f
  rw [q']; rfl
end Go.Proofs.YtpbkenbmjgchkaaX
