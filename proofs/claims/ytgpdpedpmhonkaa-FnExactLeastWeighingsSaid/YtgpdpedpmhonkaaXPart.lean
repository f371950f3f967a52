/- An array that is a field of a variable: its elements. -/
import Derived.Test.YtgpdpedpmhonkaaXFld
import Derived.Test.YtgpdpedpmhonkaaXKey
namespace Go.Proofs.YtgpdpedpmhonkaaX
open Go Go.RowKit
set_option linter.unusedVariables false
theorem part_get {α : Type} {n m : Nat} {e : α → List Value} (he : ∀ x, (e x).length = m) (a : Ar α n) (i : Int) (z : α) (h0 : 0 ≤ i) (h1 : i < n) (pre post : List Value) {cs : List Value} {off : Nat} (hc : cs = pre ++ (encA e a ++ post)) (hp : pre.length = off) :
    (cs.drop (off + i.toNat * m)).take m = e (a.get i z) := by
  subst hp hc
  have hl := encA_len he a
  have hle : i.toNat * m + m ≤ n * m := by rw [← Nat.succ_mul]; exact Nat.mul_le_mul_right _ (by omega)
  rw [List.drop_append, List.drop_eq_nil_of_le (show pre.length ≤ pre.length + i.toNat * m by omega), List.nil_append, show pre.length + i.toNat * m - pre.length = i.toNat * m by omega,
    List.drop_append_of_le_length (by rw [hl]; omega), List.take_append_of_le_length (by rw [List.length_drop, hl]; omega)]
  exact encA_at he a i z h0 h1
theorem part_set {α : Type} {n m : Nat} {e : α → List Value} (he : ∀ x, (e x).length = m) (a : Ar α n) (i : Int) (y : α) (h0 : 0 ≤ i) (h1 : i < n) (pre post : List Value) {cs cs' : List Value} {off : Nat} (hc : cs = pre ++ (encA e a ++ post)) (hp : pre.length = off) (hc' : cs' = pre ++ (encA e (a.set i y) ++ post)) :
    cs.take (off + i.toNat * m) ++ e y ++ cs.drop (off + i.toNat * m + (e y).length) = cs' := by
  subst hp hc hc'
  have hl := encA_len he a
  have hle : i.toNat * m + m ≤ n * m := by rw [← Nat.succ_mul]; exact Nat.mul_le_mul_right _ (by omega)
  have hs := encA_set he a i y h0 h1
  rw [he] at hs ⊢
  rw [List.take_append, List.take_of_length_le (show pre.length ≤ pre.length + i.toNat * m by omega), show pre.length + i.toNat * m - pre.length = i.toNat * m by omega, List.take_append_of_le_length (by rw [hl]; omega),
    List.drop_append, List.drop_eq_nil_of_le (show pre.length ≤ pre.length + i.toNat * m + m by omega), List.nil_append, show pre.length + i.toNat * m + m - pre.length = i.toNat * m + m by omega, List.drop_append_of_le_length (by rw [hl]; omega)]
  rw [← hs]
  simp only [List.append_assoc]
theorem fld_put {pre old post vs cs cs' : List Value} {off : Nat} (hc : cs = pre ++ (old ++ post)) (hp : pre.length = off) (ho : old.length = vs.length) (hc' : cs' = pre ++ (vs ++ post)) : cs.take off ++ vs ++ cs.drop (off + vs.length) = cs' := by
  subst hc hp hc'
  rw [List.take_append_of_le_length (Nat.le_refl _), List.take_length, ← ho, ← List.append_assoc pre old post, ← List.length_append, List.drop_append_of_le_length (Nat.le_refl _), List.drop_length, List.nil_append, List.append_assoc]
theorem fld_fit {pre old post vs cs : List Value} {off : Nat} (hc : cs = pre ++ (old ++ post)) (hp : pre.length = off) (ho : old.length = vs.length) : off + vs.length ≤ cs.length := by
  subst hc hp
  simp only [List.length_append]
  omega
theorem own_addr {α : Type} {κ : K α} {E : TypeId} {v : Value} {xs : List α} {w0 w : World} {Γ : List As} (h : St w0 (Row E κ v xs :: Γ) w) (hne : 0 < xs.length) : ∃ b cap, v = .slice (some ⟨b, 0, none⟩) xs.length cap := by
  obtain ⟨F, ⟨cs, F', _, h1, h2⟩, _⟩ := h.head
  rcases h1.2 with ⟨rfl, h0⟩ | ⟨g, cap, cur, rfl, _⟩
  · omega
  · exact ⟨g, cap, rfl⟩
theorem equalIn_structI {P : Program} {w : World} {d : Nat} {xs ys : Array Value} {T : TypeId} {fs : List Field} {r : Bool} (ht : P.underlying T = some (.struct fs.toArray)) (hp : P.stoodInHeld T = false) (h : (Op.eqFields d xs ys fs).run P w = .ok r w) :
    (Op.equalIn (d + 1) T (.agg xs) (.agg ys)).run P w = .ok r w := by
  have e : P.fieldsOf T = fs.toArray := by simp [Program.fieldsOf, ht]
  have q := run_equalIn_struct w d T xs ys (by rw [e]; exact ht) hp
  rw [e] at q
  exact q.trans (by simpa using h)
section
variable {P : Program} {f : FuncId} {R : Ending → World → Prop} {k : List Item} {t : List Value} {w0 w : World} {Γ : List As} {ops : Array Oper} {i : Nat} {rest : List Nat} {o : Oper}
theorem s_storeP {α : Type} {N m : Nat} {e : α → List Value} (he : ∀ x, (e x).length = m) (h1 : ∀ x, ∀ v ∈ e x, v.oneCell' = true) {a : Ar α N} {n : Int} (h0 : 0 ≤ n) (hn : n < N) (pre post : List Value) {b off : Nat} {cs : List Value} {E : TypeId} (hc : cs = pre ++ (encA e a ++ post)) (hp : pre.length = off) (h : St w0 (Cells b cs E :: Γ) w)
    (ho : ops[i]? = some o) (hw : Region.wanted o (yl ops t) = true) {T : TypeId} {ad x : Operand} {y : α} {cs' : List Value} (hc' : cs' = pre ++ (encA e (a.set n y) ++ post))
    (hop : o.op = .store T ad x) (ha : ev t ad = .pointer (some ⟨b, off + n.toNat * m, none⟩)) (hv : (ev t x).cells = (e y).toArray) (hsz : ∀ w, (Go.sizeOf T).run P w = .ok m w)
    (hk : ∀ w1, St w0 (Cells b cs' E :: Γ) w1 → G P f R (.inRegion ops rest :: k) (put t o.dst undef) w1) : G P f R (.inRegion ops (i :: rest) :: k) t w := by
  refine s_store h ho hw hop ha hv hsz (he y) ?_ (h1 y) (part_set he a n y h0 hn pre post hc hp hc') hk
  have hl := encA_len he a
  have hle : n.toNat * m + m ≤ N * m := by rw [← Nat.succ_mul]; exact Nat.mul_le_mul_right _ (by omega)
  rw [hc, he, List.length_append, List.length_append, hl, hp]
  omega
theorem x_sliceAH {x y : Operand} {T E : TypeId} {n m : Nat} {b : Nat} {q : IntKind} {c : Int} (hop : o.op = .slice T x none (some y) none) (hT : P.underlying T = some (.array n E)) (hsz : ∀ w, (Go.sizeOf E).run P w = .ok m w) (hx : ev t x = .pointer (some ⟨b, 0, none⟩)) (hy : ev t y = .int q c) (h0 : 0 ≤ c) (h1 : c ≤ (n : Int)) :
    (execOp (ev t) o).run P w = .ok (.value (subV (.slice (some ⟨b, 0, none⟩) n n) m (0 : Int).toNat c.toNat)) w := by
  obtain ⟨c, rfl⟩ := Int.eq_ofNat_of_zero_le h0
  simp only [execOp, hop]
  refine run_value ?_
  have h2 : c ≤ n := by omega
  simp [Instr.sliceAt, run_underlying hT, hx, hy, Instr.sureAddr, Instr.sliceBounds, Instr.sliceBound, asIntOf, hsz, subV, h2]
  all_goals (first | rfl | (intro hh; omega) | (split <;> simp_all))
end
end Go.Proofs.YtgpdpedpmhonkaaX
