/- What can be next behind a moment; how often; the program's events, when ways are counted. -/
import Derived.Test.YtioefkcldfjobaaYM
namespace Go.Proofs.YtioefkcldfjobaaX
open Go
set_option linter.unusedVariables false
set_option linter.unusedSimpArgs false
abbrev Mo := S_impl_moment
abbrev T4 := Ar Int 4
/-- Glasses that hold, with no more than 3000 tops. -/
structure Gl (a : List Int) : Prop where
  ok : okG a
  len : a.length ≤ 4
  few : prodR a ≤ 3000
/-- The tops at the next event, when a set is turned, and how long it takes. -/
def nxt (N : Nat) (a : List Int) (c : T4) (s : Nat) : T4 × Int := match spec_l07Turn.f N a c (s : Int) with
  | some r => (spec_l07Wait.f N r).getD (c, 0)
  | none => (c, 0)
theorem nxt_ok {N : Nat} {a : List Int} (G : Gl a) {c : T4} (hf : fits a c) {s : Nat} (hs : s ≤ 255) (hN : 5 < N) :
    ∃ r, spec_l07Turn.f N a c (s : Int) = some r ∧ _impl_Glasses_turned.f N a c (s : Int) = some r ∧ spec_l07Wait.f N r = some (nxt N a c s) ∧ impl_wait.f N r = some (nxt N a c s) ∧ fits a (nxt N a c s).1 ∧ 0 ≤ (nxt N a c s).2 ∧ (nxt N a c s).2 ≤ 40 := by
  obtain ⟨r, h1, h2, h3⟩ := turn_eq (N := N) (x := (s : Int)) G.ok G.len hf (by omega) (by omega) hN
  obtain ⟨w, g1, g2, g3, g4, g5⟩ := wait_eq (N := N) G.ok h3 hN
  have e : nxt N a c s = w := by unfold nxt; rw [h1]; simp only [g1]; rfl
  rw [e]
  exact ⟨r, h1, h2, g1, g2, g3, g4, g5⟩
/-- The moment that is next, if there is one in time. -/
def suc (N : Nat) (a : List Int) (T : Int) (x : Mo) (s : Nat) : Option Mo :=
  if (nxt N a x.f_tops s).2 > 0 then (if x.f_time + (nxt N a x.f_tops s).2 ≤ T then some ⟨x.f_time + (nxt N a x.f_tops s).2, (nxt N a x.f_tops s).1⟩ else none) else none
/-- How many of the first sets lead there. -/
def cnt (N : Nat) (a : List Int) (T : Int) (x y : Mo) : Nat → Int
  | 0 => 0
  | m + 1 => cnt N a T x y m + (if suc N a T x m = some y then 1 else 0)
/-- A moment in time. -/
def okM (a : List Int) (T : Int) (x : Mo) : Prop := (0 ≤ x.f_time ∧ x.f_time ≤ T) ∧ fits a x.f_tops
theorem suc_ok {N : Nat} {a : List Int} (G : Gl a) {T : Int} {x y : Mo} (hx : okM a T x) {s : Nat} (hs : s ≤ 255) (hN : 5 < N) (h : suc N a T x s = some y) : okM a T y := by
  obtain ⟨r, _, _, _, _, h3, h4, _⟩ := nxt_ok G hx.2 hs hN
  unfold suc at h
  split at h
  · split at h
    · rename_i g1 g2
      cases h
      have := hx.1
      exact ⟨⟨by dsimp only; omega, g2⟩, h3⟩
    · cases h
  · cases h
theorem pow_le {n : Nat} (h : n ≤ 4) : 2 ^ n ≤ 16 ∧ 1 ≤ 2 ^ n := by
  match n, h with
  | 0, _ => decide
  | 1, _ => decide
  | 2, _ => decide
  | 3, _ => decide
  | 4, _ => decide
theorem pow_cast (n : Nat) : (2 : Int) ^ n = ((2 ^ n : Nat) : Int) := by simp
abbrev KM := List (Mo × Int)
/-- Keys that stand once, moments in time. -/
structure OkK (a : List Int) (T : Int) (kv : KM) : Prop where
  nd : (kv.map (·.1)).Nodup
  key : ∀ k ∈ kv.map (·.1), okM a T k
theorem OkK.set {a : List Int} {T : Int} {kv : KM} (h : OkK a T kv) {k : Mo} (hk : okM a T k) (v : Int) : OkK a T (mSet kv k v) :=
  ⟨mSet_nodup h.nd k v, fun x hx => (mSet_in hx).elim (h.key x) fun e => by subst e; exact hk⟩
theorem ev_step {N : Nat} {a : List Int} (G : Gl a) {T : Int} (hT : T ≤ 120) {x : Mo} (hx : okM a T x) (hN : 5 < N) {s : Nat} (hs : s < 2 ^ a.length) (kv : KM) (w : Int) :
    _impl_Glasses_events_at_impl_PlansFor_1.b0 N a x T kv w (s : Int) = some (.next ((match suc N a T x s with | some y => mSet kv y (i64w (mGet kv y 0 + w)) | none => kv), w, ((s + 1 : Nat) : Int))) := by
  have hp := pow_le G.len
  obtain ⟨r, _, h2, _, h4, h5, h6, h7⟩ := nxt_ok (N := N) (s := s) G hx.2 (by omega) hN
  have hx1 := hx.1
  have ht : i64w (x.f_time + (nxt N a x.f_tops s).2) = x.f_time + (nxt N a x.f_tops s).2 := i64w_id (by omega) (by omega)
  have e1 : i64w ((s : Int) + 1) = ((s + 1 : Nat) : Int) := i64w_id (by omega) (by omega)
  unfold _impl_Glasses_events_at_impl_PlansFor_1.b0
  rw [if_pos (by rw [sets_all _ G.len, pow_cast]; omega), u8w_id (x := (s : Int)) (by omega) (by omega), h2, Option.bind_some, h4, Option.bind_some, ht]
  unfold suc _impl_Glasses_events_at_impl_PlansFor_1.j2 impl_PlansFor_1.f
  rw [e1]
  by_cases c1 : (nxt N a x.f_tops s).2 > 0
  · rw [if_pos c1, if_pos c1]
    by_cases c2 : x.f_time + (nxt N a x.f_tops s).2 ≤ T
    · rw [if_pos c2, if_pos c2, Option.bind_some]
    · rw [if_neg c2, if_neg c2]
  · rw [if_neg c1, if_neg c1]
theorem ev_loop {N : Nat} {a : List Int} (G : Gl a) {T : Int} (hT : T ≤ 120) {x : Mo} (hx : okM a T x) (hN : 5 < N) {kv0 : KM} (w : Int) (hw : ∀ y, i64w (mGet kv0 y 0) = mGet kv0 y 0) :
    ∀ (m s : Nat) (kv : KM), s ≤ 2 ^ a.length → 2 ^ a.length - s < m → OkK a T kv → (∀ y, mGet kv y 0 = i64w (mGet kv0 y 0 + cnt N a T x y s * w)) → kv.length ≤ kv0.length + s →
    ∃ kv', rounds (fun q => _impl_Glasses_events_at_impl_PlansFor_1.b0 N a x T q.1 q.2.1 q.2.2) m (kv, w, (s : Int)) = some (.go (kv', w)) ∧ OkK a T kv' ∧ (∀ y, mGet kv' y 0 = i64w (mGet kv0 y 0 + cnt N a T x y (2 ^ a.length) * w)) ∧ kv'.length ≤ kv0.length + 16 := by
  have hp := pow_le G.len
  intro m
  induction m with
  | zero => intro s kv _ h; exact absurd h (Nat.not_lt_zero _)
  | succ m ih =>
    intro s kv hs hm hk hg hl
    by_cases c : s < 2 ^ a.length
    · have hb := ev_step G hT hx hN c kv w
      have hnx := rounds_next (n := m) (b := fun q : KM × Int × Int => _impl_Glasses_events_at_impl_PlansFor_1.b0 N a x T q.1 q.2.1 q.2.2) (s := (kv, w, (s : Int))) hb
      have fin : ∀ kv2 : KM, (match suc N a T x s with | some y => mSet kv y (i64w (mGet kv y 0 + w)) | none => kv) = kv2 → OkK a T kv2 ∧ (∀ y, mGet kv2 y 0 = i64w (mGet kv0 y 0 + cnt N a T x y (s + 1) * w)) ∧ kv2.length ≤ kv0.length + (s + 1) := by
        intro kv2 e
        cases hq : suc N a T x s with
        | none =>
          rw [hq] at e
          dsimp only at e
          subst e
          refine ⟨hk, fun y => ?_, by omega⟩
          rw [hg y, cnt, hq, if_neg (by simp), Int.add_zero]
        | some z =>
          rw [hq] at e
          dsimp only at e
          subst e
          refine ⟨hk.set (suc_ok G hx (by omega) hN hq) _, fun y => ?_, by have := mSet_len kv z (i64w (mGet kv z 0 + w)); omega⟩
          rw [mGet_set hk.nd, cnt, hq]
          by_cases cy : y = z
          · subst cy
            rw [if_pos rfl, if_pos rfl, hg y, i64w_add, Int.add_mul, Int.one_mul, Int.add_assoc]
          · rw [if_neg cy, if_neg (fun g => cy (Option.some.inj g).symm), hg y, Int.add_zero]
      obtain ⟨f1, f2, f3⟩ := fin _ rfl
      obtain ⟨kv', h1, h2⟩ := ih (s + 1) _ (by omega) (by omega) f1 f2 f3
      exact ⟨kv', hnx.trans h1, h2⟩
    · have : s = 2 ^ a.length := by omega
      subst this
      refine ⟨kv, rounds_out ?_, hk, hg, by omega⟩
      show _impl_Glasses_events_at_impl_PlansFor_1.b0 N a x T kv w ((2 ^ a.length : Nat) : Int) = _
      unfold _impl_Glasses_events_at_impl_PlansFor_1.b0
      rw [if_neg (by rw [sets_all _ G.len, pow_cast]; omega)]
/-- What the program's events make of the ways. -/
theorem events_eq {N : Nat} {a : List Int} (G : Gl a) {T : Int} (hT : T ≤ 120) {x : Mo} (hx : okM a T x) (hN : 20 < N) {kv0 : KM} (w : Int) (hk : OkK a T kv0) (hw : ∀ y, i64w (mGet kv0 y 0) = mGet kv0 y 0) :
    ∃ kv', _impl_Glasses_events_at_impl_PlansFor_1.f N a x T kv0 w = some (kv', kv', w) ∧ OkK a T kv' ∧ (∀ y, mGet kv' y 0 = i64w (mGet kv0 y 0 + cnt N a T x y (2 ^ a.length) * w)) ∧ kv'.length ≤ kv0.length + 16 := by
  have hp := pow_le G.len
  obtain ⟨kv', h1, h2⟩ := ev_loop (N := N) G hT hx (by omega) w hw N 0 kv0 (by omega) (by omega) hk (fun y => by rw [cnt, Int.zero_mul, Int.add_zero, hw]) (by omega)
  refine ⟨kv', ?_, h2⟩
  unfold _impl_Glasses_events_at_impl_PlansFor_1.f
  rw [if_pos (by omega), show rounds (fun s => _impl_Glasses_events_at_impl_PlansFor_1.b0 N a x T s.1 s.2.1 s.2.2) N (kv0, w, 0) = _ from h1]
  rfl
end Go.Proofs.YtioefkcldfjobaaX
