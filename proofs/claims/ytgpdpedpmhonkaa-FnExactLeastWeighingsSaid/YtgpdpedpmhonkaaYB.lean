/- The program's finder. -/
import Derived.Test.YtgpdpedpmhonkaaYA
import Derived.Test.YtgpdpedpmhonkaaXMap
namespace Go.Proofs.YtgpdpedpmhonkaaX
open Go
set_option linter.unusedVariables false
set_option linter.unusedSimpArgs false
abbrev KM := List (S_impl_knowledgeLeft × Bool)
abbrev KQ := S_impl_knowledge
abbrev FQ := S_impl_form
def A4 (a b c d : Int) : Ar Int 4 := ⟨[a, b, c, d], rfl⟩
/-- What the program keeps of what is known. -/
def kq (T : Nat) (x : Kn) : KQ := ⟨A4 x.o x.h x.l ((T : Int) - x.o - x.h - x.l), x.n⟩
theorem kq_inj {T : Nat} {x y : Kn} (h : kq T x = kq T y) : x = y := by
  have h1 := congrArg (fun z : KQ => z.f_many.l) h
  have h2 := congrArg S_impl_knowledge.f_none h
  obtain ⟨a, b, c, d⟩ := x
  obtain ⟨a', b', c', d'⟩ := y
  simp only [kq, A4, List.cons.injEq, and_true] at h1 h2
  obtain ⟨g1, g2, g3, _⟩ := h1
  obtain rfl : a = a' := by omega
  obtain rfl : b = b' := by omega
  obtain rfl : c = c' := by omega
  subst h2
  rfl
def ok (T : Nat) (x : Kn) : Prop := x.o + x.h + x.l ≤ 13 ∧ x.o + x.h + x.l ≤ T ∧ T ≤ 14
/-- What is remembered is right. -/
def InvM (T : Nat) (kv : KM) : Prop := ∀ p ∈ kv, ∀ (x : Kn) (q : Nat), p.1 = ⟨kq T x, (q : Int)⟩ → p.2 = canB T q x
theorem mSet_mem {kv : KM} {k : S_impl_knowledgeLeft} {v : Bool} {p : S_impl_knowledgeLeft × Bool} (h : p ∈ mSet kv k v) : p ∈ kv ∨ p = (k, v) := by
  unfold mSet at h
  cases hq : mIdx kv k with
  | some i =>
    rw [hq] at h
    exact List.mem_or_eq_of_mem_set h
  | none =>
    rw [hq] at h
    rcases List.mem_append.1 h with h | h
    · exact .inl h
    · exact .inr (List.mem_singleton.1 h)
theorem InvM.set {T : Nat} {kv : KM} (h : InvM T kv) {x : Kn} {q : Nat} {v : Bool} (hv : v = canB T q x) : InvM T (mSet kv ⟨kq T x, (q : Int)⟩ v) := by
  subst hv
  intro p hp y r e
  rcases mSet_mem hp with hp | rfl
  · exact h p hp y r e
  · have e2 := congrArg S_impl_knowledgeLeft.f_k e
    have e3 := congrArg S_impl_knowledgeLeft.f_left e
    obtain rfl := kq_inj e2
    have e4 : (q : Int) = (r : Int) := e3
    have : q = r := by omega
    subst this; rfl
theorem InvM.get {T : Nat} {kv : KM} (h : InvM T kv) {x : Kn} {q : Nat} (hs : (mIdx kv (⟨kq T x, (q : Int)⟩ : S_impl_knowledgeLeft)).isSome = true) : mGet kv (⟨kq T x, (q : Int)⟩ : S_impl_knowledgeLeft) false = canB T q x := by
  cases hq : mIdx kv (⟨kq T x, (q : Int)⟩ : S_impl_knowledgeLeft) with
  | none => rw [hq] at hs; cases hs
  | some i =>
    obtain ⟨hi, he⟩ := List.findIdx?_eq_some_iff_getElem.1 hq
    unfold mGet
    rw [hq]
    simp only [List.getElem?_eq_getElem hi, Option.map_some, Option.getD_some]
    exact h _ (List.getElem_mem hi) x q (of_decide_eq_true he.1).symm
theorem InvM.new {kv : KM} {x : S_impl_knowledgeLeft} (hs : ¬ (mIdx kv x).isSome = true) : mGet kv x false = false := by
  cases hq : mIdx kv x with
  | none => unfold mGet; rw [hq]
  | some i => rw [hq] at hs; exact absurd rfl hs
theorem invM_nil (T : Nat) : InvM T [] := fun p hp => by cases hp
theorem cases_impl {N T : Nat} {x : Kn} (h : ok T x) : _impl_knowledge_cases.f N (kq T x) = some (x.c : Int) := by
  obtain ⟨h1, h2, h3⟩ := h
  show (if x.n = true then some (i64w ((i64w ((i64w ((i64w (2 * (x.o : Int))) + (x.h : Int))) + (x.l : Int))) + 1)) else some (i64w ((i64w ((i64w (2 * (x.o : Int))) + (x.h : Int))) + (x.l : Int)))) = _
  rw [idb (x := 2 * (x.o : Int)) (by omega), idb (x := 2 * (x.o : Int) + x.h) (by omega), idb (x := 2 * (x.o : Int) + x.h + x.l) (by omega), idb (by omega)]
  unfold Kn.c
  by_cases c : x.n = true
  · rw [if_pos c, if_pos c]; congr 1
  · rw [if_neg c, if_neg c]; congr 1
def fq (m : Mv) (g h : Int) : FQ := ⟨A4 m.a m.c m.e g, A4 m.b m.d m.f h⟩
theorem kq_mk {T : Nat} {x : Kn} {a b c d : Int} {n : Bool} (h0 : a = x.o) (h1 : b = x.h) (h2 : c = x.l) (h3 : d = (T : Int) - x.o - x.h - x.l) (h4 : n = x.n) : (⟨A4 a b c d, n⟩ : KQ) = kq T x := by
  subst h0 h1 h2 h3 h4; rfl
theorem behind_j0 {N T : Nat} {x y : Kn} {z : Int} {n : Bool} (h : ok T x) (hy : y.o + y.h + y.l ≤ 13) (hn : n = y.n) : _impl_knowledge_behind.j0 N (kq T x) ⟨A4 y.o y.h y.l z, n⟩ = some (kq T y) := by
  obtain ⟨h1, h2, h3⟩ := h
  show some (⟨A4 y.o y.h y.l (i64w ((i64w ((i64w ((i64w ((i64w ((i64w ((x.o : Int) + (x.h : Int))) + (x.l : Int))) + ((T : Int) - x.o - x.h - x.l))) - (y.o : Int))) - (y.h : Int))) - (y.l : Int))), n⟩ : KQ) = _
  rw [idb (x := (x.o : Int) + x.h) (by omega), idb (x := (x.o : Int) + x.h + x.l) (by omega), idb (x := (x.o : Int) + x.h + x.l + ((T : Int) - x.o - x.h - x.l)) (by omega), idb (x := (x.o : Int) + x.h + x.l + ((T : Int) - x.o - x.h - x.l) - y.o) (by omega), idb (x := (x.o : Int) + x.h + x.l + ((T : Int) - x.o - x.h - x.l) - y.o - y.h) (by omega), idb (by omega)]
  rw [kq_mk (T := T) (x := y) rfl rfl rfl (by omega) hn]
theorem behind_b1 {N : Nat} {k : KQ} {f : FQ} {z : KQ} {i : Nat} (hi : i < 3) : _impl_knowledge_behind.b1 N k f z (i : Int) = some (.next (⟨z.f_many.set (i : Int) (i64w ((i64w ((k.f_many.get (i : Int) 0) - (f.f_left.get (i : Int) 0))) - (f.f_right.get (i : Int) 0))), z.f_none⟩, ((i + 1 : Nat) : Int))) := by
  have g : (0 : Int) ≤ (i : Int) ∧ (i : Int) < 4 := by omega
  unfold _impl_knowledge_behind.b1
  rw [if_pos (by omega), if_pos g, if_pos g, if_pos g, if_pos g, idb (x := (i : Int) + 1) (by omega)]
  rfl
theorem behind_L {N T : Nat} {x : Kn} {m : Mv} {g h : Int} (hx : ok T x) (hm : fits x m) : _impl_knowledge_behind.f N (kq T x) (fq m g h) (-1) = some (kq T (aftL m)) := by
  obtain ⟨h1, h2, h3⟩ := hx
  obtain ⟨m1, m2, m3⟩ := hm
  show _impl_knowledge_behind.j0 N (kq T x) (⟨A4 0 (i64w ((m.a : Int) + (m.c : Int))) (i64w ((m.b : Int) + (m.f : Int))) 0, false⟩ : KQ) = _
  rw [idb (x := (m.a : Int) + m.c) (by omega), idb (x := (m.b : Int) + m.f) (by omega)]
  exact behind_j0 (y := aftL m) ⟨h1, h2, h3⟩ (by simp only [aftL]; omega) rfl
theorem behind_R {N T : Nat} {x : Kn} {m : Mv} {g h : Int} (hx : ok T x) (hm : fits x m) : _impl_knowledge_behind.f N (kq T x) (fq m g h) 1 = some (kq T (aftR m)) := by
  obtain ⟨h1, h2, h3⟩ := hx
  obtain ⟨m1, m2, m3⟩ := hm
  show _impl_knowledge_behind.j0 N (kq T x) (⟨A4 0 (i64w ((m.b : Int) + (m.d : Int))) (i64w ((m.a : Int) + (m.e : Int))) 0, false⟩ : KQ) = _
  rw [idb (x := (m.b : Int) + m.d) (by omega), idb (x := (m.a : Int) + m.e) (by omega)]
  exact behind_j0 (y := aftR m) ⟨h1, h2, h3⟩ (by simp only [aftR]; omega) rfl
theorem behind_M {N T : Nat} {x : Kn} {m : Mv} {g h : Int} (hN : 5 ≤ N) (hx : ok T x) (hm : fits x m) : _impl_knowledge_behind.f N (kq T x) (fq m g h) 0 = some (kq T (aftM x m)) := by
  have hx0 := hx
  obtain ⟨h1, h2, h3⟩ := hx
  obtain ⟨m1, m2, m3⟩ := hm
  obtain ⟨N, rfl⟩ : ∃ M, N = M + 4 := ⟨N - 4, by omega⟩
  have e0 := behind_b1 (N := N + 4) (k := kq T x) (f := fq m g h) (z := ⟨Ar.rep 4 0, false⟩) (i := 0) (by omega)
  have e1 := behind_b1 (N := N + 4) (k := kq T x) (f := fq m g h) (z := ⟨A4 (i64w ((i64w ((x.o : Int) - m.a)) - m.b)) 0 0 0, false⟩) (i := 1) (by omega)
  have e2 := behind_b1 (N := N + 4) (k := kq T x) (f := fq m g h) (z := ⟨A4 (i64w ((i64w ((x.o : Int) - m.a)) - m.b)) (i64w ((i64w ((x.h : Int) - m.c)) - m.d)) 0 0, false⟩) (i := 2) (by omega)
  have e3 : _impl_knowledge_behind.b1 (N + 4) (kq T x) (fq m g h) (⟨A4 (i64w ((i64w ((x.o : Int) - m.a)) - m.b)) (i64w ((i64w ((x.h : Int) - m.c)) - m.d)) (i64w ((i64w ((x.l : Int) - m.e)) - m.f)) 0, false⟩ : KQ) ((3 : Nat) : Int) = some (.out (.go (⟨A4 (i64w ((i64w ((x.o : Int) - m.a)) - m.b)) (i64w ((i64w ((x.h : Int) - m.c)) - m.d)) (i64w ((i64w ((x.l : Int) - m.e)) - m.f)) 0, false⟩ : KQ))) := if_neg (by omega)
  have er : rounds (fun s => _impl_knowledge_behind.b1 (N + 4) (kq T x) (fq m g h) s.1 s.2) (N + 4) ((⟨Ar.rep 4 0, false⟩ : KQ), 0) = some (.go (⟨A4 (i64w ((i64w ((x.o : Int) - m.a)) - m.b)) (i64w ((i64w ((x.h : Int) - m.c)) - m.d)) (i64w ((i64w ((x.l : Int) - m.e)) - m.f)) 0, false⟩ : KQ)) :=
    (rounds_next (n := N + 3) (s := ((⟨Ar.rep 4 0, false⟩ : KQ), (0 : Int))) e0).trans ((rounds_next (n := N + 2) (s := ((⟨A4 (i64w ((i64w ((x.o : Int) - m.a)) - m.b)) 0 0 0, false⟩ : KQ), ((1 : Nat) : Int))) e1).trans ((rounds_next (n := N + 1) (s := ((⟨A4 (i64w ((i64w ((x.o : Int) - m.a)) - m.b)) (i64w ((i64w ((x.h : Int) - m.c)) - m.d)) 0 0, false⟩ : KQ), ((2 : Nat) : Int))) e2).trans (rounds_out (n := N) (s := ((⟨A4 (i64w ((i64w ((x.o : Int) - m.a)) - m.b)) (i64w ((i64w ((x.h : Int) - m.c)) - m.d)) (i64w ((i64w ((x.l : Int) - m.e)) - m.f)) 0, false⟩ : KQ), ((3 : Nat) : Int))) e3)))
  unfold _impl_knowledge_behind.f
  rw [if_pos ⟨by decide, by decide⟩, if_pos ⟨by decide, by decide⟩, if_pos ⟨by decide, by decide⟩, if_pos ⟨by decide, by decide⟩, if_pos rfl, er]
  show _impl_knowledge_behind.j0 (N + 4) (kq T x) (⟨A4 (i64w ((i64w ((x.o : Int) - m.a)) - m.b)) (i64w ((i64w ((x.h : Int) - m.c)) - m.d)) (i64w ((i64w ((x.l : Int) - m.e)) - m.f)) 0, x.n⟩ : KQ) = _
  rw [idb (x := (x.o : Int) - m.a) (by omega), idb (x := (x.o : Int) - m.a - m.b) (by omega), idb (x := (x.h : Int) - m.c) (by omega), idb (x := (x.h : Int) - m.c - m.d) (by omega), idb (x := (x.l : Int) - m.e) (by omega), idb (x := (x.l : Int) - m.e - m.f) (by omega)]
  rw [show (x.o : Int) - m.a - m.b = ((aftM x m).o : Int) by simp only [aftM]; omega, show (x.h : Int) - m.c - m.d = ((aftM x m).h : Int) by simp only [aftM]; omega, show (x.l : Int) - m.e - m.f = ((aftM x m).l : Int) by simp only [aftM]; omega]
  exact behind_j0 (y := aftM x m) hx0 (by simp only [aftM]; omega) rfl
/-- One that knows the answers for k weighings. -/
def SelfI (T k : Nat) (self : KM → KQ → Int → Option (Bool × KM)) : Prop :=
  ∀ (kv : KM) (x : Kn), InvM T kv → ok T x → ∃ kv', self kv (kq T x) (k : Int) = some (canB T k x, kv') ∧ InvM T kv'
theorem ok_L {T : Nat} {x : Kn} {m : Mv} (hx : ok T x) (hm : fits x m) : ok T (aftL m) := by unfold ok fits aftL at *; simp only; omega
theorem ok_R {T : Nat} {x : Kn} {m : Mv} (hx : ok T x) (hm : fits x m) : ok T (aftR m) := by unfold ok fits aftR at *; simp only; omega
theorem ok_M {T : Nat} {x : Kn} {m : Mv} (hx : ok T x) (hm : fits x m) : ok T (aftM x m) := by unfold ok fits aftM at *; simp only; omega
theorem splits_eq {N T k : Nat} {self : KM → KQ → Int → Option (Bool × KM)} (hself : SelfI T k self) (hN : 5 ≤ N) (hk : k ≤ 5) {x : Kn} {m : Mv} (hx : ok T x) (hm : fits x m) {kv : KM} (hI : InvM T kv) {g h : Int} :
    ∃ b kv', _impl_finder_splits.f N self kv (kq T x) (fq m g h) ((k + 1 : Nat) : Int) = some (b, kv') ∧ InvM T kv' ∧ (b = true ↔ canP T k (aftL m) ∧ canP T k (aftM x m) ∧ canP T k (aftR m)) := by
  unfold _impl_finder_splits.f
  have ek : i64w (((k + 1 : Nat) : Int) - 1) = (k : Int) := by rw [idb (by omega)]; omega
  obtain ⟨kv1, e1, I1⟩ := hself kv _ hI (ok_L hx hm)
  obtain ⟨kv2, e2, I2⟩ := hself kv1 _ I1 (ok_M hx hm)
  obtain ⟨kv3, e3, I3⟩ := hself kv2 _ I2 (ok_R hx hm)
  rw [behind_L hx hm, Option.bind_some, ek, e1, Option.bind_some]
  dsimp only
  cases c1 : canB T k (aftL m) with
  | false => exact ⟨false, kv1, by rw [if_neg Bool.false_ne_true], I1, by simp [of_canB_f c1]⟩
  | true =>
    rw [if_pos rfl, behind_M hN hx hm, Option.bind_some, e2, Option.bind_some]
    dsimp only
    cases c2 : canB T k (aftM x m) with
    | false => exact ⟨false, kv2, by rw [if_neg Bool.false_ne_true], I2, by simp [of_canB_f c2]⟩
    | true =>
      rw [if_pos rfl, behind_R hx hm, Option.bind_some, e3, Option.bind_some]
      refine ⟨_, kv3, rfl, I3, ?_⟩
      cases c3 : canB T k (aftR m) with
      | false => simp [of_canB_f c3]
      | true => simp [of_canB c1, of_canB c2, of_canB c3]
/-- What a step of the search comes to. -/
abbrev RQ := Bool × KQ × KM × KM × KQ × Int × Bool × Unit × Unit
theorem mx_eq {a b : Int} : mxI a b = max a b := by unfold mxI; omega
theorem balanced_eq {N T k : Nat} {self : KM → KQ → Int → Option (Bool × KM)} (hself : SelfI T k self) (hN : 5 ≤ N) (hk : k ≤ 5) {x : Kn} {m : Mv} (hx : ok T x) (hm : fits x m) {kv : KM} (hI : InvM T kv) {g h : Int} :
    ∃ b kv', _impl_knowledge_balanced_at__impl_finder_can_1.f N self (kq T x) (fq m g h) kv (kq T x) ((k + 1 : Nat) : Int) false = some (!b, kv', kv', kq T x, ((k + 1 : Nat) : Int), b) ∧ InvM T kv' ∧ (b = true ↔ doesP T k x m) := by
  have hx0 := hx
  have hm0 := hm
  obtain ⟨h1, h2, h3⟩ := hx
  obtain ⟨m1, m2, m3⟩ := hm
  have eL : i64w ((i64w ((m.a : Int) + m.c)) + m.e) = (m.a : Int) + m.c + m.e := by rw [idb (x := (m.a : Int) + m.c) (by omega), idb (by omega)]
  have eR : i64w ((i64w ((m.b : Int) + m.d)) + m.f) = (m.b : Int) + m.d + m.f := by rw [idb (x := (m.b : Int) + m.d) (by omega), idb (by omega)]
  generalize hr : _impl_knowledge_balanced_at__impl_finder_can_1.f N self (kq T x) (fq m g h) kv (kq T x) ((k + 1 : Nat) : Int) false = r
  have hr2 : (if mxI (i64w ((i64w ((m.a : Int) + m.c)) + m.e)) (i64w ((i64w ((m.b : Int) + m.d)) + m.f)) = 0 then some (true, kv, kv, kq T x, ((k + 1 : Nat) : Int), false) else
      if i64w (mxI (i64w (i64w ((i64w ((m.b : Int) + m.d)) + m.f) - i64w ((i64w ((m.a : Int) + m.c)) + m.e))) 0 + mxI (i64w (i64w ((i64w ((m.a : Int) + m.c)) + m.e) - i64w ((i64w ((m.b : Int) + m.d)) + m.f))) 0) > (T : Int) - x.o - x.h - x.l then some (true, kv, kv, kq T x, ((k + 1 : Nat) : Int), false) else
      (_impl_finder_can_1.f N self (fq m (mxI (i64w (i64w ((i64w ((m.b : Int) + m.d)) + m.f) - i64w ((i64w ((m.a : Int) + m.c)) + m.e))) 0) (mxI (i64w (i64w ((i64w ((m.a : Int) + m.c)) + m.e) - i64w ((i64w ((m.b : Int) + m.d)) + m.f))) 0)) kv (kq T x) ((k + 1 : Nat) : Int) false).bind fun r => some (r.1, r.2.1, r.2.2.1, r.2.2.2.1, r.2.2.2.2.1, r.2.2.2.2.2)) = r := hr
  clear hr
  subst hr2
  rw [eL, eR, idb (x := (m.b : Int) + m.d + m.f - ((m.a : Int) + m.c + m.e)) (by omega), idb (x := (m.a : Int) + m.c + m.e - ((m.b : Int) + m.d + m.f)) (by omega), mx_eq, mx_eq, mx_eq, idb (x := max ((m.b : Int) + m.d + m.f - ((m.a : Int) + m.c + m.e)) 0 + max ((m.a : Int) + m.c + m.e - ((m.b : Int) + m.d + m.f)) 0) (by omega)]
  by_cases c1 : max ((m.a : Int) + m.c + m.e) ((m.b : Int) + m.d + m.f) = 0
  · rw [if_pos c1]
    refine ⟨false, kv, rfl, hI, ?_⟩
    simp only [Bool.false_eq_true, false_iff]
    intro hd
    have := hd.1.1
    omega
  · rw [if_neg c1]
    by_cases c2 : max ((m.b : Int) + m.d + m.f - ((m.a : Int) + m.c + m.e)) 0 + max ((m.a : Int) + m.c + m.e - ((m.b : Int) + m.d + m.f)) 0 > (T : Int) - x.o - x.h - x.l
    · rw [if_pos c2]
      refine ⟨false, kv, rfl, hI, ?_⟩
      simp only [Bool.false_eq_true, false_iff]
      intro hd
      have h5 := hd.1.2.1
      have h6 := hd.1.2.2
      omega
    · rw [if_neg c2]
      obtain ⟨b, kv', e, I, hb⟩ := splits_eq hself hN hk hx0 hm0 hI (g := max ((m.b : Int) + m.d + m.f - ((m.a : Int) + m.c + m.e)) 0) (h := max ((m.a : Int) + m.c + m.e - ((m.b : Int) + m.d + m.f)) 0)
      unfold _impl_finder_can_1.f
      rw [e]
      refine ⟨b, kv', rfl, I, hb.trans ?_⟩
      unfold doesP
      refine ⟨fun h => ⟨⟨?_, ?_, ?_⟩, h⟩, fun h => h.2⟩ <;> omega
/-- Choosing how many of one sort lie on both pans. -/
def cB2 (s : Int) (inner : FQ → KQ → KM → KQ → Int → Bool → Option RQ) (x42 : KQ) (x48 : Int) (x51 : KQ) (x52 : KM) (x53 : KQ) (x54 : Int) (x55 : Bool) (x56 : FQ) (x57 : Int) : Option (Bd RQ (KQ × KM × KQ × Int × Bool × FQ) (KQ × KM × KQ × Int × Bool × FQ × Int)) :=
  if x57 < (i64w ((i64w ((x42.f_many.get s 0) - x48)) + 1)) then (if (0 : Int) ≤ s ∧ s < 4 then (if (0 : Int) ≤ s ∧ s < 4 then ((inner (⟨(⟨x56.f_left.set s x48, x56.f_right⟩ : FQ).f_left, ((⟨x56.f_left.set s x48, x56.f_right⟩ : FQ).f_right).set s x57⟩ : FQ) x51 x52 x53 x54 x55).bind fun r58 => (if r58.1 = true then (some (.next (r58.2.1, r58.2.2.1, r58.2.2.2.2.1, r58.2.2.2.2.2.1, r58.2.2.2.2.2.2.1, (⟨(⟨x56.f_left.set s x48, x56.f_right⟩ : FQ).f_left, ((⟨x56.f_left.set s x48, x56.f_right⟩ : FQ).f_right).set s x57⟩ : FQ), i64w (x57 + 1)))) else (some (.out (.ret (false, r58.2.1, r58.2.2.1, r58.2.2.2.1, r58.2.2.2.2.1, r58.2.2.2.2.2.1, r58.2.2.2.2.2.2.1, (), ())))))) else none) else none) else (some (.out (.go (x51, x52, x53, x54, x55, x56))))
def cA2 (x48 : Int) (x59 : KQ) (x60 : KM) (x61 : KQ) (x62 : Int) (x63 : Bool) (x64 : FQ) : Option (Bd RQ (KQ × KM × KQ × Int × Bool) (KQ × KM × KQ × Int × Bool × FQ × Int)) := some (.next (x59, x60, x61, x62, x63, x64, i64w (x48 + 1)))
def cB0 (N : Nat) (s : Int) (inner : FQ → KQ → KM → KQ → Int → Bool → Option RQ) (a2 : KQ) (x42 : KQ) (x43 : KM) (x44 : KQ) (x45 : Int) (x46 : Bool) (x47 : FQ) (x48 : Int) : Option (Bd RQ (KQ × KM × KQ × Int × Bool) (KQ × KM × KQ × Int × Bool × FQ × Int)) :=
  if x48 < (i64w ((a2.f_many.get s 0) + 1)) then (if (0 : Int) ≤ s ∧ s < 4 then ((rounds (fun t => cB2 s inner x42 x48 t.1 t.2.1 t.2.2.1 t.2.2.2.1 t.2.2.2.2.1 t.2.2.2.2.2.1 t.2.2.2.2.2.2) N (x42, x43, x44, x45, x46, x47, 0)).bind (Ex.finB fun t => cA2 x48 t.1 t.2.1 t.2.2.1 t.2.2.2.1 t.2.2.2.2.1 t.2.2.2.2.2)) else none) else (some (.out (.go (x42, x43, x44, x45, x46))))
def cA0 (x65 : KQ) (x66 : KM) (x67 : KQ) (x68 : Int) (x69 : Bool) : Option RQ := some (true, x65, x66, x66, x67, x68, x69, (), ())
def cF (N : Nat) (s : Int) (inner : FQ → KQ → KM → KQ → Int → Bool → Option RQ) (a1 : FQ) (a2 : KQ) (a5 : KM) (a10 : KQ) (a13 : Int) (a16 : Bool) : Option RQ :=
  if (0 : Int) ≤ s ∧ s < 4 then ((rounds (fun t => cB0 N s inner a2 t.1 t.2.1 t.2.2.1 t.2.2.2.1 t.2.2.2.2.1 t.2.2.2.2.2.1 t.2.2.2.2.2.2) N (a2, a5, a10, a13, a16, a1, 0)).bind (Ex.fin fun t => cA0 t.1 t.2.1 t.2.2.1 t.2.2.2.1 t.2.2.2.2)) else none
theorem c2_is (N : Nat) (self : KM → KQ → Int → Option (Bool × KM)) : _impl_knowledge_forms_1_at_c2.f N self = cF N 2 (_impl_knowledge_forms_1_at_c3.f N self) := rfl
theorem c1_is (N : Nat) (self : KM → KQ → Int → Option (Bool × KM)) : _impl_knowledge_forms_1_at_c1.f N self = cF N 1 (_impl_knowledge_forms_1_at_c2.f N self) := rfl
theorem c0_is (N : Nat) (self : KM → KQ → Int → Option (Bool × KM)) : _impl_knowledge_forms_1_at_c0.f N self = cF N 0 (_impl_knowledge_forms_1_at_c1.f N self) := rfl
/-- One that looks on from a form. -/
def LookI (T : Nat) (x : Kn) (c : Int) (inner : FQ → KQ → KM → KQ → Int → Bool → Option RQ) (fm : FQ) (Q : Prop) : Prop :=
  ∀ kv, InvM T kv → ∃ b kv', inner fm (kq T x) kv (kq T x) c false = some (!b, kq T x, kv', kv', kq T x, c, b, (), ()) ∧ InvM T kv' ∧ (b = true ↔ Q)
theorem cF_eq {N T : Nat} {x : Kn} {c : Int} {inner : FQ → KQ → KM → KQ → Int → Bool → Option RQ} (hN : 20 ≤ N) {s : Nat} (hs : s < 3) {cnt : Nat} (hc : (kq T x).f_many.get (s : Int) 0 = (cnt : Int)) (h13 : cnt ≤ 13) (Fm : FQ → Prop) (Q : Nat → Nat → Prop)
    (hF : ∀ fm (l r : Nat), Fm fm → Fm ⟨fm.f_left.set (s : Int) (l : Int), fm.f_right.set (s : Int) (r : Int)⟩)
    (hin : ∀ fm (l r : Nat), Fm fm → l + r ≤ cnt → LookI T x c inner ⟨fm.f_left.set (s : Int) (l : Int), fm.f_right.set (s : Int) (r : Int)⟩ (Q l r)) {fm : FQ} (hfm : Fm fm) :
    LookI T x c (cF N (s : Int) inner) fm (∃ l r, l + r ≤ cnt ∧ Q l r) := by
  intro kv hI
  have hs4 : (0 : Int) ≤ (s : Int) ∧ (s : Int) < 4 := by omega
  have inn : ∀ (l : Nat) (kv : KM) (fm : FQ), l ≤ cnt → InvM T kv → Fm fm →
      (∃ e, rounds (fun t => cB2 (s : Int) inner (kq T x) (l : Int) t.1 t.2.1 t.2.2.1 t.2.2.2.1 t.2.2.2.2.1 t.2.2.2.2.2.1 t.2.2.2.2.2.2) N (kq T x, kv, kq T x, c, false, fm, 0) = some (.go e) ∧ (∃ kv fm, e = (kq T x, kv, kq T x, c, false, fm) ∧ InvM T kv ∧ Fm fm) ∧ ¬ ∃ r, l + r ≤ cnt ∧ Q l r) ∨
      (∃ r, rounds (fun t => cB2 (s : Int) inner (kq T x) (l : Int) t.1 t.2.1 t.2.2.1 t.2.2.2.1 t.2.2.2.2.1 t.2.2.2.2.2.1 t.2.2.2.2.2.2) N (kq T x, kv, kq T x, c, false, fm, 0) = some (.ret r) ∧ (∃ kv, r = (false, kq T x, kv, kv, kq T x, c, true, (), ()) ∧ InvM T kv) ∧ ∃ r, l + r ≤ cnt ∧ Q l r) := by
    intro l kv fm hl hI hfm
    have ew : i64w ((i64w ((kq T x).f_many.get (s : Int) 0 - (l : Int))) + 1) = ((cnt - l + 1 : Nat) : Int) := by
      rw [hc, idb (x := (cnt : Int) - l) (by omega), idb (by omega)]; omega
    have := loop_find (b := fun t : KQ × KM × KQ × Int × Bool × FQ × Int => cB2 (s : Int) inner (kq T x) (l : Int) t.1 t.2.1 t.2.2.1 t.2.2.2.1 t.2.2.2.2.1 t.2.2.2.2.2.1 t.2.2.2.2.2.2) (n := cnt - l + 1)
      (fun i t => ∃ kv fm, t = (kq T x, kv, kq T x, c, false, fm, (i : Int)) ∧ InvM T kv ∧ Fm fm) (fun e => ∃ kv fm, e = (kq T x, kv, kq T x, c, false, fm) ∧ InvM T kv ∧ Fm fm) (fun r => ∃ kv, r = (false, kq T x, kv, kv, kq T x, c, true, (), ()) ∧ InvM T kv) (fun r => l + r ≤ cnt ∧ Q l r) ?_ ?_ N 0 (kq T x, kv, kq T x, c, false, fm, 0) (by omega) (by omega) ⟨kv, fm, rfl, hI, hfm⟩
    · rcases this with ⟨e, g1, g2, g3⟩ | ⟨r, g1, g2, j, _, _, g3⟩
      · exact .inl ⟨e, g1, g2, fun ⟨r, h1, h2⟩ => g3 r (by omega) (by omega) ⟨h1, h2⟩⟩
      · exact .inr ⟨r, g1, g2, j, g3⟩
    · rintro i t hi ⟨kv, fm, rfl, hI, hfm⟩
      obtain ⟨b, kv', e, I, hb⟩ := hin fm l i hfm (by omega) kv hI
      dsimp only
      unfold cB2
      rw [ew, if_pos (by omega), if_pos hs4, if_pos hs4]
      dsimp only
      rw [e, Option.bind_some, idb (x := (i : Int) + 1) (by omega)]
      dsimp only
      cases b with
      | false => exact .inl ⟨_, if_pos rfl, ⟨kv', _, rfl, I, hF fm l i hfm⟩, fun h => Bool.false_ne_true (hb.2 h.2)⟩
      | true => exact .inr ⟨_, if_neg Bool.false_ne_true, ⟨kv', rfl, I⟩, by omega, hb.1 rfl⟩
    · rintro t ⟨kv, fm, rfl, hI, hfm⟩
      dsimp only
      unfold cB2
      rw [ew, if_neg (by omega)]
      exact ⟨_, rfl, kv, fm, rfl, hI, hfm⟩
  have ew : i64w ((kq T x).f_many.get (s : Int) 0 + 1) = ((cnt + 1 : Nat) : Int) := by
    rw [hc, idb (by omega)]; omega
  have := loop_find (b := fun t : KQ × KM × KQ × Int × Bool × FQ × Int => cB0 N (s : Int) inner (kq T x) t.1 t.2.1 t.2.2.1 t.2.2.2.1 t.2.2.2.2.1 t.2.2.2.2.2.1 t.2.2.2.2.2.2) (n := cnt + 1)
      (fun i t => ∃ kv fm, t = (kq T x, kv, kq T x, c, false, fm, (i : Int)) ∧ InvM T kv ∧ Fm fm) (fun e => ∃ kv, e = (kq T x, kv, kq T x, c, false) ∧ InvM T kv) (fun r => ∃ kv, r = (false, kq T x, kv, kv, kq T x, c, true, (), ()) ∧ InvM T kv) (fun l => ∃ r, l + r ≤ cnt ∧ Q l r) ?_ ?_ N 0 (kq T x, kv, kq T x, c, false, fm, 0) (by omega) (by omega) ⟨kv, fm, rfl, hI, hfm⟩
  · unfold cF
    rw [if_pos hs4]
    rcases this with ⟨e, g1, ⟨kv', rfl, I⟩, g3⟩ | ⟨r, g1, ⟨kv', rfl, I⟩, j, _, _, r, g3⟩
    · rw [g1]
      exact ⟨false, kv', rfl, I, ⟨fun h => absurd h Bool.false_ne_true, fun ⟨l, r, h1, h2⟩ => absurd ⟨r, h1, h2⟩ (g3 l (by omega) (by omega))⟩⟩
    · rw [g1]
      exact ⟨true, kv', rfl, I, ⟨fun _ => ⟨j, r, g3⟩, fun _ => rfl⟩⟩
  · rintro i t hi ⟨kv, fm, rfl, hI, hfm⟩
    dsimp only
    unfold cB0
    rw [ew, if_pos (by omega), if_pos hs4]
    refine find_in (inn i kv fm (by omega) hI hfm) ?_
    rintro e ⟨kv, fm, rfl, I, hf⟩
    exact ⟨_, rfl, kv, fm, by rw [idb (x := (i : Int) + 1) (by omega)]; rfl, I, hf⟩
  · rintro t ⟨kv, fm, rfl, hI, hfm⟩
    dsimp only
    unfold cB0
    rw [ew, if_neg (by omega)]
    exact ⟨_, rfl, kv, rfl, hI⟩
theorem forms_eq {N T k : Nat} {self : KM → KQ → Int → Option (Bool × KM)} (hself : SelfI T k self) (hN : 20 ≤ N) (hk : k ≤ 5) {x : Kn} (hx : ok T x) :
    LookI T x ((k + 1 : Nat) : Int) (_impl_knowledge_forms_1_at_c0.f N self) (⟨Ar.rep 4 0, Ar.rep 4 0⟩ : FQ) (∃ m, fits x m ∧ doesP T k x m) := by
  have l3 : ∀ (m : Mv) (g h : Int), fits x m → LookI T x ((k + 1 : Nat) : Int) (_impl_knowledge_forms_1_at_c3.f N self) (fq m g h) (doesP T k x m) := by
    intro m g h hm kv hI
    obtain ⟨b, kv', e, I, hb⟩ := balanced_eq hself (by omega) hk hx hm hI (N := N) (g := g) (h := h)
    refine ⟨b, kv', ?_, I, hb⟩
    unfold _impl_knowledge_forms_1_at_c3.f
    rw [e]
    rfl
  have l2 : ∀ (a b c d : Nat) (e g f h : Int), a + b ≤ x.o → c + d ≤ x.h → LookI T x ((k + 1 : Nat) : Int) (_impl_knowledge_forms_1_at_c2.f N self) ⟨A4 a c e g, A4 b d f h⟩ (∃ e f, e + f ≤ x.l ∧ doesP T k x ⟨a, b, c, d, e, f⟩) := by
    intro a b c d e g f h h1 h2
    rw [c2_is]
    refine cF_eq hN (s := 2) (by omega) (cnt := x.l) rfl (by have := hx.1; omega) (fun fm => ∃ e g f h : Int, fm = ⟨A4 a c e g, A4 b d f h⟩) (fun e f => doesP T k x ⟨a, b, c, d, e, f⟩) ?_ ?_ ⟨e, g, f, h, rfl⟩
    · rintro fm l r ⟨e, g, f, h, rfl⟩
      exact ⟨l, g, r, h, rfl⟩
    · rintro fm l r ⟨e, g, f, h, rfl⟩ hlr
      exact l3 ⟨a, b, c, d, l, r⟩ g h ⟨h1, h2, hlr⟩
  have l1 : ∀ (a b : Nat) (c e g d f h : Int), a + b ≤ x.o → LookI T x ((k + 1 : Nat) : Int) (_impl_knowledge_forms_1_at_c1.f N self) ⟨A4 a c e g, A4 b d f h⟩ (∃ c d, c + d ≤ x.h ∧ ∃ e f, e + f ≤ x.l ∧ doesP T k x ⟨a, b, c, d, e, f⟩) := by
    intro a b c e g d f h h1
    rw [c1_is]
    refine cF_eq hN (s := 1) (by omega) (cnt := x.h) rfl (by have := hx.1; omega) (fun fm => ∃ c e g d f h : Int, fm = ⟨A4 a c e g, A4 b d f h⟩) (fun c d => ∃ e f, e + f ≤ x.l ∧ doesP T k x ⟨a, b, c, d, e, f⟩) ?_ ?_ ⟨c, e, g, d, f, h, rfl⟩
    · rintro fm l r ⟨c, e, g, d, f, h, rfl⟩
      exact ⟨l, e, g, r, f, h, rfl⟩
    · rintro fm l r ⟨c, e, g, d, f, h, rfl⟩ hlr
      exact l2 a b l r e g f h h1 hlr
  have l0 := cF_eq (T := T) (x := x) (c := ((k + 1 : Nat) : Int)) (inner := _impl_knowledge_forms_1_at_c1.f N self) hN (s := 0) (by omega) (cnt := x.o) rfl (by have := hx.1; omega) (fun fm => ∃ a c e g b d f h : Int, fm = ⟨A4 a c e g, A4 b d f h⟩) (fun a b => ∃ c d, c + d ≤ x.h ∧ ∃ e f, e + f ≤ x.l ∧ doesP T k x ⟨a, b, c, d, e, f⟩) (by
      rintro fm l r ⟨a, c, e, g, b, d, f, h, rfl⟩
      exact ⟨l, c, e, g, r, d, f, h, rfl⟩) (by
      rintro fm l r ⟨a, c, e, g, b, d, f, h, rfl⟩ hlr
      exact l1 l r c e g d f h hlr) (fm := ⟨Ar.rep 4 0, Ar.rep 4 0⟩) ⟨0, 0, 0, 0, 0, 0, 0, 0, rfl⟩
  intro kv hI
  obtain ⟨b, kv', e, I, hb⟩ := l0 kv hI
  refine ⟨b, kv', by rw [c0_is]; exact e, I, hb.trans ?_⟩
  constructor
  · rintro ⟨a, b, h1, c, d, h2, e, f, h3, h4⟩
    exact ⟨_, ⟨h1, h2, h3⟩, h4⟩
  · rintro ⟨⟨a, b, c, d, e, f⟩, ⟨h1, h2, h3⟩, h4⟩
    exact ⟨a, b, h1, c, d, h2, e, f, h3, h4⟩
theorem pow_impl {N : Nat} (self : KM → KQ → Int → Option (Bool × KM)) (hN : 20 ≤ N) : ∀ k : Nat, k ≤ 5 → rounds (fun s => _impl_finder_can.b0 N self (k : Int) s.1 s.2) N (1, 0) = some (.go ((3 ^ k : Nat) : Int)) := by
  intro k hk
  have main : ∀ (M i : Nat), i ≤ k → k - i < M → rounds (fun s => _impl_finder_can.b0 N self (k : Int) s.1 s.2) M (((3 ^ i : Nat) : Int), (i : Int)) = some (.go ((3 ^ k : Nat) : Int)) := by
    intro M
    induction M with
    | zero => intro i _ h; exact absurd h (Nat.not_lt_zero _)
    | succ M ih =>
      intro i hi hM
      by_cases c : i < k
      · have h3 : 3 ^ i ≤ 3 ^ 5 := Nat.pow_le_pow_right (by omega) (by omega)
        have e : _impl_finder_can.b0 N self (k : Int) ((3 ^ i : Nat) : Int) (i : Int) = some (.next (((3 ^ (i + 1) : Nat) : Int), ((i + 1 : Nat) : Int))) := by
          unfold _impl_finder_can.b0
          rw [if_pos (by omega), Nat.pow_succ, idb (x := (i : Int) + 1) (by omega)]
          generalize 3 ^ i = q at h3 ⊢
          rw [idb (by omega)]
          congr 3 <;> omega
        exact (rounds_next (n := M) (b := fun s : Int × Int => _impl_finder_can.b0 N self (k : Int) s.1 s.2) (s := (((3 ^ i : Nat) : Int), (i : Int))) e).trans (ih (i + 1) (by omega) (by omega))
      · obtain rfl : i = k := by omega
        refine rounds_out ?_
        unfold _impl_finder_can.b0
        exact if_neg (by omega)
  exact main N 0 (by omega) (by omega)
theorem can_impl {N T : Nat} (hN : 20 ≤ N) : ∀ (k : Nat), k ≤ 5 → ∀ kf, k < kf → SelfI T k (_impl_finder_can.g N kf) := by
  intro k
  induction k with
  | zero =>
    intro _ kf hkf kv x hI hx
    obtain ⟨kf, rfl⟩ : ∃ j, kf = j + 1 := ⟨kf - 1, by omega⟩
    refine ⟨kv, ?_, hI⟩
    show _impl_finder_can.body N (_impl_finder_can.g N kf) kv (kq T x) ((0 : Nat) : Int) = _
    unfold _impl_finder_can.body
    rw [pow_impl _ hN 0 (by omega)]
    show _impl_finder_can.a0 N (_impl_finder_can.g N kf) (kq T x) kv ((0 : Nat) : Int) ((3 ^ 0 : Nat) : Int) = _
    unfold _impl_finder_can.a0
    rw [cases_impl hx, Option.bind_some]
    by_cases c : x.c ≤ 1
    · rw [if_pos (by omega), canB_t (show canP T 0 x from c)]
    · rw [if_neg (by omega), if_pos (show ((0 : Nat) : Int) = 0 from rfl), canB_f (show ¬ canP T 0 x from c)]
  | succ k ih =>
    intro hk kf hkf kv x hI hx
    obtain ⟨kf, rfl⟩ : ∃ j, kf = j + 1 := ⟨kf - 1, by omega⟩
    have hself := ih (by omega) kf (by omega)
    show ∃ kv', _impl_finder_can.body N (_impl_finder_can.g N kf) kv (kq T x) ((k + 1 : Nat) : Int) = _ ∧ _
    unfold _impl_finder_can.body
    rw [pow_impl _ hN (k + 1) hk]
    show ∃ kv', _impl_finder_can.a0 N (_impl_finder_can.g N kf) (kq T x) kv ((k + 1 : Nat) : Int) ((3 ^ (k + 1) : Nat) : Int) = _ ∧ _
    unfold _impl_finder_can.a0
    rw [cases_impl hx, Option.bind_some]
    by_cases c : x.c ≤ 1
    · rw [if_pos (by omega), canB_t (show canP T (k + 1) x from .inl c)]
      exact ⟨kv, rfl, hI⟩
    · rw [if_neg (by omega), if_neg (by omega)]
      by_cases c2 : x.c ≤ 3 ^ (k + 1)
      · rw [if_neg (by omega)]
        by_cases c3 : (mIdx kv (⟨kq T x, ((k + 1 : Nat) : Int)⟩ : S_impl_knowledgeLeft)).isSome = true
        · rw [if_pos c3, hI.get c3]
          exact ⟨kv, rfl, hI⟩
        · rw [if_neg c3, InvM.new c3]
          obtain ⟨b, kv', e, I, hb⟩ := forms_eq hself hN (by omega) hx kv hI
          have hbc : b = canB T (k + 1) x := by
            cases b with
            | true =>
              obtain ⟨m, h1, h2⟩ := hb.1 rfl
              exact (canB_t (show canP T (k + 1) x from .inr ⟨c2, m, h1, h2⟩)).symm
            | false =>
              refine (canB_f ?_).symm
              rintro (h | ⟨_, m, h1, h2⟩)
              · exact c h
              · exact Bool.false_ne_true (hb.2 ⟨m, h1, h2⟩)
          unfold _impl_knowledge_forms_at__impl_finder_can_1.f
          rw [e]
          refine ⟨mSet kv' ⟨kq T x, ((k + 1 : Nat) : Int)⟩ b, ?_, I.set hbc⟩
          rw [← hbc]
          rfl
      · rw [if_pos (by omega)]
        refine ⟨kv, ?_, hI⟩
        rw [canB_f (fun h => ?_)]
        exact c2 (canP_le h)
end Go.Proofs.YtgpdpedpmhonkaaX
