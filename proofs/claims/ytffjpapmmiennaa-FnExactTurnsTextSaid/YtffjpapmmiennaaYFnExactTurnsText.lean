/- FnExactTurnsText is true on every input: the plain side. -/
import Derived.Test.YtffjpapmmiennaaXR
import Derived.Test.YtffjpapmmiennaaXWalk
namespace Go.Proofs.YtffjpapmmiennaaX
open Go
set_option linter.unusedVariables false
set_option linter.unusedSimpArgs false
theorem toByteS_eq {N : Nat} {a : List Int} (h : a.length ≤ 1048576) (hN : a.length < N) : laws_toByteS.f N a = some a := by
  unfold laws_toByteS.f
  rw [if_pos ⟨by omega, by omega⟩, Int.toNat_natCast, rounds_copy a 0 hN ?_ ?_]
  · rfl
  · intro x i hi hx
    simp only [laws_toByteS.b0]
    rw [if_pos (by omega), if_pos ⟨by omega, by omega⟩, if_pos ⟨by omega, by omega⟩, rdL_nat hi, stL_nat, i64w_succ hi (by omega)]
  · intro x hx
    simp only [laws_toByteS.b0]
    rw [if_neg (by omega)]
theorem eqByteS_same {N : Nat} {a : List Int} (h : a.length ≤ 1048576) (hN : a.length < N) : laws_eqByteS.f N a a = some true := by
  unfold laws_eqByteS.f
  rw [if_pos rfl, rounds_same a a rfl hN ?_ ?_]
  · simp [Ex.fin, laws_eqByteS.a0]
  · intro i hi
    have g1 : (i : Int) < a.length := by omega
    have g2 : (0 : Int) ≤ i := by omega
    simp only [laws_eqByteS.b0, g1, g2, and_self, if_true, i64w_succ hi (show a.length ≤ 9223372036854775807 by omega)]
  · simp only [laws_eqByteS.b0]
    rw [if_neg (by omega)]
/-- How many bits a byte has. -/
def cnt (x : Int) : Int := (bits_OnesCount8.f 0 x).getD 0
theorem cnt_all : ∀ n : Nat, n < 256 → bits_OnesCount8.f 0 (n : Int) = some (cnt n) ∧ 0 ≤ cnt n ∧ cnt n ≤ 8 := by decide +kernel
theorem cnt_at {x : Int} (h0 : 0 ≤ x) (h1 : x ≤ 255) : bits_OnesCount8.f 0 x = some (cnt x) ∧ 0 ≤ cnt x ∧ cnt x ≤ 8 := by
  have := cnt_all x.toNat (by omega)
  rwa [Int.toNat_of_nonneg h0] at this
theorem ones_eq (N : Nat) {x : Int} (h0 : 0 ≤ x) (h1 : x ≤ 255) : bits_OnesCount8.f N x = some (cnt x) := (cnt_at h0 h1).1
abbrev plS (_ : Unit) (x : Int) : Ex (Ex Int Unit) Unit := if x ≥ 16 then .ret (.ret 2) else .go ()
abbrev plF (_ : Unit) : Ex Int Unit := .go ()
theorem planned_loop {N : Nat} {a : List Int} (h : a.length ≤ 1048576) (hN : a.length < N) : rounds (fun s => spec_l07Planned.b0 N a s) N 0 = some (walk plS plF () a) := by
  refine rounds_walk0 (fun _ i => i) a plS plF (fun _ _ => True) hN trivial ?_ ?_
  · intro acc i hi _
    have hq : spec_l07Planned.b0 N a (i : Int) = if a[i] ≥ 16 then some (.out (.ret 2)) else some (.next ((i + 1 : Nat) : Int)) := by
      simp only [spec_l07Planned.b0]
      rw [if_pos (by omega), if_pos ⟨by omega, by omega⟩, rdL_nat hi, i64w_succ hi (by omega)]
    rw [hq]
    by_cases hx : a[i] ≥ 16
    · simp only [plS, if_pos hx]
    · simp only [plS, if_neg hx]; exact ⟨trivial, trivial⟩
  · intro acc _
    simp only [spec_l07Planned.b0]
    rw [if_neg (by omega)]
abbrev imS (acc x : Int) : Ex (Ex (Int × Int) Int) Int := if x ≥ 16 then .ret (.ret (0, 2)) else .go (acc + cnt x)
abbrev smF (acc : Int) : Ex (Int × Int) Int := .go acc
theorem impl_loop {N : Nat} {a : List Int} (hb : ∀ x ∈ a, 0 ≤ x ∧ x ≤ 255) (h : a.length ≤ 1048576) (hN : a.length + 10 < N) : rounds (fun s => impl_TurnsIn.b0 N a s.1 s.2) N (0, 0) = some (walk imS smF 0 a) := by
  refine rounds_walk0 (fun acc i => (acc, i)) a imS smF (fun i acc => 0 ≤ acc ∧ acc ≤ 8 * i) (by omega) (by omega) ?_ ?_
  · intro acc i hi hI
    have hx := hb _ (List.getElem_mem hi)
    have hc := (cnt_at hx.1 hx.2).2
    have hq : impl_TurnsIn.b0 N a acc (i : Int) = if a[i] ≥ 16 then some (.out (.ret (0, 2))) else some (.next (acc + cnt a[i], ((i + 1 : Nat) : Int))) := by
      simp only [impl_TurnsIn.b0]
      rw [if_pos (by omega), if_pos ⟨by omega, by omega⟩, rdL_nat hi, ones_eq N hx.1 hx.2, i64w_succ hi (by omega)]
      simp only [Option.bind_some]
      rw [i64w_id (by omega) (by omega)]
    rw [hq]
    by_cases h16 : a[i] ≥ 16
    · simp only [imS, if_pos h16]
    · simp only [imS, if_neg h16]
      exact ⟨⟨by omega, by omega⟩, trivial⟩
  · intro acc _
    simp only [impl_TurnsIn.b0]
    rw [if_neg (by omega)]
theorem walks_low : ∀ (a : List Int) (acc : Int), (∀ x ∈ a, x < 16) → walk plS plF () a = .go () ∧ ∃ s, walk imS smF acc a = .go s
  | [], acc, _ => ⟨rfl, acc, rfl⟩
  | x :: a, acc, h => by
    have hx : ¬ x ≥ 16 := by have := h x (by simp); omega
    obtain ⟨h1, s, h3⟩ := walks_low a (acc + cnt x) (fun y hy => h y (by simp [hy]))
    refine ⟨?_, s, ?_⟩
    · simp only [walk, plS, if_neg hx]; exact h1
    · simp only [walk, imS, if_neg hx]; exact h3
theorem walks_high : ∀ (a : List Int) (acc : Int), (¬ ∀ x ∈ a, x < 16) → walk plS plF () a = .ret 2 ∧ walk imS smF acc a = .ret (0, 2)
  | [], acc, h => absurd (by simp) h
  | x :: a, acc, h => by
    by_cases hx : x ≥ 16
    · exact ⟨by simp [walk, plS, hx], by simp [walk, imS, hx]⟩
    · obtain ⟨h1, h2⟩ := walks_high a (acc + cnt x) (fun g => h (by
        intro y hy
        rcases List.mem_cons.1 hy with rfl | hy
        · omega
        · exact g y hy))
      refine ⟨?_, ?_⟩
      · simp only [walk, plS, if_neg hx]; exact h1
      · simp only [walk, imS, if_neg hx]; exact h2
/-- A plan that can be one. -/
def okP (a : List Int) : Prop := (∀ x ∈ a, x < 16) ∧ a.length ≤ 60
theorem plan_codes {N : Nat} {a : List Int} (hb : ∀ x ∈ a, 0 ≤ x ∧ x ≤ 255) (h : a.length ≤ 1048576) (hN : a.length + 10 < N) :
    ∃ c n, spec_l07Planned.f N a = some c ∧ impl_TurnsIn.f N a = some (n, c) ∧ (c = 0 → okP a) := by
  simp only [spec_l07Planned.f, impl_TurnsIn.f]
  rw [planned_loop h (by omega), impl_loop hb h hN]
  by_cases hl : ∀ x ∈ a, x < 16
  · obtain ⟨h1, s, h3⟩ := walks_low a 0 hl
    rw [h1, h3]
    simp only [Option.bind_some, Ex.fin, spec_l07Planned.a0, impl_TurnsIn.a0]
    by_cases h60 : (a.length : Int) > 60
    · exact ⟨3, 0, by rw [if_pos h60], by rw [if_pos h60], fun h => absurd h (by omega)⟩
    · exact ⟨0, s, by rw [if_neg h60], by rw [if_neg h60], fun _ => ⟨hl, by omega⟩⟩
  · obtain ⟨h1, h2⟩ := walks_high a 0 hl
    rw [h1, h2]
    exact ⟨2, 0, rfl, rfl, fun h => absurd h (by omega)⟩
/-- The text of a set of glasses. -/
def txt (x : Int) : List UInt8 := ((impl_setText.f 70 x).map (·.data.toList)).getD []
theorem txt_all : ∀ n : Nat, n < 16 → impl_setText.f 70 (u64w (n : Int)) = some ⟨(txt n).toArray⟩ ∧ spec_l05Text.f 10 (u16w (n : Int)) = some ⟨(txt n).toArray⟩ ∧ (txt n).length ≤ 4 := by decide +kernel
theorem txt_at {N : Nat} (hN : 70 < N) {x : Int} (h0 : 0 ≤ x) (h1 : x < 16) : impl_setText.f N (u64w x) = some ⟨(txt x).toArray⟩ ∧ spec_l05Text.f N (u16w x) = some ⟨(txt x).toArray⟩ ∧ (txt x).length ≤ 4 := by
  have := txt_all x.toNat (by omega)
  rw [Int.toNat_of_nonneg h0] at this
  obtain ⟨q1, q2, q3⟩ := this
  refine ⟨?_, ?_, q3⟩
  · unfold impl_setText.f at q1 ⊢
    by_cases hz : u64w x = 0
    · rw [if_pos hz] at q1 ⊢; exact q1
    · rw [if_neg hz] at q1 ⊢
      obtain ⟨e, he, hf⟩ := bind_get q1
      rw [show (fun s : ByteArray × Int => impl_setText.b0 N (u64w x) s.1 s.2) = (fun s => impl_setText.b0 70 (u64w x) s.1 s.2) from rfl, rounds_mono he (by omega)]
      exact hf
  · unfold spec_l05Text.f at q2 ⊢
    by_cases hz : u16w x = 0
    · rw [if_pos hz] at q2 ⊢; exact q2
    · rw [if_neg hz] at q2 ⊢
      obtain ⟨e, he, hf⟩ := bind_get q2
      rw [show (fun s : ByteArray × Int => spec_l05Text.b0 N (u16w x) s.1 s.2) = (fun s => spec_l05Text.b0 10 (u16w x) s.1 s.2) from rfl, rounds_mono he (by omega)]
      exact hf
/-- The texts of the first k sets, joined. -/
def jn (a : List Int) (k : Nat) : List UInt8 := Lib.join ((a.take k).map txt) [32]
theorem join_snoc (sep : List UInt8) (xs : List (List UInt8)) (y : List UInt8) : Lib.join (xs ++ [y]) sep = if xs = [] then y else Lib.join xs sep ++ sep ++ y := by
  cases xs with
  | nil => simp [Lib.join_one]
  | cons x r =>
    rw [if_neg (by simp), List.cons_append, Lib.join_cons, Lib.join_cons]
    simp [Lib.joinTail, List.append_assoc]
theorem jn_succ {a : List Int} {k : Nat} (h : k < a.length) : jn a (k + 1) = if k = 0 then txt a[k] else jn a k ++ [32] ++ txt a[k] := by
  unfold jn
  rw [List.take_add_one, List.getElem?_eq_getElem h, List.map_append]
  show Lib.join ((a.take k).map txt ++ [txt a[k]]) [32] = _
  rw [join_snoc]
  by_cases hk : k = 0
  · subst hk; simp
  · have : ¬ (a.take k).map txt = [] := by
      intro e
      have e2 : ((a.take k).map txt).length = 0 := by rw [e]; rfl
      rw [List.length_map, List.length_take] at e2
      omega
    rw [if_neg this, if_neg hk]
theorem jn_len {N : Nat} (hN : 70 < N) {a : List Int} (hb : ∀ x ∈ a, 0 ≤ x ∧ x ≤ 255) (hl : ∀ x ∈ a, x < 16) : ∀ k, k ≤ a.length → (jn a k).length ≤ 5 * k
  | 0, _ => by simp [jn, Lib.join_nil]
  | k + 1, h => by
    have ih := jn_len hN hb hl k (by omega)
    have hm := List.getElem_mem (show k < a.length by omega)
    have := (txt_at hN (hb _ hm).1 (hl _ hm)).2.2
    rw [jn_succ (by omega)]
    by_cases hk : k = 0
    · rw [if_pos hk]; omega
    · rw [if_neg hk]; simp; omega
theorem ba_app (x y : List UInt8) : (⟨x.toArray⟩ : ByteArray) ++ (⟨y.toArray⟩ : ByteArray) = ⟨(x ++ y).toArray⟩ := by
  apply ByteArray.ext
  simp
theorem ba_size (x : List UInt8) : (⟨x.toArray⟩ : ByteArray).size = x.length := by simp [ByteArray.size]
theorem plan_text {N : Nat} {a : List Int} (hb : ∀ x ∈ a, 0 ≤ x ∧ x ≤ 255) (hp : okP a) (hN : 100 < N) : spec_l07PlanText.f N a = some ⟨(jn a a.length).toArray⟩ := by
  have q := rounds_for (b := fun s => spec_l07PlanText.b0 N a s.1 s.2) (e := .go ⟨(jn a a.length).toArray⟩) (fun k => ((⟨(jn a k).toArray⟩ : ByteArray), (k : Int))) a.length 0 N (by omega) (by have := hp.2; omega) (by
    intro i _ hi
    have hm := List.getElem_mem hi
    have ht := txt_at (N := N) (by omega) (hb _ hm).1 (hp.1 _ hm)
    have hl := jn_len (N := N) (by omega) hb hp.1 i (by omega)
    have h60 := hp.2
    have hsp : (⟨#[32]⟩ : ByteArray) = ⟨([32] : List UInt8).toArray⟩ := rfl
    have g1 : (i : Int) < a.length := by omega
    have g2 : (0 : Int) ≤ i := by omega
    simp only [spec_l07PlanText.b0, spec_l07PlanText.j2, g1, g2, and_self, if_true, rdL_nat hi, ht.2.1, Option.bind_some, i64w_succ hi (show a.length ≤ 9223372036854775807 by omega), hsp, ba_app, ba_size]
    rw [jn_succ hi]
    by_cases hk : i = 0
    · subst hk
      have : jn a 0 = [] := by simp [jn, Lib.join_nil]
      simp only [this]
      have h4 := ht.2.2
      rw [if_neg (by omega), if_pos (by simp; omega)]
      simp
    · have h4 := ht.2.2
      rw [if_pos (by omega), if_pos (by simp; omega), if_pos (by simp; omega), if_neg hk]) (by
    simp only [spec_l07PlanText.b0]
    rw [if_neg (by omega)])
  have q' : rounds (fun s => spec_l07PlanText.b0 N a s.1 s.2) N ((⟨#[]⟩ : ByteArray), 0) = some (.go ⟨(jn a a.length).toArray⟩) := by
    have : jn a 0 = [] := by simp [jn, Lib.join_nil]
    simpa [this] using q
  unfold spec_l07PlanText.f
  rw [q']; rfl
theorem words_loop {N : Nat} {a : List Int} (hb : ∀ x ∈ a, 0 ≤ x ∧ x ≤ 255) (hp : okP a) (hN : 100 < N) :
    rounds (fun s => impl_TurnsText.b0 N a s.1 s.2) N (([] : List ByteArray), 0) = some (.go (a.map fun x => (⟨(txt x).toArray⟩ : ByteArray))) := by
  have q := rounds_for (b := fun s => impl_TurnsText.b0 N a s.1 s.2) (e := .go (a.map fun x => (⟨(txt x).toArray⟩ : ByteArray))) (fun k => ((a.take k).map fun x => (⟨(txt x).toArray⟩ : ByteArray), (k : Int))) a.length 0 N (by omega) (by have := hp.2; omega) (by
    intro i _ hi
    have hm := List.getElem_mem hi
    have ht := txt_at (N := N) (by omega) (hb _ hm).1 (hp.1 _ hm)
    have h60 := hp.2
    have g1 : (i : Int) < a.length := by omega
    have g2 : (0 : Int) ≤ i := by omega
    simp only [impl_TurnsText.b0, g1, g2, and_self, if_true, rdL_nat hi, ht.1, Option.bind_some, i64w_succ hi (show a.length ≤ 9223372036854775807 by omega)]
    rw [if_pos (by simp; omega), List.take_add_one, List.getElem?_eq_getElem hi, List.map_append]
    rfl) (by
    simp only [impl_TurnsText.b0]
    rw [if_neg (by omega)]
    simp)
  simpa using q
theorem TurnsText_same {N : Nat} {a : List Int} (hb : ∀ x ∈ a, 0 ≤ x ∧ x ≤ 255) (h : a.length ≤ 1048576) (hN : a.length + 100 < N) : ∃ r, spec_TurnsText.f N a = some r ∧ impl_TurnsText.f N a = some r := by
  obtain ⟨c, n, e1, e2, hc⟩ := plan_codes (N := N) hb h (by omega)
  simp only [spec_TurnsText.f, impl_TurnsText.f, e1, e2, Option.bind_some]
  by_cases h0 : c = 0
  · have hp := hc h0
    have hl := jn_len (N := N) (by omega) hb hp.1 a.length (Nat.le_refl _)
    have h60 := hp.2
    have ej : Lib.join ((a.map fun x => (⟨(txt x).toArray⟩ : ByteArray)).map (·.data.toList)) [32] = jn a a.length := by
      unfold jn
      simp [Function.comp_def]
    simp only [if_pos h0, plan_text hb hp (show 100 < N by omega), words_loop hb hp (show 100 < N by omega), Option.bind_some, Ex.fin, impl_TurnsText.a0, strings_Join.f]
    refine ⟨_, rfl, ?_⟩
    rw [ej, if_pos ⟨by simp; omega, by omega⟩]
    rfl
  · simp only [if_neg h0]
    exact ⟨_, rfl, rfl⟩
theorem laws_FnExactTurnsText.told (a0 : List Int) (h0 : ∀ x ∈ a0, IntKind.min .u8 ≤ x ∧ x ≤ IntKind.max .u8) (l0 : a0.length ≤ 9223372036854775807) : ∃ N, laws_FnExactTurnsText.f N a0 = some true := by
  rw [min_u8, max_u8] at h0
  by_cases h : (a0.length : Int) > 1048576
  · exact ⟨0, by simp only [laws_FnExactTurnsText.f, if_pos h]⟩
  · refine ⟨a0.length + 200, ?_⟩
    obtain ⟨r, h1, h2⟩ := TurnsText_same h0 (by omega) (N := a0.length + 200) (by omega)
    simp only [laws_FnExactTurnsText.f, if_neg h, toByteS_eq (N := a0.length + 200) (a := a0) (by omega) (by omega), Option.bind_some, h1, h2, if_true, eqByteS_same (N := a0.length + 200) (a := a0) (by omega) (by omega)]
end Go.Proofs.YtffjpapmmiennaaX
