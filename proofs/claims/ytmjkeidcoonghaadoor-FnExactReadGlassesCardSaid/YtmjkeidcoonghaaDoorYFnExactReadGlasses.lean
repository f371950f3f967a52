/- FnExactReadGlasses is true on every input: the plain side. -/
import Derived.Test.YtmjkeidcoonghaaDoorYN
import Derived.Test.YtmjkeidcoonghaaDoorYT
import Derived.Test.YtmjkeidcoonghaaDoorXMark
namespace Go.Proofs.YtmjkeidcoonghaaDoorX
open Go
set_option linter.unusedVariables false
set_option linter.unusedSimpArgs false
theorem markGlasses_eq {N : Nat} {a : List Int} {k : Int} (hk : 0 ≤ k ∧ k ≤ 1048578) (h : a.length ≤ 1048576) (hN : a.length < N) : laws_markGlasses.f N a k = some (k + a.length, marked i16w k a.length) := by
  unfold laws_markGlasses.f
  rw [rounds_mark i16w a k hN ?_ ?_]
  · rfl
  · intro x i hi hx
    simp only [laws_markGlasses.b0]
    rw [if_pos (by omega), if_pos ⟨by omega, by omega⟩, stL_nat, i64w_succ hi (by omega), i64w_id (x := k + (i : Int) + 1) (by omega) (by omega), show k + (i : Int) + 1 = k + ((i + 1 : Nat) : Int) by omega]
  · intro x hx
    simp only [laws_markGlasses.b0]
    rw [if_neg (by omega)]
theorem heldGlasses_eq {N n : Nat} {k : Int} (hk : 0 ≤ k ∧ k ≤ 1048578) (h : n ≤ 1048576) (hN : n < N) : laws_heldGlasses.f N (marked i16w k n) k = some (k + n) := by
  unfold laws_heldGlasses.f
  have hl := marked_len i16w k n
  rw [rounds_held n k hN ?_ ?_]
  · rfl
  · intro i hi
    simp only [laws_heldGlasses.b0]
    rw [if_pos (by omega), if_pos ⟨by omega, by omega⟩, rdL_nat (by omega), marked_get, if_pos rfl, i64w_succ hi (by omega), i64w_id (x := k + (i : Int) + 1) (by omega) (by omega), show k + (i : Int) + 1 = k + ((i + 1 : Nat) : Int) by omega]
  · simp only [laws_heldGlasses.b0]
    rw [if_neg (by omega)]
/- one word -/
theorem no_slash4 : ∀ n : Nat, n < 2001 → (47 : UInt8) ∉ dd 4 n := by decide +kernel
theorem no_slash {most : Int} (hm : most ≤ 2000) {l : List UInt8} (h : (nuI most l).2 = true) : (47 : UInt8) ∉ l := by
  obtain ⟨hr, hl⟩ := nuI_ok h
  have := no_slash4 (nuI most l).1.toNat (by omega)
  rw [← dd5 (show (nuI most l).1.toNat ≤ 2000 by omega), ← hl] at this
  exact this
/-- What a word of a glass tells: what lies above, and how much it holds. -/
def gw (l : List UInt8) : Option (Int × Int) := if (Lib.cut l [47]).2.2 = true then (if (nuI 40 (Lib.cut l [47]).1).2 = true then (if (nuI 40 (Lib.cut l [47]).2.1).2 = true then some ((nuI 40 (Lib.cut l [47]).1).1, (nuI 40 (Lib.cut l [47]).2.1).1) else none) else none) else none
theorem cut_miss {l : List UInt8} (h : (47 : UInt8) ∉ l) : (Lib.cut l [47]).2.2 = false := by
  unfold Lib.cut
  rw [index_miss l h]
  rfl
theorem cut_hit {pre post : List UInt8} (h : (47 : UInt8) ∉ pre) : Lib.cut (pre ++ 47 :: post) [47] = (pre, post, true) := by
  have hi := index_hit pre post h
  have hd : (pre ++ (47 : UInt8) :: post).drop (pre.length + ([47] : List UInt8).length) = post := by
    rw [List.length_singleton, show pre ++ (47 : UInt8) :: post = (pre ++ [47]) ++ post by simp, show pre.length + 1 = (pre ++ [(47 : UInt8)]).length by simp, List.drop_left]
  unfold Lib.cut
  rw [hi, Int.toNat_natCast, hd, List.take_left]
  simp
abbrev Z : List Int × Ar Int 4 × Int := ([], Ar.rep 4 0, 5)
theorem ba_data {p : ByteArray} {l : List UInt8} (h : p.data.toList = l) : p = ⟨l.toArray⟩ := by subst h; rfl
/-- What the reference does with a word, behind its split. -/
def spW (i : Nat) (g : List Int) (t : Ar Int 4) (l : List UInt8) : Bd (List Int × Ar Int 4 × Int) (List Int × Ar Int 4) (List Int × Ar Int 4 × Int) := if 4 ≤ i then .out (.ret Z) else match gw l with
  | none => .out (.ret Z)
  | some (a, b) => .next (g ++ [i16w b], t.set (i : Int) (i16w a), ((i + 1 : Nat) : Int))
theorem spec_word {N : Nat} {ws : List ByteArray} {g : List Int} {t : Ar Int 4} {i : Nat} (hi : i < ws.length) (hl : ws.length ≤ 1048577) (hg : g.length = i) (hz : (ws[i]).size ≤ 1048576) (hN : 3000000 < N) :
    spec_ReadGlasses.b0 N ws g t (i : Int) = some (spW i g t (ws[i]).data.toList) := by
  have e47 : (47 : Int) = (((47 : UInt8).toNat : Nat) : Int) := rfl
  unfold spec_ReadGlasses.b0
  rw [if_pos (by omega), if_pos ⟨by omega, by omega⟩, rdL_nat hi, e47, split_spec hz (show (ws[i]).size < N by omega), Option.bind_some, i64w_succ hi (by omega)]
  have hparts := strings_split (c := 47) ws[i]
  generalize hq : Lib.splitB ⟨#[47]⟩ 0 (Lib.countB ws[i] ⟨#[47]⟩) ws[i] = ps at hparts
  unfold spW
  by_cases hc : (47 : UInt8) ∈ (ws[i]).data.toList
  · obtain ⟨pre, post, hw, hp⟩ := List.eq_append_cons_of_mem hc
    rw [hw, spl_hit pre [] post hp, List.nil_append] at hparts
    have hgw : gw (ws[i]).data.toList = if (nuI 40 pre).2 = true then (if (nuI 40 post).2 = true then some ((nuI 40 pre).1, (nuI 40 post).1) else none) else none := by
      unfold gw
      rw [hw, cut_hit hp]
      simp only [if_true]
    rw [hgw]
    by_cases hc2 : (47 : UInt8) ∈ post
    · -- three parts or more
      have hlen : ¬ (ps.length : Int) = 2 := by
        obtain ⟨pre2, post2, hw2, hp2⟩ := List.eq_append_cons_of_mem hc2
        rw [hw2, spl_hit pre2 [] post2 hp2, List.nil_append] at hparts
        have h1 := congrArg List.length hparts
        have h2 : 1 ≤ (spl (47 : UInt8) [] post2).length := by
          cases post2 with
          | nil => simp [spl]
          | cons x r =>
            unfold spl
            split
            · simp
            · rcases hs : spl (47 : UInt8) ([] ++ [x]) r with _ | ⟨a, b⟩
              · exact absurd hs (by
                  have : ∀ (l cur : List UInt8), spl (47 : UInt8) cur l ≠ [] := by
                    intro l
                    induction l with
                    | nil => intro cur h; simp [spl] at h
                    | cons y l ih =>
                      intro cur h
                      unfold spl at h
                      split at h
                      · cases h
                      · exact ih _ h
                  exact this r _)
              · simp
        rw [List.length_map, List.length_cons, List.length_cons] at h1
        omega
      rw [if_neg hlen]
      have hno : ¬ (nuI 40 post).2 = true := fun g => no_slash (by decide) g hc2
      have : (if (nuI 40 pre).2 = true then (if (nuI 40 post).2 = true then some ((nuI 40 pre).1, (nuI 40 post).1) else none) else none) = none := by
        rw [if_neg hno]; split <;> rfl
      rw [this]
      split <;> rfl
    · rw [spl_miss post [] hc2, List.nil_append] at hparts
      obtain ⟨p0, p1, rfl, h0, h1⟩ : ∃ p0 p1, ps = [p0, p1] ∧ p0.data.toList = pre ∧ p1.data.toList = post := by
        match ps, hparts with
        | [p0, p1], hh => simp at hh; exact ⟨p0, p1, rfl, by simp [hh.1], by simp [hh.2]⟩
      rw [if_pos (by rfl)]
      by_cases h4 : 4 ≤ i
      · rw [if_pos (by omega), if_pos h4]
      · rw [if_neg (by omega), if_neg h4, if_pos (show (0 : Int) ≤ 0 ∧ (0 : Int) < (([p0, p1] : List ByteArray).length : Int) from ⟨by decide, by simp⟩)]
        have r0 : rdL [p0, p1] 0 (⟨#[]⟩ : ByteArray) = p0 := rfl
        have r1 : rdL [p0, p1] 1 (⟨#[]⟩ : ByteArray) = p1 := rfl
        rw [r0, number_spec (by omega), Option.bind_some, if_pos (show (0 : Int) ≤ 1 ∧ (1 : Int) < (([p0, p1] : List ByteArray).length : Int) from ⟨by decide, by simp⟩), r1, number_spec (by omega), Option.bind_some, h0, h1]
        by_cases c0 : (nuI 40 pre).2 = true
        · obtain ⟨e0, q0⟩ := nuS_of_nuI (by decide) c0
          by_cases c1 : (nuI 40 post).2 = true
          · obtain ⟨e1, q1⟩ := nuS_of_nuI (by decide) c1
            rw [if_pos c0, if_pos c1, e0, e1]
            simp only [if_true]
            rw [if_neg (by omega), if_neg (by omega), if_pos ⟨by omega, by omega⟩, if_pos (by rw [List.length_singleton]; omega)]
          · rw [if_pos c0, if_neg c1, e0]
            simp only [if_true]
            by_cases c2 : (nuS post).2 = true
            · rw [if_pos c2, if_neg (by omega)]
              by_cases c3 : (nuS post).1 > 40
              · rw [if_pos c3]
              · exact absurd (by rw [nuI_of_nuS (by decide) c2 (by omega)]) c1
            · rw [if_neg c2]
        · rw [if_neg c0]
          by_cases c2 : (nuS pre).2 = true
          · have c3 : (nuS pre).1 > 40 := by
              by_cases c3 : (nuS pre).1 > 40
              · exact c3
              · exact absurd (by rw [nuI_of_nuS (by decide) c2 (by omega)]) c0
            rw [if_pos c2]
            by_cases c4 : (nuS post).2 = true
            · rw [if_pos c4, if_pos c3]
            · rw [if_neg c4]
          · rw [if_neg c2]
  · rw [spl_miss _ [] hc, List.nil_append] at hparts
    have hlen : ¬ (ps.length : Int) = 2 := by
      have h1 := congrArg List.length hparts
      rw [List.length_map, List.length_singleton] at h1
      omega
    have hgw : gw (ws[i]).data.toList = none := by
      unfold gw
      rw [cut_miss hc]
      rfl
    rw [if_neg hlen, hgw]
    split <;> rfl
abbrev R3 := Ar Int 4 × List Int × Bool
def imW (i : Nat) (g : List Int) (t : Ar Int 4) (l : List UInt8) : Bd R3 (Ar Int 4 × List Int) (Ar Int 4 × List Int × Int) := if 4 ≤ i then .out (.ret (t, [], false)) else match gw l with
  | none => .out (.ret (t, [], false))
  | some (a, b) => .next (t.set (i : Int) (i16w a), g ++ [i16w b], ((i + 1 : Nat) : Int))
theorem impl_word {N : Nat} {ws : List ByteArray} {g : List Int} {t : Ar Int 4} {i : Nat} (hi : i < ws.length) (hl : ws.length ≤ 1048577) (hg : g.length = i) (hz : (ws[i]).size ≤ 1048576) :
    impl_readLevels.b0 N ws 40 t g (i : Int) = some (imW i g t (ws[i]).data.toList) := by
  have hL := sz ws[i]
  have hcl : (Lib.cut (ws[i]).data.toList [47]).1.length ≤ 1048576 ∧ (Lib.cut (ws[i]).data.toList [47]).2.1.length ≤ 1048576 := by
    unfold Lib.cut
    split
    · simp only [List.length_take, List.length_drop]; omega
    · simp only [List.length_nil]; omega
  have z0 : (⟨(Lib.cut (ws[i]).data.toList [47]).1.toArray⟩ : ByteArray).size ≤ 1048576 := by rw [sz]; exact hcl.1
  have z1 : (⟨(Lib.cut (ws[i]).data.toList [47]).2.1.toArray⟩ : ByteArray).size ≤ 1048576 := by rw [sz]; exact hcl.2
  have ec : strings_Cut.f N ws[i] (⟨#[47]⟩ : ByteArray) = some (⟨(Lib.cut (ws[i]).data.toList [47]).1.toArray⟩, ⟨(Lib.cut (ws[i]).data.toList [47]).2.1.toArray⟩, (Lib.cut (ws[i]).data.toList [47]).2.2) := by
    unfold strings_Cut.f
    rw [if_pos (by omega)]
  unfold impl_readLevels.b0
  rw [if_pos (by omega), if_pos ⟨by omega, by omega⟩, rdL_nat hi, ec, Option.bind_some, number_impl N z0, Option.bind_some, number_impl N z1, Option.bind_some, i64w_succ hi (by omega)]
  unfold imW gw
  by_cases c : (Lib.cut (ws[i]).data.toList [47]).2.2 = true
  · rw [if_pos c, if_pos c]
    by_cases c0 : (nuI 40 (Lib.cut (ws[i]).data.toList [47]).1).2 = true
    · rw [if_pos c0, if_pos c0]
      by_cases c1 : (nuI 40 (Lib.cut (ws[i]).data.toList [47]).2.1).2 = true
      · rw [if_pos c1, if_pos c1]
        by_cases h4 : 4 ≤ i
        · rw [if_pos (by omega), if_pos h4]
        · rw [if_neg (by omega), if_neg h4, if_pos (by rw [List.length_singleton]; omega), if_pos ⟨by omega, by omega⟩]
      · rw [if_neg c1, if_neg c1]; split <;> rfl
    · rw [if_neg c0, if_neg c0]; split <;> rfl
  · rw [if_neg c, if_neg c]; split <;> rfl
def i16r (g : List Int) : Prop := ∀ x ∈ g, -32768 ≤ x ∧ x ≤ 32767
theorem gw_range {l : List UInt8} {a b : Int} (h : gw l = some (a, b)) : (0 ≤ a ∧ a ≤ 40) ∧ (0 ≤ b ∧ b ≤ 40) := by
  unfold gw at h
  by_cases c : (Lib.cut l [47]).2.2 = true
  · rw [if_pos c] at h
    by_cases c0 : (nuI 40 (Lib.cut l [47]).1).2 = true
    · rw [if_pos c0] at h
      by_cases c1 : (nuI 40 (Lib.cut l [47]).2.1).2 = true
      · rw [if_pos c1] at h
        obtain ⟨rfl, rfl⟩ := Prod.mk.inj (Option.some.inj h)
        exact ⟨(nuI_ok c0).1, (nuI_ok c1).1⟩
      · rw [if_neg c1] at h; cases h
    · rw [if_neg c0] at h; cases h
  · rw [if_neg c] at h; cases h
/-- Both loops, side by side. -/
theorem both {N : Nat} {ws : List ByteArray} (hw : ∀ w ∈ ws, w.size ≤ 1048576) (hl : ws.length ≤ 1048577) (hN : 3000000 < N) : ∀ (m i : Nat) (g : List Int) (t : Ar Int 4), i ≤ ws.length → ws.length - i < m → g.length = i → i16r g →
    (rounds (fun s => spec_ReadGlasses.b0 N ws s.1 s.2.1 s.2.2) m (g, t, (i : Int)) = some (.ret Z) ∧ ∃ r : R3, rounds (fun s => impl_readLevels.b0 N ws 40 s.1 s.2.1 s.2.2) m (t, g, (i : Int)) = some (.ret r) ∧ r.2.2 = false) ∨
    (∃ g' t', rounds (fun s => spec_ReadGlasses.b0 N ws s.1 s.2.1 s.2.2) m (g, t, (i : Int)) = some (.go (g', t')) ∧ rounds (fun s => impl_readLevels.b0 N ws 40 s.1 s.2.1 s.2.2) m (t, g, (i : Int)) = some (.go (t', g')) ∧ g'.length ≤ 1048577 ∧ i16r g') := by
  intro m
  induction m with
  | zero => intro i g t _ h; exact absurd h (Nat.not_lt_zero _)
  | succ m ih =>
    intro i g t hi hm hg hr
    by_cases hlt : i < ws.length
    · have hz := hw _ (List.getElem_mem hlt)
      have h1 := spec_word (N := N) (t := t) hlt hl hg hz hN
      have h2 := impl_word (N := N) (t := t) hlt hl hg hz
      unfold spW at h1
      unfold imW at h2
      by_cases h4 : 4 ≤ i
      · rw [if_pos h4] at h1 h2
        exact .inl ⟨rounds_out h1, _, rounds_out h2, rfl⟩
      · rw [if_neg h4] at h1 h2
        cases hq : gw (ws[i]).data.toList with
        | none =>
          rw [hq] at h1 h2
          exact .inl ⟨rounds_out h1, _, rounds_out h2, rfl⟩
        | some ab =>
          obtain ⟨a, b⟩ := ab
          rw [hq] at h1 h2
          have hb := (gw_range hq).2
          rw [rounds_next h1, rounds_next h2]
          refine ih (i + 1) (g ++ [i16w b]) (t.set (i : Int) (i16w a)) (by omega) (by omega) (by rw [List.length_append, List.length_singleton, hg]) ?_
          intro x hx
          rcases List.mem_append.1 hx with hx | hx
          · exact hr x hx
          · rw [List.mem_singleton] at hx
            rw [hx, i16w_id (by omega) (by omega)]
            omega
    · have e : i = ws.length := by omega
      refine .inr ⟨g, t, rounds_out ?_, rounds_out ?_, by omega, hr⟩
      · show spec_ReadGlasses.b0 N ws g t (i : Int) = _
        unfold spec_ReadGlasses.b0
        rw [if_neg (by omega)]
      · show impl_readLevels.b0 N ws 40 t g (i : Int) = _
        unfold impl_readLevels.b0
        rw [if_neg (by omega)]
theorem okT_le {a : List Int} {c : Ar Int 4} (h : okT a c) : a.length ≤ 4 := (okT_len h).2.1
theorem ReadGlasses_same {N : Nat} {s : ByteArray} (hs : s.size ≤ 1048576) (hN : 4000000 < N) : ∃ r, spec_ReadGlasses.f N s = some r ∧ impl_ReadGlasses.f N s = some r ∧ r.1.length ≤ 60 := by
  classical
  unfold spec_ReadGlasses.f impl_ReadGlasses.f impl_readLevels.f
  have e32 : (32 : Int) = (((32 : UInt8).toNat : Nat) : Int) := rfl
  have hw : ∀ w ∈ Lib.splitB ⟨#[32]⟩ 0 (Lib.countB s ⟨#[32]⟩) s, w.size ≤ 1048576 := fun w h => Nat.le_trans (word_len h) hs
  have hl : (Lib.splitB ⟨#[32]⟩ 0 (Lib.countB s ⟨#[32]⟩) s).length ≤ 1048577 := Nat.le_trans words_len (by omega)
  rw [e32, split_spec hs (show s.size < N by omega), split_impl hs, Option.bind_some, Option.bind_some]
  generalize Lib.splitB ⟨#[32]⟩ 0 (Lib.countB s ⟨#[32]⟩) s = ws at hw hl
  rcases both hw hl (show 3000000 < N by omega) N 0 [] (Ar.rep 4 0) (Nat.zero_le _) (by omega) rfl (by intro x hx; cases hx) with ⟨h1, r, h2, h3⟩ | ⟨g, t, h1, h2, hgl, hgr⟩
  · have h1' : rounds (fun s => spec_ReadGlasses.b0 N ws s.1 s.2.1 s.2.2) N (([] : List Int), (Ar.rep 4 0), 0) = some (.ret Z) := h1
    have h2' : rounds (fun s => impl_readLevels.b0 N ws 40 s.1 s.2.1 s.2.2) N ((Ar.rep 4 0), ([] : List Int), 0) = some (.ret r) := h2
    rw [h1', h2', Option.bind_some, Option.bind_some]
    refine ⟨Z, rfl, ?_, by simp⟩
    show (some r).bind _ = _
    rw [Option.bind_some, if_neg (by rw [h3]; exact Bool.false_ne_true)]
  · have h1' : rounds (fun s => spec_ReadGlasses.b0 N ws s.1 s.2.1 s.2.2) N (([] : List Int), (Ar.rep 4 0), 0) = some (.go (g, t)) := h1
    have h2' : rounds (fun s => impl_readLevels.b0 N ws 40 s.1 s.2.1 s.2.2) N ((Ar.rep 4 0), ([] : List Int), 0) = some (.go (t, g)) := h2
    rw [h1', h2', Option.bind_some, Option.bind_some]
    show ∃ r, spec_ReadGlasses.a0 N g t = some r ∧ (impl_readLevels.a0 N t g).bind _ = some r ∧ _
    unfold spec_ReadGlasses.a0 impl_readLevels.a0
    rw [Option.bind_some, if_pos rfl, okT_spec hgr (by omega), Option.bind_some]
    by_cases hlen : g.length ≤ 1048576
    · rw [okT_impl hgr hlen (by omega), Option.bind_some]
      by_cases k : okT g t
      · rw [decide_eq_true k, if_pos rfl]; exact ⟨_, rfl, rfl, by have := okT_le k; show g.length ≤ 60; omega⟩
      · rw [decide_eq_false k, if_neg Bool.false_ne_true]; exact ⟨Z, rfl, rfl, by simp⟩
    · have k : ¬ okT g t := fun k => by have := okT_le k; omega
      have hs0 : st g = 0 := st_bad (fun h => by omega)
      have hi : impl_ValidTops.f N g t = some false := by
        simp only [impl_ValidTops.f, impl_ValidGlasses.f, impl_size_int16.f, impl_within.f, Option.bind_some]
        rw [if_pos (by omega), Option.bind_some, decide_eq_false (by omega), if_neg Bool.false_ne_true, Option.bind_some, if_neg Bool.false_ne_true]
      rw [hi, Option.bind_some, decide_eq_false k, if_neg Bool.false_ne_true]
      exact ⟨Z, rfl, rfl, by simp⟩
theorem laws_FnExactReadGlasses.told (a0 : ByteArray) : ∃ N, laws_FnExactReadGlasses.f N a0 = some true := by
  by_cases h : (a0.size : Int) > 1048576
  · exact ⟨0, by simp only [laws_FnExactReadGlasses.f, if_pos h]⟩
  · refine ⟨5000000, ?_⟩
    obtain ⟨r, e1, e2, hr⟩ := ReadGlasses_same (N := 5000000) (s := a0) (by omega) (by omega)
    have hn : ¬ (1 + (r.1.length : Int) < 0) := by omega
    unfold laws_FnExactReadGlasses.f
    rw [if_neg h, e1, e2, Option.bind_some, Option.bind_some]
    simp only [eqGlasses_eq (N := 5000000) (a := r.1) (c := r.1) (by omega) (by omega), eqTops_eq (N := 5000000) r.2.1 r.2.1 (by omega), decide_true, Option.bind_some, if_true, markGlasses_eq (N := 5000000) (a := r.1) (k := 1) ⟨by omega, by omega⟩ (by omega) (by omega), heldGlasses_eq (N := 5000000) (n := r.1.length) (k := 1) ⟨by omega, by omega⟩ (by omega) (by omega), hn, if_false]
end Go.Proofs.YtmjkeidcoonghaaDoorX
