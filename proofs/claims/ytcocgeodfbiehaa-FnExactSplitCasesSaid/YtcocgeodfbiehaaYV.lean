/- What the laws about false coins do besides. -/
import Derived.Test.YtcocgeodfbiehaaYU
namespace Go.Proofs.YtcocgeodfbiehaaX
open Go
set_option linter.unusedVariables false
set_option linter.unusedSimpArgs false
theorem min_i8 : IntKind.min .i8 = -128 := rfl
theorem max_i8 : IntKind.max .i8 = 127 := rfl
theorem szCaseS_eq {N : Nat} {a : List Cs} (h : a.length ≤ 9223372036854775807) : laws_szCaseS.f N a 1048576 = some (if a.length ≤ 1048576 then 1048576 - (a.length : Int) else -1) := by
  simp only [laws_szCaseS.f, i64w_id (x := 1048576 - (a.length : Int)) (by omega) (by omega)]
  by_cases c : a.length ≤ 1048576
  · rw [if_neg (by omega), if_pos c]
  · rw [if_pos (by omega), if_neg c]
theorem toCaseS_eq {N : Nat} {a : List Cs} (h : a.length ≤ 1048576) (hN : a.length < N) : laws_toCaseS.f N a = some a := by
  unfold laws_toCaseS.f
  rw [if_pos ⟨by omega, by omega⟩, Int.toNat_natCast, rounds_copy a z_S_impl_Case hN ?_ ?_]
  · rfl
  · intro x i hi hx
    have e : laws_toCase.f N (rdL a (i : Int) z_S_impl_Case) = some (rdL a (i : Int) z_S_impl_Case) := rfl
    simp only [laws_toCaseS.b0, e, Option.bind_some]
    rw [if_pos (by omega), if_pos ⟨by omega, by omega⟩, if_pos ⟨by omega, by omega⟩, rdL_nat hi, stL_nat, i64w_succ hi (by omega)]
  · intro x hx
    simp only [laws_toCaseS.b0]
    rw [if_neg (by omega)]
theorem eqCaseS_same {N : Nat} {a : List Cs} (h : a.length ≤ 1048576) (hN : a.length < N) : laws_eqCaseS.f N a a = some true := by
  unfold laws_eqCaseS.f
  rw [if_pos rfl, rounds_same a a rfl hN ?_ ?_]
  · simp [Ex.fin, laws_eqCaseS.a0]
  · intro i hi
    have g1 : (i : Int) < a.length := by omega
    have g2 : (0 : Int) ≤ i := by omega
    have e : laws_eqCase.f N (rdL a (i : Int) z_S_impl_Case) (rdL a (i : Int) z_S_impl_Case) = some true := by simp [laws_eqCase.f]
    simp only [laws_eqCaseS.b0, g1, g2, and_self, if_true, e, Option.bind_some, i64w_succ hi (show a.length ≤ 9223372036854775807 by omega)]
  · simp only [laws_eqCaseS.b0]
    rw [if_neg (by omega)]
theorem toTask_eq (N : Nat) (t : Tk) : laws_toTask.f N t = some t := rfl
def cpW (w : We) (k : Nat) : We := ⟨(w.l.take k ++ List.replicate (14 - k) 0).take 14, by have := w.h; simp; omega⟩
theorem cpW_l {w : We} {k : Nat} (hk : k ≤ 14) : (cpW w k).l = w.l.take k ++ List.replicate (14 - k) 0 := by
  have := w.h
  unfold cpW
  exact List.take_of_length_le (by simp; omega)
theorem toWeighing_eq {N : Nat} (hN : 40 < N) (w : We) : laws_toWeighing.f N w = some w := by
  have hw := w.h
  have q := rounds_for (b := fun s => laws_toWeighing.b0 N w s.1 s.2) (e := .go w) (fun k => (cpW w k, (k : Int))) 14 0 N (by omega) (by omega) (by
    intro i _ hi
    have g1 : ((i : Nat) : Int) < 14 := by omega
    have g2 : (0 : Int) ≤ (i : Int) := by omega
    have hn : i64w ((i : Int) + 1) = ((i + 1 : Nat) : Int) := by rw [i64w_id (by omega) (by omega)]; omega
    have hs : (cpW w i).set (i : Int) (w.get (i : Int) 0) = cpW w (i + 1) := by
      apply Ar.ext'
      have e : w.get (i : Int) 0 = w.l[i] := by
        unfold Ar.get
        simp [List.getD_eq_getElem?_getD, hw, hi]
      simp only [Ar.set, Int.toNat_natCast]
      rw [cpW_l (by omega), cpW_l (by omega), e]
      have := copy_set w.l (0 : Int) i (by omega)
      rw [show w.l.length - i = 14 - i by rw [hw], show w.l.length - (i + 1) = 14 - (i + 1) by rw [hw]] at this
      exact this
    simp only [laws_toWeighing.b0, g1, g2, and_self, if_true, hn, hs]) (by
    simp only [laws_toWeighing.b0]
    rw [if_neg (by omega)]
    have : cpW w 14 = w := by
      apply Ar.ext'
      rw [cpW_l (by omega)]
      simp [← hw]
    rw [this])
  have q' : rounds (fun s => laws_toWeighing.b0 N w s.1 s.2) N (Ar.rep 14 0, 0) = some (.go w) := by
    have e : cpW w 0 = Ar.rep 14 0 := by
      apply Ar.ext'
      rw [cpW_l (by omega)]
      simp [Ar.rep]
    have := q
    simp only [e] at this
    exact this
  unfold laws_toWeighing.f
  rw [q']; rfl
end Go.Proofs.YtcocgeodfbiehaaX
