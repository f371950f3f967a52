/- What the laws about games do besides. -/
import Derived.Test.YtpbkenbmjgchkaaYD
namespace Go.Proofs.YtpbkenbmjgchkaaX
open Go
set_option linter.unusedVariables false
set_option linter.unusedSimpArgs false
theorem min_i8 : IntKind.min .i8 = -128 := rfl
theorem max_i8 : IntKind.max .i8 = 127 := rfl
/-- The law's game as the program's. -/
def gm (G : S_laws_Game) : Ga := ⟨G.f_Numbers, G.f_Lies, G.f_Asked⟩
theorem szGame_pos {N : Nat} {G : S_laws_Game} (h : G.f_Asked.length ≤ 1048576) : laws_szGame.f N G 1048576 = some (1048576 - (G.f_Asked.length : Int)) := by
  simp only [laws_szGame.f, laws_szAskS.f, i64w_id (x := 1048576 - (G.f_Asked.length : Int)) (by omega) (by omega)]
  rw [if_neg (by omega)]
  simp only [Option.bind_some]
  rw [if_neg (by omega)]
theorem szGame_neg {N : Nat} {G : S_laws_Game} (h : G.f_Asked.length > 1048576) (h' : G.f_Asked.length ≤ 9223372036854775807) : laws_szGame.f N G 1048576 = some (-1) := by
  simp only [laws_szGame.f, laws_szAskS.f, i64w_id (x := 1048576 - (G.f_Asked.length : Int)) (by omega) (by omega)]
  rw [if_pos (by omega)]
  rfl
theorem toAskS_eq {N : Nat} {a : List As_} (h : a.length ≤ 1048576) (hN : a.length < N) : laws_toAskS.f N a = some a := by
  unfold laws_toAskS.f
  rw [if_pos ⟨by omega, by omega⟩, Int.toNat_natCast, rounds_copy a z_S_impl_Ask hN ?_ ?_]
  · rfl
  · intro x i hi hx
    have e : laws_toAsk.f N (rdL a (i : Int) z_S_impl_Ask) = some (rdL a (i : Int) z_S_impl_Ask) := rfl
    simp only [laws_toAskS.b0, e, Option.bind_some]
    rw [if_pos (by omega), if_pos ⟨by omega, by omega⟩, if_pos ⟨by omega, by omega⟩, rdL_nat hi, stL_nat, i64w_succ hi (by omega)]
  · intro x hx
    simp only [laws_toAskS.b0]
    rw [if_neg (by omega)]
theorem toGame_eq {N : Nat} {G : S_laws_Game} (h : G.f_Asked.length ≤ 1048576) (hN : G.f_Asked.length < N) : laws_toGame.f N G = some (gm G) := by
  simp only [laws_toGame.f, toAskS_eq h hN, Option.bind_some, gm]
theorem eqAskS_same {N : Nat} {a : List As_} (h : a.length ≤ 1048576) (hN : a.length < N) : laws_eqAskS.f N a a = some true := by
  unfold laws_eqAskS.f
  rw [if_pos rfl, rounds_same a a rfl hN ?_ ?_]
  · simp [Ex.fin, laws_eqAskS.a0]
  · intro i hi
    have g1 : (i : Int) < a.length := by omega
    have g2 : (0 : Int) ≤ i := by omega
    have e : laws_eqAsk.f N (rdL a (i : Int) z_S_impl_Ask) (rdL a (i : Int) z_S_impl_Ask) = some true := by simp [laws_eqAsk.f]
    simp only [laws_eqAskS.b0, g1, g2, and_self, if_true, e, Option.bind_some, i64w_succ hi (show a.length ≤ 9223372036854775807 by omega)]
  · simp only [laws_eqAskS.b0]
    rw [if_neg (by omega)]
theorem eqGame_same {N : Nat} {G : Ga} (h : G.f_Asked.length ≤ 1048576) (hN : G.f_Asked.length < N) : laws_eqGame.f N G G = some true := by
  simp only [laws_eqGame.f, if_true, eqAskS_same h hN, Option.bind_some]
theorem arS_range (G : Ga) {k : Nat} (hk : k ≤ 60) : ∀ j : Nat, j < 4 → 0 ≤ (arS G k).get j 0 ∧ (arS G k).get j 0 ≤ 1000 := by
  intro j hj
  have h0 := sl_len G k 0
  have h1 := sl_len G k 1
  have h2 := sl_len G k 2
  have h3 := sl_len G k 3
  obtain rfl | rfl | rfl | rfl : j = 0 ∨ j = 1 ∨ j = 2 ∨ j = 3 := by omega
  · show 0 ≤ ((sl G k 0).length : Int) ∧ ((sl G k 0).length : Int) ≤ 1000; omega
  · show 0 ≤ ((sl G k 1).length : Int) ∧ ((sl G k 1).length : Int) ≤ 1000; omega
  · show 0 ≤ ((sl G k 2).length : Int) ∧ ((sl G k 2).length : Int) ≤ 1000; omega
  · show 0 ≤ ((sl G k 3).length : Int) ∧ ((sl G k 3).length : Int) ≤ 1000; omega
/-- What both sides ask next. -/
theorem next_both {N : Nat} {G : Ga} (hG : InG G) (hN : 70 < N) (hk : okG G = true) : ∃ x q s, spec_l06State.f N G = some x ∧ spec_l06Half.f N x = some q ∧ spec_l06Set.f N G q = some s ∧ impl_NextSet.f N G = some (s, 0) := by
  have h := okG_iff hk
  have hn := h.n60
  unfold B60 at hn
  obtain ⟨r, e1, e2, hr⟩ := half_both (N := N) hN (x := arS G (nG G)) (arS_range G (by unfold nG; omega))
  obtain ⟨s, e3, e4⟩ := set_same h hN hr
  refine ⟨_, _, _, state_spec h hN, e1, e3, ?_⟩
  simp only [impl_NextSet.f, G_eta, okG_impl hG hN, if_pos hk, state_impl h hN, Option.bind_some, e2, e4]
end Go.Proofs.YtpbkenbmjgchkaaX
