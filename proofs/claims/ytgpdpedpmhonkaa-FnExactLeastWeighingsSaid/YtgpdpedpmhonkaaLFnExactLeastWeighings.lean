/- The row of FnExactLeastWeighings: Go's code comes to what the plain function says (module YtgpdpedpmhonkaaXC13), and that is true on every input (YtgpdpedpmhonkaaYFnExactLeastWeighings). -/
import Derived.Test.YtgpdpedpmhonkaaRows
import Derived.Test.YtgpdpedpmhonkaaXC13
import Derived.Test.YtgpdpedpmhonkaaXArg
import Derived.Test.YtgpdpedpmhonkaaYFnExactLeastWeighings
import Derived.WalkKit
import Derived.ProofKit
namespace Go.Proofs.Ytgpdpedpmhonkaa.fnExactLeastWeighings
open Go.ChangeShapes Go.WideShapes Go.ChangeAt Go.RowKit Go.Proofs.YtgpdpedpmhonkaaX
open Go.ChangeMaps (open_string shut_string)
set_option linter.unusedVariables false
theorem own : ownKnob Try.prog.godebug = none := by kernel_rfl
theorem laidOut : laidOutB Try.prog = true := by kernel_rfl
set_option maxRecDepth 100000 in
theorem lifted (os : Os) (started : os.Started) (H : Type) (enc : TypeId × Value → H) :
    ReturnsInHanded {} Try.checked os 4 .any (Rows.fnExactLeastWeighingsSpec.pre6 enc Try.prog Try.f4 Rows.fnExactLeastWeighingsRow.domain false) (Rows.fnExactLeastWeighingsSpec.post enc Try.prog Try.f4 false true false false) := by
  refine returnsInHanded_of_change_sized (C := Try.checked) own started (by kernel_rfl) Try.func4
    (ChangeSpec.witness6 (enc := enc) (C := Try.checked) false ⟨#[], #[.agg #[.int .i8 0, .int .i8 0, .bool false, .bool false]], []⟩ 8 (by kernel_rfl) (by kernel_rfl) (by kernel_rfl) (by kernel_rfl)) ?_
  intro W base args ds gs before hval0 hW hcnd hsz0 _
  have hval : ∀ (j : Nat) t v, Try.f4.params[j]? = some t → args[j]? = some v → Value.okWide Try.prog W .any base t v := hval0
  have hW' := hW
  obtain ⟨p, q, hA0, hV, rfl, hfz, hnd⟩ := hW
  have hA : DataW.TrodAll enc Try.prog W 0 (fun _ => true) true Try.f4.params.toList args.toList ds p := hA0
  rw [Try.params4] at hA hval
  obtain ⟨v0, vs0, d0, ds0, p0, q0, hargs, rfl, rfl, h0, r0⟩ := trodAll_cons hA
  obtain ⟨rfl, rfl, rfl⟩ := trodAll_nil r0
  obtain rfl : args = #[v0] := by cases args; simp_all
  obtain ⟨rfl, rfl⟩ := trodVars_none hV
  have k0 := h0
  have lt0 : ∀ x ∈ p0, x.block < W.heap.size := by obtain ⟨m, hm⟩ := k0; exact DataW.trod_lt m _ _ _ hm
  obtain ⟨v0_0, v0_1, v0_2, v0_3, x0_0, x0_1, x0_2, x0_3, rfl, ⟨rfl, oo0_0⟩, ⟨rfl, oo0_1⟩, rfl, rfl⟩ := op_st4 Try.underlying24 (by kernel_rfl) ⟨rfl, rfl, by kernel_rfl⟩ ⟨rfl, rfl, by kernel_rfl⟩ ⟨rfl, rfl, by kernel_rfl⟩ ⟨rfl, rfl, by kernel_rfl⟩ (cell_int Try.underlying22) (cell_int Try.underlying22) (cell_bool Try.underlying4) (cell_bool Try.underlying4) (by obtain ⟨c, e, _⟩ := okWide_struct Try.underlying24 (hval 0 24 v0 rfl rfl); exact ⟨c, e⟩) h0
  clear hA0 hval0 hsz0
  obtain ⟨N, hN⟩ := laws_FnExactLeastWeighings.told (⟨x0_0, x0_1, x0_2, x0_3⟩ : S_laws_Task) oo0_0 oo0_1
  refine (laws_FnExactLeastWeighings.calls  hN).mono fun e W' ⟨v, he, hv, hst⟩ => ?_
  subst he
  subst hv
  have bel := hst.below
  exact ⟨_, rfl, _, _, _, [], _, [], hW', trodAll_mk1 (shut_bool Try.underlying4 _), (trodAll_cons_mk (Below.trod laidOut (by kernel_rfl) (of_decide_eq_true (by kernel_rfl)) k0 bel lt0) trodAll_mk0), rfl, bel.frame _, fun h => by cases h⟩
theorem over : Rows.fnExactLeastWeighingsRow.holds Try.pinned (OpenSpec.ofChange Rows.fnExactLeastWeighingsSpec) :=
  OpenClaim.holds_of_wide 4 Try.f4 rfl rfl rfl rfl rfl rfl rfl ⟨rfl, rfl, rfl, rfl, rfl⟩ rfl rfl rfl rfl rfl (by kernel_rfl) Try.func4 (by kernel_rfl)
    (of_decide_eq_true (by kernel_rfl)) (by unfold Func.isWrapper; first | (rw [if_pos (by decide +kernel)]; kernel_rfl) | (rw [if_neg (by decide +kernel)]; exact ⟨rfl, rfl⟩))
    (fun os started H enc _ => lifted os started H enc)
end Go.Proofs.Ytgpdpedpmhonkaa.fnExactLeastWeighings
namespace Go.Proofs.Ytgpdpedpmhonkaa
/-- The row, under a short name, for the claim. -/
theorem fnExactLeastWeighings_holds : Rows.FnExactLeastWeighingsSaid := fnExactLeastWeighings.over
end Go.Proofs.Ytgpdpedpmhonkaa
