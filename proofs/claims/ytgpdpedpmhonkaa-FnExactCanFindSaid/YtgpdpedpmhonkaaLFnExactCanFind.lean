/- The row of FnExactCanFind: Go's code comes to what the plain function says (module YtgpdpedpmhonkaaXC13), and that is true on every input (YtgpdpedpmhonkaaYFnExactCanFind). -/
import Derived.Test.YtgpdpedpmhonkaaRows
import Derived.Test.YtgpdpedpmhonkaaXC13
import Derived.Test.YtgpdpedpmhonkaaXArg
import Derived.Test.YtgpdpedpmhonkaaYFnExactCanFind
import Derived.WalkKit
import Derived.ProofKit
namespace Go.Proofs.Ytgpdpedpmhonkaa.fnExactCanFind
open Go.ChangeShapes Go.WideShapes Go.ChangeAt Go.RowKit Go.Proofs.YtgpdpedpmhonkaaX
open Go.ChangeMaps (open_string shut_string)
set_option linter.unusedVariables false
theorem own : ownKnob Try.prog.godebug = none := by kernel_rfl
theorem laidOut : laidOutB Try.prog = true := by kernel_rfl
set_option maxRecDepth 100000 in
theorem lifted (os : Os) (started : os.Started) (H : Type) (enc : TypeId × Value → H) :
    ReturnsInHanded {} Try.checked os 3 .any (Rows.fnExactCanFindSpec.pre6 enc Try.prog Try.f3 Rows.fnExactCanFindRow.domain false) (Rows.fnExactCanFindSpec.post enc Try.prog Try.f3 false true false false) := by
  refine returnsInHanded_of_change_sized (C := Try.checked) own started (by kernel_rfl) Try.func3
    (ChangeSpec.witness6 (enc := enc) (C := Try.checked) false ⟨#[], #[.agg #[.int .i8 0, .int .i8 0, .bool false, .bool false], .int .i64 0], []⟩ 8 (by kernel_rfl) (by kernel_rfl) (by kernel_rfl) (by kernel_rfl)) ?_
  intro W base args ds gs before hval0 hW hcnd hsz0 _
  have hval : ∀ (j : Nat) t v, Try.f3.params[j]? = some t → args[j]? = some v → Value.okWide Try.prog W .any base t v := hval0
  have hW' := hW
  obtain ⟨p, q, hA0, hV, rfl, hfz, hnd⟩ := hW
  have hA : DataW.TrodAll enc Try.prog W 0 (fun _ => true) true Try.f3.params.toList args.toList ds p := hA0
  rw [Try.params3] at hA hval
  obtain ⟨v0, vs0, d0, ds0, p0, q0, hargs, rfl, rfl, h0, r0⟩ := trodAll_cons hA
  obtain ⟨v1, vs1, d1, ds1, p1, q1, rfl, rfl, rfl, h1, r1⟩ := trodAll_cons r0
  obtain ⟨rfl, rfl, rfl⟩ := trodAll_nil r1
  obtain rfl : args = #[v0, v1] := by cases args; simp_all
  obtain ⟨rfl, rfl⟩ := trodVars_none hV
  have k0 := h0
  have lt0 : ∀ x ∈ p0, x.block < W.heap.size := by obtain ⟨m, hm⟩ := k0; exact DataW.trod_lt m _ _ _ hm
  obtain ⟨v0_0, v0_1, v0_2, v0_3, x0_0, x0_1, x0_2, x0_3, rfl, ⟨rfl, oo0_0⟩, ⟨rfl, oo0_1⟩, rfl, rfl⟩ := op_st4 Try.underlying24 (by kernel_rfl) ⟨rfl, rfl, by kernel_rfl⟩ ⟨rfl, rfl, by kernel_rfl⟩ ⟨rfl, rfl, by kernel_rfl⟩ ⟨rfl, rfl, by kernel_rfl⟩ (cell_int Try.underlying22) (cell_int Try.underlying22) (cell_bool Try.underlying4) (cell_bool Try.underlying4) (by obtain ⟨c, e, _⟩ := okWide_struct Try.underlying24 (hval 0 24 v0 rfl rfl); exact ⟨c, e⟩) h0
  have k1 := h1
  have lt1 : ∀ x ∈ p1, x.block < W.heap.size := by obtain ⟨m, hm⟩ := k1; exact DataW.trod_lt m _ _ _ hm
  obtain ⟨x1, rfl, _, _, ww1⟩ := open_int Try.underlying2 (hval 1 2 v1 rfl rfl) h1
  have oo1 : IntKind.min .i64 ≤ x1 ∧ x1 ≤ IntKind.max .i64 := by simpa [Lit.wf] using ww1
  clear hA0 hval0 hsz0
  obtain ⟨N, hN⟩ := laws_FnExactCanFind.told (⟨x0_0, x0_1, x0_2, x0_3⟩ : S_laws_Task) oo0_0 oo0_1 x1 oo1
  refine (laws_FnExactCanFind.calls  hN).mono fun e W' ⟨v, he, hv, hst⟩ => ?_
  subst he
  subst hv
  have bel := hst.below
  exact ⟨_, rfl, _, _, _, [], _, [], hW', trodAll_mk1 (shut_bool Try.underlying4 _), (trodAll_cons_mk (Below.trod laidOut (by kernel_rfl) (of_decide_eq_true (by kernel_rfl)) k0 bel lt0) (trodAll_cons_mk (Below.trod laidOut (by kernel_rfl) (of_decide_eq_true (by kernel_rfl)) k1 bel lt1) trodAll_mk0)), rfl, bel.frame _, fun h => by cases h⟩
theorem over : Rows.fnExactCanFindRow.holds Try.pinned (OpenSpec.ofChange Rows.fnExactCanFindSpec) :=
  OpenClaim.holds_of_wide 3 Try.f3 rfl rfl rfl rfl rfl rfl rfl ⟨rfl, rfl, rfl, rfl, rfl⟩ rfl rfl rfl rfl rfl (by kernel_rfl) Try.func3 (by kernel_rfl)
    (of_decide_eq_true (by kernel_rfl)) (by unfold Func.isWrapper; first | (rw [if_pos (by decide +kernel)]; kernel_rfl) | (rw [if_neg (by decide +kernel)]; exact ⟨rfl, rfl⟩))
    (fun os started H enc _ => lifted os started H enc)
end Go.Proofs.Ytgpdpedpmhonkaa.fnExactCanFind
namespace Go.Proofs.Ytgpdpedpmhonkaa
/-- The row, under a short name, for the claim. -/
theorem fnExactCanFind_holds : Rows.FnExactCanFindSaid := fnExactCanFind.over
end Go.Proofs.Ytgpdpedpmhonkaa
