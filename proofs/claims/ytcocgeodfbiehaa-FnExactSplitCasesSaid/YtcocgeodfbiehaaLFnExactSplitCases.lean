/- The row of FnExactSplitCases: Go's code comes to what the plain function says (module YtcocgeodfbiehaaXC11), and that is true on every input (YtcocgeodfbiehaaYFnExactSplitCases). -/
import Derived.Test.YtcocgeodfbiehaaRows
import Derived.Test.YtcocgeodfbiehaaXC11
import Derived.Test.YtcocgeodfbiehaaXArg
import Derived.Test.YtcocgeodfbiehaaYFnExactSplitCases
import Derived.WalkKit
import Derived.ProofKit
namespace Go.Proofs.Ytcocgeodfbiehaa.fnExactSplitCases
open Go.ChangeShapes Go.WideShapes Go.ChangeAt Go.RowKit Go.Proofs.YtcocgeodfbiehaaX
open Go.ChangeMaps (open_string shut_string)
set_option linter.unusedVariables false
theorem own : ownKnob Try.prog.godebug = none := by kernel_rfl
theorem laidOut : laidOutB Try.prog = true := by kernel_rfl
set_option maxRecDepth 100000 in
theorem lifted (os : Os) (started : os.Started) (H : Type) (enc : TypeId × Value → H) :
    ReturnsInHanded {} Try.checked os 5 .any (Rows.fnExactSplitCasesSpec.pre6 enc Try.prog Try.f5 Rows.fnExactSplitCasesRow.domain false) (Rows.fnExactSplitCasesSpec.post enc Try.prog Try.f5 false true false false) := by
  refine returnsInHanded_of_change_sized (C := Try.checked) own started (by kernel_rfl) Try.func5
    (ChangeSpec.witness6 (enc := enc) (C := Try.checked) false ⟨#[], #[.agg #[.int .i8 0, .int .i8 0, .bool false, .bool false], .agg #[.int .i8 0, .int .i8 0, .int .i8 0, .int .i8 0, .int .i8 0, .int .i8 0, .int .i8 0, .int .i8 0, .int .i8 0, .int .i8 0, .int .i8 0, .int .i8 0, .int .i8 0, .int .i8 0], .slice none 0 0], []⟩ 8 (by kernel_rfl) (by kernel_rfl) (by kernel_rfl) (by kernel_rfl)) ?_
  intro W base args ds gs before hval0 hW hcnd hsz0 _
  have hval : ∀ (j : Nat) t v, Try.f5.params[j]? = some t → args[j]? = some v → Value.okWide Try.prog W .any base t v := hval0
  have hW' := hW
  obtain ⟨p, q, hA0, hV, rfl, hfz, hnd⟩ := hW
  have hA : DataW.TrodAll enc Try.prog W 0 (fun _ => true) true Try.f5.params.toList args.toList ds p := hA0
  rw [Try.params5] at hA hval
  obtain ⟨v0, vs0, d0, ds0, p0, q0, hargs, rfl, rfl, h0, r0⟩ := trodAll_cons hA
  obtain ⟨v1, vs1, d1, ds1, p1, q1, rfl, rfl, rfl, h1, r1⟩ := trodAll_cons r0
  obtain ⟨v2, vs2, d2, ds2, p2, q2, rfl, rfl, rfl, h2, r2⟩ := trodAll_cons r1
  obtain ⟨rfl, rfl, rfl⟩ := trodAll_nil r2
  obtain rfl : args = #[v0, v1, v2] := by cases args; simp_all
  obtain ⟨rfl, rfl⟩ := trodVars_none hV
  have k0 := h0
  have lt0 : ∀ x ∈ p0, x.block < W.heap.size := by obtain ⟨m, hm⟩ := k0; exact DataW.trod_lt m _ _ _ hm
  obtain ⟨v0_0, v0_1, v0_2, v0_3, x0_0, x0_1, x0_2, x0_3, rfl, ⟨rfl, oo0_0⟩, ⟨rfl, oo0_1⟩, rfl, rfl⟩ := op_st4 Try.underlying42 (by kernel_rfl) ⟨rfl, rfl, by kernel_rfl⟩ ⟨rfl, rfl, by kernel_rfl⟩ ⟨rfl, rfl, by kernel_rfl⟩ ⟨rfl, rfl, by kernel_rfl⟩ (cell_int Try.underlying22) (cell_int Try.underlying22) (cell_bool Try.underlying4) (cell_bool Try.underlying4) (by obtain ⟨c, e, _⟩ := okWide_struct Try.underlying42 (hval 0 42 v0 rfl rfl); exact ⟨c, e⟩) h0
  have k1 := h1
  have lt1 : ∀ x ∈ p1, x.block < W.heap.size := by obtain ⟨m, hm⟩ := k1; exact DataW.trod_lt m _ _ _ hm
  obtain ⟨c1, rfl⟩ : ∃ c, v1 = Value.agg c := by
    have q := (hval 1 43 v1 rfl rfl)
    simp only [Value.okWide, Try.underlying43] at q
    obtain ⟨c, e, _⟩ := q
    exact ⟨c, e⟩
  obtain ⟨x1, ee1, oo1⟩ : ∃ a : Ar Int 14, c1.toList = encA (encI .i8) a ∧ ∀ y ∈ a.l, IntKind.min .i8 ≤ y ∧ y ≤ IntKind.max .i8 := by
    obtain ⟨fuel, hf⟩ := h1
    exact (opf_arr (m := 1) Try.underlying43 (by kernel_rfl) (by kernel_rfl) (opf_int Try.underlying22)) _ _ _ _ _ _ _ _ hf
  obtain rfl : c1 = (encA (encI .i8) x1).toArray := by rw [← ee1]
  have k2 := h2
  have lt2 : ∀ x ∈ p2, x.block < W.heap.size := by obtain ⟨m, hm⟩ := k2; exact DataW.trod_lt m _ _ _ hm
  obtain ⟨x2, rr2, ll2, oo2⟩ : ∃ xs : List (S_impl_Case), RdRow k_S_impl_Case W v2 xs ∧ xs.length ≤ 9223372036854775807 ∧ ∀ x ∈ xs, (IntKind.min .i8 ≤ x.f_Coin ∧ x.f_Coin ≤ IntKind.max .i8) ∧ (True) := op_row Try.underlying44 (by kernel_rfl) (by decide) (opf_st2 (ok := fun x : S_impl_Case => (IntKind.min .i8 ≤ x.f_Coin ∧ x.f_Coin ≤ IntKind.max .i8) ∧ (True)) (mk := S_impl_Case.mk) (c0 := Value.int .i8) (c1 := Value.bool) (fun _ _ => rfl) (fun _ _ h0 h1 => ⟨h0, h1⟩) Try.underlying86 (by kernel_rfl) ⟨rfl, rfl, by kernel_rfl⟩ ⟨rfl, rfl, by kernel_rfl⟩ (opf_int Try.underlying22) (opf_bool Try.underlying4)) (okWide_slice Try.underlying44 (hval 2 44 v2 rfl rfl)) h2
  clear hA0 hval0 hsz0
  obtain ⟨N, hN⟩ := laws_FnExactSplitCases.told (⟨x0_0, x0_1, x0_2, x0_3⟩ : S_laws_Task) oo0_0 oo0_1 x1 oo1 x2 oo2 ll2
  refine (laws_FnExactSplitCases.calls rr2 hN).mono fun e W' ⟨v, he, hv, hst⟩ => ?_
  subst he
  subst hv
  have bel := hst.below
  exact ⟨_, rfl, _, _, _, [], _, [], hW', trodAll_mk1 (shut_bool Try.underlying4 _), (trodAll_cons_mk (Below.trod laidOut (by kernel_rfl) (of_decide_eq_true (by kernel_rfl)) k0 bel lt0) (trodAll_cons_mk (Below.trod laidOut (by kernel_rfl) (of_decide_eq_true (by kernel_rfl)) k1 bel lt1) (trodAll_cons_mk (Below.trod laidOut (by kernel_rfl) (of_decide_eq_true (by kernel_rfl)) k2 bel lt2) trodAll_mk0))), rfl, bel.frame _, fun h => by cases h⟩
theorem over : Rows.fnExactSplitCasesRow.holds Try.pinned (OpenSpec.ofChange Rows.fnExactSplitCasesSpec) :=
  OpenClaim.holds_of_wide 5 Try.f5 rfl rfl rfl rfl rfl rfl rfl ⟨rfl, rfl, rfl, rfl, rfl⟩ rfl rfl rfl rfl rfl (by kernel_rfl) Try.func5 (by kernel_rfl)
    (of_decide_eq_true (by kernel_rfl)) (by unfold Func.isWrapper; first | (rw [if_pos (by decide +kernel)]; kernel_rfl) | (rw [if_neg (by decide +kernel)]; exact ⟨rfl, rfl⟩))
    (fun os started H enc _ => lifted os started H enc)
end Go.Proofs.Ytcocgeodfbiehaa.fnExactSplitCases
namespace Go.Proofs.Ytcocgeodfbiehaa
/-- The row, under a short name, for the claim. -/
theorem fnExactSplitCases_holds : Rows.FnExactSplitCasesSaid := fnExactSplitCases.over
end Go.Proofs.Ytcocgeodfbiehaa
