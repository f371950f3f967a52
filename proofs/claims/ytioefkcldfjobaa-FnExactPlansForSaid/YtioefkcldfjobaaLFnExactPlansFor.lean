/- The row of FnExactPlansFor: Go's code comes to what the plain function says (module YtioefkcldfjobaaXC8), and that is true on every input (YtioefkcldfjobaaYFnExactPlansFor). -/
import Derived.Test.YtioefkcldfjobaaRows
import Derived.Test.YtioefkcldfjobaaXC8
import Derived.Test.YtioefkcldfjobaaXArg
import Derived.Test.YtioefkcldfjobaaYFnExactPlansFor
import Derived.WalkKit
import Derived.ProofKit
namespace Go.Proofs.Ytioefkcldfjobaa.fnExactPlansFor
open Go.ChangeShapes Go.WideShapes Go.ChangeAt Go.RowKit Go.Proofs.YtioefkcldfjobaaX
open Go.ChangeMaps (open_string shut_string)
set_option linter.unusedVariables false
theorem own : ownKnob Try.prog.godebug = none := by kernel_rfl
theorem laidOut : laidOutB Try.prog = true := by kernel_rfl
set_option maxRecDepth 100000 in
theorem lifted (os : Os) (started : os.Started) (H : Type) (enc : TypeId × Value → H) :
    ReturnsInHanded {} Try.checked os 7 .any (Rows.fnExactPlansForSpec.pre6 enc Try.prog Try.f7 Rows.fnExactPlansForRow.domain false) (Rows.fnExactPlansForSpec.post enc Try.prog Try.f7 false true false false) := by
  refine returnsInHanded_of_change_sized (C := Try.checked) own started (by kernel_rfl) Try.func7
    (ChangeSpec.witness6 (enc := enc) (C := Try.checked) false ⟨#[], #[.slice none 0 0, .agg #[.int .i16 0, .int .i16 0, .int .i16 0, .int .i16 0], .int .i64 0, .int .i64 0], []⟩ 8 (by kernel_rfl) (by kernel_rfl) (by kernel_rfl) (by kernel_rfl)) ?_
  intro W base args ds gs before hval0 hW hcnd hsz0 _
  have hval : ∀ (j : Nat) t v, Try.f7.params[j]? = some t → args[j]? = some v → Value.okWide Try.prog W .any base t v := hval0
  have hW' := hW
  obtain ⟨p, q, hA0, hV, rfl, hfz, hnd⟩ := hW
  have hA : DataW.TrodAll enc Try.prog W 0 (fun _ => true) true Try.f7.params.toList args.toList ds p := hA0
  rw [Try.params7] at hA hval
  obtain ⟨v0, vs0, d0, ds0, p0, q0, hargs, rfl, rfl, h0, r0⟩ := trodAll_cons hA
  obtain ⟨v1, vs1, d1, ds1, p1, q1, rfl, rfl, rfl, h1, r1⟩ := trodAll_cons r0
  obtain ⟨v2, vs2, d2, ds2, p2, q2, rfl, rfl, rfl, h2, r2⟩ := trodAll_cons r1
  obtain ⟨v3, vs3, d3, ds3, p3, q3, rfl, rfl, rfl, h3, r3⟩ := trodAll_cons r2
  obtain ⟨rfl, rfl, rfl⟩ := trodAll_nil r3
  obtain rfl : args = #[v0, v1, v2, v3] := by cases args; simp_all
  obtain ⟨rfl, rfl⟩ := trodVars_none hV
  have k0 := h0
  have lt0 : ∀ x ∈ p0, x.block < W.heap.size := by obtain ⟨m, hm⟩ := k0; exact DataW.trod_lt m _ _ _ hm
  obtain ⟨x0, rr0, ll0, oo0⟩ : ∃ xs : List (Int), RdRow (K.int .i16) W v0 xs ∧ xs.length ≤ 9223372036854775807 ∧ ∀ x ∈ xs, IntKind.min .i16 ≤ x ∧ x ≤ IntKind.max .i16 := op_row Try.underlying22 (by kernel_rfl) (by decide) (opf_int Try.underlying23) (okWide_slice Try.underlying22 (hval 0 22 v0 rfl rfl)) h0
  have k1 := h1
  have lt1 : ∀ x ∈ p1, x.block < W.heap.size := by obtain ⟨m, hm⟩ := k1; exact DataW.trod_lt m _ _ _ hm
  obtain ⟨c1, rfl⟩ : ∃ c, v1 = Value.agg c := by
    have q := (hval 1 24 v1 rfl rfl)
    simp only [Value.okWide, Try.underlying24] at q
    obtain ⟨c, e, _⟩ := q
    exact ⟨c, e⟩
  obtain ⟨x1, ee1, oo1⟩ : ∃ a : Ar Int 4, c1.toList = encA (encI .i16) a ∧ ∀ y ∈ a.l, IntKind.min .i16 ≤ y ∧ y ≤ IntKind.max .i16 := by
    obtain ⟨fuel, hf⟩ := h1
    exact (opf_arr (m := 1) Try.underlying24 (by kernel_rfl) (by kernel_rfl) (opf_int Try.underlying23)) _ _ _ _ _ _ _ _ hf
  obtain rfl : c1 = (encA (encI .i16) x1).toArray := by rw [← ee1]
  have k2 := h2
  have lt2 : ∀ x ∈ p2, x.block < W.heap.size := by obtain ⟨m, hm⟩ := k2; exact DataW.trod_lt m _ _ _ hm
  obtain ⟨x2, rfl, _, _, ww2⟩ := open_int Try.underlying2 (hval 2 2 v2 rfl rfl) h2
  have oo2 : IntKind.min .i64 ≤ x2 ∧ x2 ≤ IntKind.max .i64 := by simpa [Lit.wf] using ww2
  have k3 := h3
  have lt3 : ∀ x ∈ p3, x.block < W.heap.size := by obtain ⟨m, hm⟩ := k3; exact DataW.trod_lt m _ _ _ hm
  obtain ⟨x3, rfl, _, _, ww3⟩ := open_int Try.underlying2 (hval 3 2 v3 rfl rfl) h3
  have oo3 : IntKind.min .i64 ≤ x3 ∧ x3 ≤ IntKind.max .i64 := by simpa [Lit.wf] using ww3
  clear hA0 hval0 hsz0
  obtain ⟨N, hN⟩ := laws_FnExactPlansFor.told x0 oo0 ll0 x1 oo1 x2 oo2 x3 oo3
  refine (laws_FnExactPlansFor.calls rr0 hN).mono fun e W' ⟨v, he, _, rfl, hv, hst⟩ => ?_
  subst he
  subst hv
  have bel := hst.below
  exact ⟨_, rfl, _, _, _, [], _, [], hW', trodAll_mk1 (shut_bool Try.underlying4 _), (trodAll_cons_mk (Below.trod laidOut (by kernel_rfl) (of_decide_eq_true (by kernel_rfl)) k0 bel lt0) (trodAll_cons_mk (Below.trod laidOut (by kernel_rfl) (of_decide_eq_true (by kernel_rfl)) k1 bel lt1) (trodAll_cons_mk (Below.trod laidOut (by kernel_rfl) (of_decide_eq_true (by kernel_rfl)) k2 bel lt2) (trodAll_cons_mk (Below.trod laidOut (by kernel_rfl) (of_decide_eq_true (by kernel_rfl)) k3 bel lt3) trodAll_mk0)))), rfl, bel.frame _, fun h => by cases h⟩
theorem over : Rows.fnExactPlansForRow.holds Try.pinned (OpenSpec.ofChange Rows.fnExactPlansForSpec) :=
  OpenClaim.holds_of_wide 7 Try.f7 rfl rfl rfl rfl rfl rfl rfl ⟨rfl, rfl, rfl, rfl, rfl⟩ rfl rfl rfl rfl rfl (by kernel_rfl) Try.func7 (by kernel_rfl)
    (of_decide_eq_true (by kernel_rfl)) (by unfold Func.isWrapper; first | (rw [if_pos (by decide +kernel)]; kernel_rfl) | (rw [if_neg (by decide +kernel)]; exact ⟨rfl, rfl⟩))
    (fun os started H enc _ => lifted os started H enc)
end Go.Proofs.Ytioefkcldfjobaa.fnExactPlansFor
namespace Go.Proofs.Ytioefkcldfjobaa
/-- The row, under a short name, for the claim. -/
theorem fnExactPlansFor_holds : Rows.FnExactPlansForSaid := fnExactPlansFor.over
end Go.Proofs.Ytioefkcldfjobaa
