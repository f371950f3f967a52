/- The row of FnExactPlayGame: Go's code comes to what the plain function says (module YtpbkenbmjgchkaaXC17), and that is true on every input (YtpbkenbmjgchkaaYFnExactPlayGame). -/
import Derived.Test.YtpbkenbmjgchkaaRows
import Derived.Test.YtpbkenbmjgchkaaXC17
import Derived.Test.YtpbkenbmjgchkaaXArg
import Derived.Test.YtpbkenbmjgchkaaYFnExactPlayGame
import Derived.WalkKit
import Derived.ProofKit
namespace Go.Proofs.Ytpbkenbmjgchkaa.fnExactPlayGame
open Go.ChangeShapes Go.WideShapes Go.ChangeAt Go.RowKit Go.Proofs.YtpbkenbmjgchkaaX
open Go.ChangeMaps (open_string shut_string)
set_option linter.unusedVariables false
theorem own : ownKnob Try.prog.godebug = none := by kernel_rfl
theorem laidOut : laidOutB Try.prog = true := by kernel_rfl
set_option maxRecDepth 100000 in
theorem lifted (os : Os) (started : os.Started) (H : Type) (enc : TypeId × Value → H) :
    ReturnsInHanded {} Try.checked os 6 .any (Rows.fnExactPlayGameSpec.pre6 enc Try.prog Try.f6 Rows.fnExactPlayGameRow.domain false) (Rows.fnExactPlayGameSpec.post enc Try.prog Try.f6 false true false false) := by
  refine returnsInHanded_of_change_sized (C := Try.checked) own started (by kernel_rfl) Try.func6
    (ChangeSpec.witness6 (enc := enc) (C := Try.checked) false ⟨#[], #[.int .i64 0, .int .i64 0, .int .i64 0, .slice none 0 0], []⟩ 8 (by kernel_rfl) (by kernel_rfl) (by kernel_rfl) (by kernel_rfl)) ?_
  intro W base args ds gs before hval0 hW hcnd hsz0 _
  have hval : ∀ (j : Nat) t v, Try.f6.params[j]? = some t → args[j]? = some v → Value.okWide Try.prog W .any base t v := hval0
  have hW' := hW
  obtain ⟨p, q, hA0, hV, rfl, hfz, hnd⟩ := hW
  have hA : DataW.TrodAll enc Try.prog W 0 (fun _ => true) true Try.f6.params.toList args.toList ds p := hA0
  rw [Try.params6] at hA hval
  obtain ⟨v0, vs0, d0, ds0, p0, q0, hargs, rfl, rfl, h0, r0⟩ := trodAll_cons hA
  obtain ⟨v1, vs1, d1, ds1, p1, q1, rfl, rfl, rfl, h1, r1⟩ := trodAll_cons r0
  obtain ⟨v2, vs2, d2, ds2, p2, q2, rfl, rfl, rfl, h2, r2⟩ := trodAll_cons r1
  obtain ⟨v3, vs3, d3, ds3, p3, q3, rfl, rfl, rfl, h3, r3⟩ := trodAll_cons r2
  obtain ⟨rfl, rfl, rfl⟩ := trodAll_nil r3
  obtain rfl : args = #[v0, v1, v2, v3] := by cases args; simp_all
  obtain ⟨rfl, rfl⟩ := trodVars_none hV
  have k0 := h0
  have lt0 : ∀ x ∈ p0, x.block < W.heap.size := by obtain ⟨m, hm⟩ := k0; exact DataW.trod_lt m _ _ _ hm
  obtain ⟨x0, rfl, _, _, ww0⟩ := open_int Try.underlying2 (hval 0 2 v0 rfl rfl) h0
  have oo0 : IntKind.min .i64 ≤ x0 ∧ x0 ≤ IntKind.max .i64 := by simpa [Lit.wf] using ww0
  have k1 := h1
  have lt1 : ∀ x ∈ p1, x.block < W.heap.size := by obtain ⟨m, hm⟩ := k1; exact DataW.trod_lt m _ _ _ hm
  obtain ⟨x1, rfl, _, _, ww1⟩ := open_int Try.underlying2 (hval 1 2 v1 rfl rfl) h1
  have oo1 : IntKind.min .i64 ≤ x1 ∧ x1 ≤ IntKind.max .i64 := by simpa [Lit.wf] using ww1
  have k2 := h2
  have lt2 : ∀ x ∈ p2, x.block < W.heap.size := by obtain ⟨m, hm⟩ := k2; exact DataW.trod_lt m _ _ _ hm
  obtain ⟨x2, rfl, _, _, ww2⟩ := open_int Try.underlying2 (hval 2 2 v2 rfl rfl) h2
  have oo2 : IntKind.min .i64 ≤ x2 ∧ x2 ≤ IntKind.max .i64 := by simpa [Lit.wf] using ww2
  have k3 := h3
  have lt3 : ∀ x ∈ p3, x.block < W.heap.size := by obtain ⟨m, hm⟩ := k3; exact DataW.trod_lt m _ _ _ hm
  obtain ⟨x3, rr3, ll3, oo3⟩ : ∃ xs : List (Bool), RdRow K.bool W v3 xs ∧ xs.length ≤ 9223372036854775807 ∧ ∀ x ∈ xs, True := op_row Try.underlying44 (by kernel_rfl) (by decide) (opf_bool Try.underlying4) (okWide_slice Try.underlying44 (hval 3 44 v3 rfl rfl)) h3
  clear hA0 hval0 hsz0
  obtain ⟨N, hN⟩ := laws_FnExactPlayGame.told x0 oo0 x1 oo1 x2 oo2 x3 oo3 ll3
  refine (laws_FnExactPlayGame.calls rr3 hN).mono fun e W' ⟨v, he, hv, hst⟩ => ?_
  subst he
  subst hv
  have bel := hst.below
  exact ⟨_, rfl, _, _, _, [], _, [], hW', trodAll_mk1 (shut_bool Try.underlying4 _), (trodAll_cons_mk (Below.trod laidOut (by kernel_rfl) (of_decide_eq_true (by kernel_rfl)) k0 bel lt0) (trodAll_cons_mk (Below.trod laidOut (by kernel_rfl) (of_decide_eq_true (by kernel_rfl)) k1 bel lt1) (trodAll_cons_mk (Below.trod laidOut (by kernel_rfl) (of_decide_eq_true (by kernel_rfl)) k2 bel lt2) (trodAll_cons_mk (Below.trod laidOut (by kernel_rfl) (of_decide_eq_true (by kernel_rfl)) k3 bel lt3) trodAll_mk0)))), rfl, bel.frame _, fun h => by cases h⟩
theorem over : Rows.fnExactPlayGameRow.holds Try.pinned (OpenSpec.ofChange Rows.fnExactPlayGameSpec) :=
  OpenClaim.holds_of_wide 6 Try.f6 rfl rfl rfl rfl rfl rfl rfl ⟨rfl, rfl, rfl, rfl, rfl⟩ rfl rfl rfl rfl rfl (by kernel_rfl) Try.func6 (by kernel_rfl)
    (of_decide_eq_true (by kernel_rfl)) (by unfold Func.isWrapper; first | (rw [if_pos (by decide +kernel)]; kernel_rfl) | (rw [if_neg (by decide +kernel)]; exact ⟨rfl, rfl⟩))
    (fun os started H enc _ => lifted os started H enc)
end Go.Proofs.Ytpbkenbmjgchkaa.fnExactPlayGame
namespace Go.Proofs.Ytpbkenbmjgchkaa
/-- The row, under a short name, for the claim. -/
theorem fnExactPlayGame_holds : Rows.FnExactPlayGameSaid := fnExactPlayGame.over
end Go.Proofs.Ytpbkenbmjgchkaa
