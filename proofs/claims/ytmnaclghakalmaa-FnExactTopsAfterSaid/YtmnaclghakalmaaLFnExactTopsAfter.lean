/- The row of FnExactTopsAfter: Go's code comes to what the plain function says (module YtmnaclghakalmaaXC13), and that is true on every input (YtmnaclghakalmaaYFnExactTopsAfter). -/
import Derived.Test.YtmnaclghakalmaaRows
import Derived.Test.YtmnaclghakalmaaXC13
import Derived.Test.YtmnaclghakalmaaXArg
import Derived.Test.YtmnaclghakalmaaYFnExactTopsAfter
import Derived.WalkKit
import Derived.ProofKit
namespace Go.Proofs.Ytmnaclghakalmaa.fnExactTopsAfter
open Go.ChangeShapes Go.WideShapes Go.ChangeAt Go.RowKit Go.Proofs.YtmnaclghakalmaaX
open Go.ChangeMaps (open_string shut_string)
set_option linter.unusedVariables false
theorem own : ownKnob Try.prog.godebug = none := by kernel_rfl
theorem laidOut : laidOutB Try.prog = true := by kernel_rfl
set_option maxRecDepth 100000 in
theorem lifted (os : Os) (started : os.Started) (H : Type) (enc : TypeId × Value → H) :
    ReturnsInHanded {} Try.checked os 3 .any (Rows.fnExactTopsAfterSpec.pre6 enc Try.prog Try.f3 Rows.fnExactTopsAfterRow.domain false) (Rows.fnExactTopsAfterSpec.post enc Try.prog Try.f3 false true false false) := by
  refine returnsInHanded_of_change_sized (C := Try.checked) own started (by kernel_rfl) Try.func3
    (ChangeSpec.witness6 (enc := enc) (C := Try.checked) false ⟨#[], #[.slice none 0 0, .agg #[.int .i16 0, .int .i16 0, .int .i16 0, .int .i16 0], .int .i64 0], []⟩ 8 (by kernel_rfl) (by kernel_rfl) (by kernel_rfl) (by kernel_rfl)) ?_
  intro W base args ds gs before hval0 hW hcnd hsz0 _
  have hval : ∀ (j : Nat) t v, Try.f3.params[j]? = some t → args[j]? = some v → Value.okWide Try.prog W .any base t v := hval0
  have hW' := hW
  obtain ⟨p, q, hA0, hV, rfl, hfz, hnd⟩ := hW
  have hA : DataW.TrodAll enc Try.prog W 0 (fun _ => true) true Try.f3.params.toList args.toList ds p := hA0
  rw [Try.params3] at hA hval
  obtain ⟨v0, vs0, d0, ds0, p0, q0, hargs, rfl, rfl, h0, r0⟩ := trodAll_cons hA
  obtain ⟨v1, vs1, d1, ds1, p1, q1, rfl, rfl, rfl, h1, r1⟩ := trodAll_cons r0
  obtain ⟨v2, vs2, d2, ds2, p2, q2, rfl, rfl, rfl, h2, r2⟩ := trodAll_cons r1
  obtain ⟨rfl, rfl, rfl⟩ := trodAll_nil r2
  obtain rfl : args = #[v0, v1, v2] := by cases args; simp_all
  obtain ⟨rfl, rfl⟩ := trodVars_none hV
  have k0 := h0
  have lt0 : ∀ x ∈ p0, x.block < W.heap.size := by obtain ⟨m, hm⟩ := k0; exact DataW.trod_lt m _ _ _ hm
  obtain ⟨x0, rr0, ll0, oo0⟩ : ∃ xs : List (Int), RdRow (K.int .i16) W v0 xs ∧ xs.length ≤ 9223372036854775807 ∧ ∀ x ∈ xs, IntKind.min .i16 ≤ x ∧ x ≤ IntKind.max .i16 := op_row Try.underlying22 (by kernel_rfl) (by decide) (opf_int Try.underlying23) (okWide_slice Try.underlying22 (hval 0 22 v0 rfl rfl)) h0
  have k1 := h1
  have lt1 : ∀ x ∈ p1, x.block < W.heap.size := by obtain ⟨m, hm⟩ := k1; exact DataW.trod_lt m _ _ _ hm
  obtain ⟨c1, rfl⟩ : ∃ c, v1 = Value.agg c := by
    have q := (hval 1 24 v1 rfl rfl)
    simp only [Value.okWide, Try.underlying24] at q
    obtain ⟨c, e, _⟩ := q
    exact ⟨c, e⟩
  obtain ⟨x1, ee1, oo1⟩ : ∃ a : Ar Int 4, c1.toList = YtmnaclghakalmaaX.encA (YtmnaclghakalmaaX.encI .i16) a ∧ ∀ y ∈ a.l, IntKind.min .i16 ≤ y ∧ y ≤ IntKind.max .i16 := by
    obtain ⟨fuel, hf⟩ := h1
    exact (opf_arr (m := 1) Try.underlying24 (by kernel_rfl) (by kernel_rfl) (opf_int Try.underlying23)) _ _ _ _ _ _ _ _ hf
  obtain rfl : c1 = (YtmnaclghakalmaaX.encA (YtmnaclghakalmaaX.encI .i16) x1).toArray := by rw [← ee1]
  have k2 := h2
  have lt2 : ∀ x ∈ p2, x.block < W.heap.size := by obtain ⟨m, hm⟩ := k2; exact DataW.trod_lt m _ _ _ hm
  obtain ⟨x2, rfl, _, _, ww2⟩ := open_int Try.underlying2 (hval 2 2 v2 rfl rfl) h2
  have oo2 : IntKind.min .i64 ≤ x2 ∧ x2 ≤ IntKind.max .i64 := by simpa [Lit.wf] using ww2
  clear hA0 hval0 hsz0
  obtain ⟨N, hN⟩ := laws_FnExactTopsAfter.told x0 oo0 ll0 x1 oo1 x2 oo2
  refine (laws_FnExactTopsAfter.calls rr0 hN).mono fun e W' ⟨v, he, _, rfl, hv, hst⟩ => ?_
  subst he
  subst hv
  have bel := hst.below
  exact ⟨_, rfl, _, _, _, [], _, [], hW', trodAll_mk1 (shut_bool Try.underlying4 _), (trodAll_cons_mk (Below.trod laidOut (by kernel_rfl) (of_decide_eq_true (by kernel_rfl)) k0 bel lt0) (trodAll_cons_mk (Below.trod laidOut (by kernel_rfl) (of_decide_eq_true (by kernel_rfl)) k1 bel lt1) (trodAll_cons_mk (Below.trod laidOut (by kernel_rfl) (of_decide_eq_true (by kernel_rfl)) k2 bel lt2) trodAll_mk0))), rfl, bel.frame _, fun h => by cases h⟩
theorem over : Rows.fnExactTopsAfterRow.holds Try.pinned (OpenSpec.ofChange Rows.fnExactTopsAfterSpec) :=
  OpenClaim.holds_of_wide 3 Try.f3 rfl rfl rfl rfl rfl rfl rfl ⟨rfl, rfl, rfl, rfl, rfl⟩ rfl rfl rfl rfl rfl (by kernel_rfl) Try.func3 (by kernel_rfl)
    (of_decide_eq_true (by kernel_rfl)) (by unfold Func.isWrapper; first | (rw [if_pos (by decide +kernel)]; kernel_rfl) | (rw [if_neg (by decide +kernel)]; exact ⟨rfl, rfl⟩))
    (fun os started H enc _ => lifted os started H enc)
end Go.Proofs.Ytmnaclghakalmaa.fnExactTopsAfter
namespace Go.Proofs.Ytmnaclghakalmaa
/-- The row, under a short name, for the claim. -/
theorem fnExactTopsAfter_holds : Rows.FnExactTopsAfterSaid := fnExactTopsAfter.over
end Go.Proofs.Ytmnaclghakalmaa
