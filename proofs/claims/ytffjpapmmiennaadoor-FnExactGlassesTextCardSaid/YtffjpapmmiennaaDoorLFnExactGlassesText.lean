/- The row of FnExactGlassesText: Go's code comes to what the plain function says (module YtffjpapmmiennaaDoorXC7), and that is true on every input (YtffjpapmmiennaaDoorYFnExactGlassesText). -/
import Derived.Test.YtffjpapmmiennaaDoorRows
import Derived.Test.YtffjpapmmiennaaDoorXC7
import Derived.Test.YtffjpapmmiennaaDoorXArg
import Derived.Test.YtffjpapmmiennaaDoorYFnExactGlassesText
import Derived.WalkKit
import Derived.LaidMore
import Derived.OpenShut
import Derived.Stop.Joined
import Derived.SevenTiedAt
import Derived.Test.YtffjpapmmiennaaDoorCards
import Derived.Test.YtffjpapmmiennaaDoorTie
import Derived.ProofKit
namespace Go.Proofs.YtffjpapmmiennaaDoor.fnExactGlassesText
open Go.ChangeShapes Go.WideShapes Go.ChangeAt Go.RowKit Go.Proofs.YtffjpapmmiennaaDoorX
open Go.ChangeMaps (open_string shut_string)
set_option linter.unusedVariables false
theorem own : ownKnob Tryd.prog.godebug = none := by kernel_rfl
theorem laidOut : laidOutB Tryd.prog = true := by kernel_rfl
/-- The door's own heap meets the condition on the tables. -/
theorem door_met (os : Os) (args : Array Value) : laidMetH Tryd.prog Rows.fnExactGlassesTextRow.laid ((World.doorLaid Tryd.prog 400 os).forCall (fun _ _ => 0) ⟨#[], args, []⟩).memory :=
  laidMetH_of_parts3 (fuel := 8) (laidMet_of_run' 8 (by kernel_rfl) (by kernel_rfl)) (by kernel_rfl) (by kernel_rfl)
set_option maxRecDepth 100000 in
theorem lifted (os : Os) (started : os.Started) (H : Type) (enc : TypeId × Value → H) :
    ReturnsInHanded {} Tryd.checked os 4 .any (fun w args => (Rows.fnExactGlassesTextSpec.pre enc Tryd.prog Tryd.f4 [] false w args ∧ laidMetH Tryd.prog Rows.fnExactGlassesTextRow.laid w) ∧ sizedMet enc Tryd.prog Tryd.f4 (OpenSpec.ofChange Rows.fnExactGlassesTextSpec) false w args)
      (Rows.fnExactGlassesTextSpec.post enc Tryd.prog Tryd.f4 false true false false) := by
  refine returnsInHanded_of_change_and (C := Tryd.checked) (X := fun w _ => laidMetH Tryd.prog Rows.fnExactGlassesTextRow.laid w) (fun _ _ _ hh h => h.of_heap hh) own started (by kernel_rfl) Tryd.func4
    (ChangeSpec.witness_shaped (enc := enc) (C := Tryd.checked) (os := os) (X := fun w _ => laidMetH Tryd.prog Rows.fnExactGlassesTextRow.laid w) false (World.doorLaid Tryd.prog 400 os) #[.slice none 0 0, .agg #[.int .i16 0, .int .i16 0, .int .i16 0, .int .i16 0]] 8 rfl (World.shaped_of_RefB (by kernel_rfl) (by kernel_rfl)) (by kernel_rfl) (by kernel_rfl) (by kernel_rfl) (door_met os _)) ?_
  intro W base args ds gs before hval0 hW _ _ hL _
  have hval : ∀ (j : Nat) t v, Tryd.f4.params[j]? = some t → args[j]? = some v → Value.okWide Tryd.prog W .any base t v := hval0
  have hW' := hW
  obtain ⟨p, q, hA0, hV, rfl, hfz, hnd⟩ := hW
  have hA : DataW.TrodAll enc Tryd.prog W 0 (fun _ => true) true Tryd.f4.params.toList args.toList ds p := hA0
  rw [Tryd.params4] at hA hval
  obtain ⟨v0, vs0, d0, ds0, p0, q0, hargs, rfl, rfl, h0, r0⟩ := trodAll_cons hA
  obtain ⟨v1, vs1, d1, ds1, p1, q1, rfl, rfl, rfl, h1, r1⟩ := trodAll_cons r0
  obtain ⟨rfl, rfl, rfl⟩ := trodAll_nil r1
  obtain rfl : args = #[v0, v1] := by cases args; simp_all
  obtain ⟨rfl, rfl⟩ := trodVars_none hV
  have k0 := h0
  have lt0 : ∀ x ∈ p0, x.block < W.heap.size := by obtain ⟨m, hm⟩ := k0; exact DataW.trod_lt m _ _ _ hm
  obtain ⟨x0, rr0, ll0, oo0⟩ : ∃ xs : List (Int), RdRow (K.int .i16) W v0 xs ∧ xs.length ≤ 9223372036854775807 ∧ ∀ x ∈ xs, IntKind.min .i16 ≤ x ∧ x ≤ IntKind.max .i16 := op_row Tryd.underlying22 (by kernel_rfl) (by decide) (opf_int Tryd.underlying28) (okWide_slice Tryd.underlying22 (hval 0 22 v0 rfl rfl)) h0
  have k1 := h1
  have lt1 : ∀ x ∈ p1, x.block < W.heap.size := by obtain ⟨m, hm⟩ := k1; exact DataW.trod_lt m _ _ _ hm
  obtain ⟨c1, rfl⟩ : ∃ c, v1 = Value.agg c := by
    have q := (hval 1 29 v1 rfl rfl)
    simp only [Value.okWide, Tryd.underlying29] at q
    obtain ⟨c, e, _⟩ := q
    exact ⟨c, e⟩
  obtain ⟨x1, ee1, oo1⟩ : ∃ a : Ar Int 4, c1.toList = encA (encI .i16) a ∧ ∀ y ∈ a.l, IntKind.min .i16 ≤ y ∧ y ≤ IntKind.max .i16 := by
    obtain ⟨fuel, hf⟩ := h1
    exact (opf_arr (m := 1) Tryd.underlying29 (by kernel_rfl) (by kernel_rfl) (opf_int Tryd.underlying28)) _ _ _ _ _ _ _ _ hf
  obtain rfl : c1 = (encA (encI .i16) x1).toArray := by rw [← ee1]
  clear hA0 hval0
  obtain ⟨N, hN⟩ := laws_FnExactGlassesText.told x0 oo0 ll0 x1 oo1
  refine (laws_FnExactGlassesText.calls rr0 hN).mono fun e W' ⟨v, he, hv, hst⟩ => ?_
  subst he
  subst hv
  have bel := hst.below
  exact ⟨_, rfl, _, _, _, [], _, [], hW', trodAll_mk1 (shut_bool Tryd.underlying4 _), (trodAll_cons_mk (Below.trod laidOut (by kernel_rfl) (of_decide_eq_true (by kernel_rfl)) k0 bel lt0) (trodAll_cons_mk (Below.trod laidOut (by kernel_rfl) (of_decide_eq_true (by kernel_rfl)) k1 bel lt1) trodAll_mk0)), rfl, bel.frame _, fun h => by cases h⟩
/-- The law's row. -/
theorem over : Rows.fnExactGlassesTextRow.holds Tryd.pinned (OpenSpec.ofChange Rows.fnExactGlassesTextSpec) :=
  OpenClaim.holds_of_wide 4 Tryd.f4 rfl rfl rfl rfl rfl rfl rfl ⟨rfl, rfl, rfl, rfl, rfl⟩ rfl rfl rfl rfl rfl (by kernel_rfl) Tryd.func4 (by kernel_rfl)
    (of_decide_eq_true (by kernel_rfl)) (by unfold Func.isWrapper; first | (rw [if_pos (by decide +kernel)]; kernel_rfl) | (rw [if_neg (by decide +kernel)]; exact ⟨rfl, rfl⟩))
    (fun os started H enc _ => lifted os started H enc)
/-- The tied card. -/
theorem card : Claim7.holds Tryd.pinned (.plain (OpenSpec.ofChange Rows.fnExactGlassesTextSpec)) Rows.fnExactGlassesTextCard :=
  Claim7.holds_tied_plain_at .later [] [.data, .data, .data] true (true, "0f80075e4a96d3ac5e390a9eef072bf749fbdc6d5326b460f6610e44ca956887") false
    over (fun _ h => by cases h) (by kernel_rfl) (fun _ h => by cases h) fnExactGlassesText_row_tie rfl ⟨rfl, rfl⟩ (by kernel_rfl) rfl
    (fun f fn hf hfn => by
      obtain rfl : f = 4 := Option.some.inj ((show Tryd.prog.funcNamed "loop.example/g01281/laws.FnExactGlassesText" = some 4 by kernel_rfl).symm.trans hf) |>.symm
      obtain rfl : fn = Tryd.f4 := (Option.some.inj (Tryd.func4.symm.trans hfn)).symm
      exact ⟨by kernel_rfl, fun j t ht => by
        rw [Tryd.params4] at ht
        have hm : t ∈ [22, 29] := by simpa using Array.mem_of_getElem? ht
        have hall : ([22, 29].all fun u => !Tryd.prog.wantsStandIn u) = true := by kernel_rfl
        exact (show Tryd.prog.wantsStandIn t = false by simpa using List.all_eq_true.1 hall t hm)⟩)
    (by kernel_rfl)
end Go.Proofs.YtffjpapmmiennaaDoor.fnExactGlassesText
namespace Go.Proofs.YtffjpapmmiennaaDoor
/-- The card, under a short name, for the claim. -/
theorem fnExactGlassesText_holds : Rows.FnExactGlassesTextCardSaid := fnExactGlassesText.card
end Go.Proofs.YtffjpapmmiennaaDoor
