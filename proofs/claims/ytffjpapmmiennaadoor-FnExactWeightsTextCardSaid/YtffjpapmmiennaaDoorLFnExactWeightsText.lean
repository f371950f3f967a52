/- The row of FnExactWeightsText: Go's code comes to what the plain function says (module YtffjpapmmiennaaDoorXC4), and that is true on every input (YtffjpapmmiennaaDoorYFnExactWeightsText). -/
import Derived.Test.YtffjpapmmiennaaDoorRows
import Derived.Test.YtffjpapmmiennaaDoorXC4
import Derived.Test.YtffjpapmmiennaaDoorXArg
import Derived.Test.YtffjpapmmiennaaDoorYFnExactWeightsText
import Derived.WalkKit
import Derived.LaidMore
import Derived.OpenShut
import Derived.Stop.Joined
import Derived.SevenTiedAt
import Derived.Test.YtffjpapmmiennaaDoorCards
import Derived.Test.YtffjpapmmiennaaDoorTie
import Derived.ProofKit
namespace Go.Proofs.YtffjpapmmiennaaDoor.fnExactWeightsText
open Go.ChangeShapes Go.WideShapes Go.ChangeAt Go.RowKit Go.Proofs.YtffjpapmmiennaaDoorX
open Go.ChangeMaps (open_string shut_string)
set_option linter.unusedVariables false
theorem own : ownKnob Tryd.prog.godebug = none := by kernel_rfl
theorem laidOut : laidOutB Tryd.prog = true := by kernel_rfl
/-- The door's own heap meets the condition on the tables. -/
theorem door_met (os : Os) (args : Array Value) : laidMetH Tryd.prog Rows.fnExactWeightsTextRow.laid ((World.doorLaid Tryd.prog 400 os).forCall (fun _ _ => 0) ⟨#[], args, []⟩).memory :=
  laidMetH_of_parts3 (fuel := 8) (laidMet_of_run' 8 (by kernel_rfl) (by kernel_rfl)) (by kernel_rfl) (by kernel_rfl)
/-- The table of powers of ten, as the condition tells it. -/
theorem tab_of {W : World} (h : laidMetH Tryd.prog Rows.fnExactWeightsTextRow.laid W) : Lib.TabIs Tryd.prog W "internal/strconv.uint64pow10" .u64 Lib.pow10Tab := by
  rw [MakeChecks.laidMetH_plain _ _ _ (by kernel_rfl)] at h
  obtain ⟨ps, h, _⟩ := h
  exact tab_of_laid (g := 0) (t := 111) (e := 91) (n := 20) (by kernel_rfl) (by kernel_rfl) Tryd.underlying111 Tryd.underlying91 (by kernel_rfl) (by kernel_rfl) _ ps h (List.mem_of_getElem? (i := 2) rfl)
set_option maxRecDepth 100000 in
theorem lifted (os : Os) (started : os.Started) (H : Type) (enc : TypeId × Value → H) :
    ReturnsInHanded {} Tryd.checked os 3 .any (fun w args => (Rows.fnExactWeightsTextSpec.pre enc Tryd.prog Tryd.f3 [] false w args ∧ laidMetH Tryd.prog Rows.fnExactWeightsTextRow.laid w) ∧ sizedMet enc Tryd.prog Tryd.f3 (OpenSpec.ofChange Rows.fnExactWeightsTextSpec) false w args)
      (Rows.fnExactWeightsTextSpec.post enc Tryd.prog Tryd.f3 false true false false) := by
  refine returnsInHanded_of_change_and (C := Tryd.checked) (X := fun w _ => laidMetH Tryd.prog Rows.fnExactWeightsTextRow.laid w) (fun _ _ _ hh h => h.of_heap hh) own started (by kernel_rfl) Tryd.func3
    (ChangeSpec.witness_shaped (enc := enc) (C := Tryd.checked) (os := os) (X := fun w _ => laidMetH Tryd.prog Rows.fnExactWeightsTextRow.laid w) false (World.doorLaid Tryd.prog 400 os) #[.slice none 0 0] 8 rfl (World.shaped_of_RefB (by kernel_rfl) (by kernel_rfl)) (by kernel_rfl) (by kernel_rfl) (by kernel_rfl) (door_met os _)) ?_
  intro W base args ds gs before hval0 hW _ _ hL _
  have hval : ∀ (j : Nat) t v, Tryd.f3.params[j]? = some t → args[j]? = some v → Value.okWide Tryd.prog W .any base t v := hval0
  have hW' := hW
  obtain ⟨p, q, hA0, hV, rfl, hfz, hnd⟩ := hW
  have hA : DataW.TrodAll enc Tryd.prog W 0 (fun _ => true) true Tryd.f3.params.toList args.toList ds p := hA0
  rw [Tryd.params3] at hA hval
  obtain ⟨v0, vs0, d0, ds0, p0, q0, hargs, rfl, rfl, h0, r0⟩ := trodAll_cons hA
  obtain ⟨rfl, rfl, rfl⟩ := trodAll_nil r0
  obtain rfl : args = #[v0] := by cases args; simp_all
  obtain ⟨rfl, rfl⟩ := trodVars_none hV
  have k0 := h0
  have lt0 : ∀ x ∈ p0, x.block < W.heap.size := by obtain ⟨m, hm⟩ := k0; exact DataW.trod_lt m _ _ _ hm
  obtain ⟨x0, rr0, ll0, oo0⟩ : ∃ xs : List (Int), RdRow (K.int .i16) W v0 xs ∧ xs.length ≤ 9223372036854775807 ∧ ∀ x ∈ xs, IntKind.min .i16 ≤ x ∧ x ≤ IntKind.max .i16 := op_row Tryd.underlying22 (by kernel_rfl) (by decide) (opf_int Tryd.underlying28) (okWide_slice Tryd.underlying22 (hval 0 22 v0 rfl rfl)) h0
  clear hA0 hval0
  obtain ⟨N, hN⟩ := laws_FnExactWeightsText.told x0 oo0 ll0
  refine (laws_FnExactWeightsText.calls (tab_of hL) rr0 hN).mono fun e W' ⟨v, he, hv, hst⟩ => ?_
  subst he
  subst hv
  have bel := hst.below
  exact ⟨_, rfl, _, _, _, [], _, [], hW', trodAll_mk1 (shut_bool Tryd.underlying4 _), (trodAll_cons_mk (Below.trod laidOut (by kernel_rfl) (of_decide_eq_true (by kernel_rfl)) k0 bel lt0) trodAll_mk0), rfl, bel.frame _, fun h => by cases h⟩
/-- The law's row. -/
theorem over : Rows.fnExactWeightsTextRow.holds Tryd.pinned (OpenSpec.ofChange Rows.fnExactWeightsTextSpec) :=
  OpenClaim.holds_of_wide 3 Tryd.f3 rfl rfl rfl rfl rfl rfl rfl ⟨rfl, rfl, rfl, rfl, rfl⟩ rfl rfl rfl rfl rfl (by kernel_rfl) Tryd.func3 (by kernel_rfl)
    (of_decide_eq_true (by kernel_rfl)) (by unfold Func.isWrapper; first | (rw [if_pos (by decide +kernel)]; kernel_rfl) | (rw [if_neg (by decide +kernel)]; exact ⟨rfl, rfl⟩))
    (fun os started H enc _ => lifted os started H enc)
/-- The tied card. -/
theorem card : Claim7.holds Tryd.pinned (.plain (OpenSpec.ofChange Rows.fnExactWeightsTextSpec)) Rows.fnExactWeightsTextCard :=
  Claim7.holds_tied_plain_at .later [] [.data, .data, .data] true (true, "0f80075e4a96d3ac5e390a9eef072bf749fbdc6d5326b460f6610e44ca956887") false
    over (fun _ h => by cases h) (by kernel_rfl) (fun _ h => by cases h) fnExactWeightsText_row_tie rfl ⟨rfl, rfl⟩ (by kernel_rfl) rfl
    (fun f fn hf hfn => by
      obtain rfl : f = 3 := Option.some.inj ((show Tryd.prog.funcNamed "loop.example/g01281/laws.FnExactWeightsText" = some 3 by kernel_rfl).symm.trans hf) |>.symm
      obtain rfl : fn = Tryd.f3 := (Option.some.inj (Tryd.func3.symm.trans hfn)).symm
      exact ⟨by kernel_rfl, fun j t ht => by
        rw [Tryd.params3] at ht
        have hm : t ∈ [22] := by simpa using Array.mem_of_getElem? ht
        have hall : ([22].all fun u => !Tryd.prog.wantsStandIn u) = true := by kernel_rfl
        exact (show Tryd.prog.wantsStandIn t = false by simpa using List.all_eq_true.1 hall t hm)⟩)
    (by kernel_rfl)
end Go.Proofs.YtffjpapmmiennaaDoor.fnExactWeightsText
namespace Go.Proofs.YtffjpapmmiennaaDoor
/-- The card, under a short name, for the claim. -/
theorem fnExactWeightsText_holds : Rows.FnExactWeightsTextCardSaid := fnExactWeightsText.card
end Go.Proofs.YtffjpapmmiennaaDoor
