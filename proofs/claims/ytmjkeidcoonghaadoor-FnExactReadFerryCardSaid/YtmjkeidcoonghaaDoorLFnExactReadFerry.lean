/- The row of FnExactReadFerry: Go's code comes to what the plain function says (module YtmjkeidcoonghaaDoorXC3), and that is true on every input (YtmjkeidcoonghaaDoorYFnExactReadFerry). -/
import Derived.Test.YtmjkeidcoonghaaDoorRows
import Derived.Test.YtmjkeidcoonghaaDoorXC3
import Derived.Test.YtmjkeidcoonghaaDoorXArg
import Derived.Test.YtmjkeidcoonghaaDoorYFnExactReadFerry
import Derived.WalkKit
import Derived.LaidMore
import Derived.Lay
import Derived.OpenShut
import Derived.Stop.Joined
import Derived.SevenTiedAt
import Derived.Test.YtmjkeidcoonghaaDoorXShaped
import Derived.Test.YtmjkeidcoonghaaDoorCards
import Derived.Test.YtmjkeidcoonghaaDoorTie
import Derived.ProofKit
namespace Go.Proofs.YtmjkeidcoonghaaDoor.fnExactReadFerry
open Go.ChangeShapes Go.WideShapes Go.ChangeAt Go.RowKit Go.Proofs.YtmjkeidcoonghaaDoorX
open Go.ChangeMaps (open_string shut_string)
set_option linter.unusedVariables false
theorem own : ownKnob Tryd.prog.godebug = none := by kernel_rfl
theorem laidOut : laidOutB Tryd.prog = true := by kernel_rfl
/-- The table of powers of ten, as the condition tells it. -/
theorem tab_of {W : World} (h : laidMetH Tryd.prog Rows.fnExactReadFerryRow.laid W) : Lib.TabIs Tryd.prog W "internal/strconv.uint64pow10" .u64 Lib.pow10Tab := by
  rw [MakeChecks.laidMetH_plain _ _ _ (by kernel_rfl)] at h
  obtain ⟨ps, h, _⟩ := h
  exact tab_of_laid (g := 0) (t := 174) (e := 69) (n := 20) (by kernel_rfl) (by kernel_rfl) Tryd.underlying174 Tryd.underlying69 (by kernel_rfl) (by kernel_rfl) _ ps h (List.mem_of_getElem? (i := 2) rfl)
theorem max_of {W : World} (h : W.ShapedOpen Tryd.prog) : CellI W 1 :=
  Go.Proofs.cell_of_shapedOpen_int (zero := #[.int .i64 0]) (t := 3) h (of_decide_eq_true (by kernel_rfl)) (by kernel_rfl) rfl (by kernel_rfl) (by kernel_rfl) Tryd.underlying3
theorem syn_of {W : World} (h : laidMetH Tryd.prog Rows.fnExactReadFerryRow.laid W) : CellE W 2 := by
  rw [MakeChecks.laidMetH_plain _ _ _ (by kernel_rfl)] at h
  obtain ⟨ps, h, _⟩ := h
  exact cellE_of_laid (g := 2) (t := 82) (d := Rows.laid_strconv_ErrSyntax) (name := "strconv.ErrSyntax") (by kernel_rfl) (by kernel_rfl) Tryd.underlying82 _ ps h (List.mem_of_getElem? (i := 5) rfl)
theorem rng_of {W : World} (h : laidMetH Tryd.prog Rows.fnExactReadFerryRow.laid W) : CellE W 3 := by
  rw [MakeChecks.laidMetH_plain _ _ _ (by kernel_rfl)] at h
  obtain ⟨ps, h, _⟩ := h
  exact cellE_of_laid (g := 3) (t := 82) (d := Rows.laid_strconv_ErrRange) (name := "strconv.ErrRange") (by kernel_rfl) (by kernel_rfl) Tryd.underlying82 _ ps h (List.mem_of_getElem? (i := 4) rfl)
set_option maxRecDepth 100000 in
theorem lifted (os : Os) (started : os.Started) (H : Type) (enc : TypeId × Value → H) :
    ReturnsInHanded {} Tryd.checked os 7 .any (fun w args => (Rows.fnExactReadFerrySpec.pre enc Tryd.prog Tryd.f7 [] false w args ∧ laidMetH Tryd.prog Rows.fnExactReadFerryRow.laid w) ∧ sizedMet enc Tryd.prog Tryd.f7 (OpenSpec.ofChange Rows.fnExactReadFerrySpec) false w args)
      (Rows.fnExactReadFerrySpec.post enc Tryd.prog Tryd.f7 false true false false) := by
  refine row_and_shaped (C := Tryd.checked) (X := fun w => laidMetH Tryd.prog Rows.fnExactReadFerryRow.laid w) (fun _ _ hh h => h.of_heap hh) own started (by kernel_rfl) Tryd.func7
    (ChangeSpec.witness_shaped (enc := enc) (C := Tryd.checked) (os := os) (X := fun w _ => laidMetH Tryd.prog Rows.fnExactReadFerryRow.laid w) false (World.laidAll Tryd.prog os Rows.fnExactReadFerryRow.laid) #[.string ⟨#[]⟩] 8 (World.laidAll_os _ _ _) (World.shaped_of_ZipB (by kernel_rfl) (by kernel_rfl)) (by kernel_rfl) (by kernel_rfl) (by kernel_rfl) (by rw [MakeChecks.laidMetH_plain _ _ _ (by kernel_rfl)]; exact laidMet_laidAll _ (by kernel_rfl) (by kernel_rfl))) ?_
  intro W base args ds gs before hval0 hW hL hS
  have hval : ∀ (j : Nat) t v, Tryd.f7.params[j]? = some t → args[j]? = some v → Value.okWide Tryd.prog W .any base t v := hval0
  have hW' := hW
  obtain ⟨p, q, hA0, hV, rfl, hfz, hnd⟩ := hW
  have hA : DataW.TrodAll enc Tryd.prog W 0 (fun _ => true) true Tryd.f7.params.toList args.toList ds p := hA0
  rw [Tryd.params7] at hA hval
  obtain ⟨v0, vs0, d0, ds0, p0, q0, hargs, rfl, rfl, h0, r0⟩ := trodAll_cons hA
  obtain ⟨rfl, rfl, rfl⟩ := trodAll_nil r0
  obtain rfl : args = #[v0] := by cases args; simp_all
  obtain ⟨rfl, rfl⟩ := trodVars_none hV
  have k0 := h0
  have lt0 : ∀ x ∈ p0, x.block < W.heap.size := by obtain ⟨m, hm⟩ := k0; exact DataW.trod_lt m _ _ _ hm
  obtain ⟨x0, rfl⟩ := okWide_string Tryd.underlying9 (hval 0 9 v0 rfl rfl)
  clear hA0 hval0
  obtain ⟨N, hN⟩ := laws_FnExactReadFerry.told x0
  refine (laws_FnExactReadFerry.calls (tab_of hL) (max_of hS) (syn_of hL) (rng_of hL)  hN).mono fun e W' ⟨v, he, hv, hst⟩ => ?_
  subst he
  subst hv
  have bel := hst.below
  exact ⟨_, rfl, _, _, _, [], _, [], hW', trodAll_mk1 (shut_bool Tryd.underlying4 _), (trodAll_cons_mk (Below.trod laidOut (by kernel_rfl) (of_decide_eq_true (by kernel_rfl)) k0 bel lt0) trodAll_mk0), rfl, bel.frame _, fun h => by cases h⟩
/-- The law's row. -/
theorem over : Rows.fnExactReadFerryRow.holds Tryd.pinned (OpenSpec.ofChange Rows.fnExactReadFerrySpec) :=
  OpenClaim.holds_of_wide 7 Tryd.f7 rfl rfl rfl rfl rfl rfl rfl ⟨rfl, rfl, rfl, rfl, rfl⟩ rfl rfl rfl rfl rfl (by kernel_rfl) Tryd.func7 (by kernel_rfl)
    (of_decide_eq_true (by kernel_rfl)) (by unfold Func.isWrapper; first | (rw [if_pos (by decide +kernel)]; kernel_rfl) | (rw [if_neg (by decide +kernel)]; exact ⟨rfl, rfl⟩))
    (fun os started H enc _ => lifted os started H enc)
/-- The tied card. -/
theorem card : Claim7.holds Tryd.pinned (.plain (OpenSpec.ofChange Rows.fnExactReadFerrySpec)) Rows.fnExactReadFerryCard :=
  Claim7.holds_tied_plain_at .later [] [.data, .data, .data, .data, .sentinel, .sentinel, .pinned] true (true, "93c7be9f69d39aa319c50c7fe8b88ccbbfb126c2914bead725a8464900f04084") true
    over (fun _ h => by cases h) (by kernel_rfl) (fun _ h => by cases h) fnExactReadFerry_row_tie rfl ⟨rfl, rfl⟩ (by kernel_rfl) rfl
    (fun f fn hf hfn => by
      obtain rfl : f = 7 := Option.some.inj ((show Tryd.prog.funcNamed "loop.example/g01281/laws.FnExactReadFerry" = some 7 by kernel_rfl).symm.trans hf) |>.symm
      obtain rfl : fn = Tryd.f7 := (Option.some.inj (Tryd.func7.symm.trans hfn)).symm
      exact ⟨by kernel_rfl, fun j t ht => by
        rw [Tryd.params7] at ht
        have hm : t ∈ [9] := by simpa using Array.mem_of_getElem? ht
        have hall : ([9].all fun u => !Tryd.prog.wantsStandIn u) = true := by kernel_rfl
        exact (show Tryd.prog.wantsStandIn t = false by simpa using List.all_eq_true.1 hall t hm)⟩)
    (by kernel_rfl)
end Go.Proofs.YtmjkeidcoonghaaDoor.fnExactReadFerry
namespace Go.Proofs.YtmjkeidcoonghaaDoor
/-- The card, under a short name, for the claim. -/
theorem fnExactReadFerry_holds : Rows.FnExactReadFerryCardSaid := fnExactReadFerry.card
end Go.Proofs.YtmjkeidcoonghaaDoor
