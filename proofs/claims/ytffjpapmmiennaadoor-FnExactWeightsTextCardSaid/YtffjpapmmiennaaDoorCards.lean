/-
  DERIVED. GIVEN WITH THE SEED: THE CARDS: each row of YtffjpapmmiennaaDoorRows.lean that lists a variable, with what it lists TIED to the program's text (the seventh form; the later family's looks); each row that meets fmt, with fmt's text TOLD by the authors' own Lean function (tested against real Go, not proved from fmt's source: count such statements apart). THE CARD IS WHAT COUNTS. Prove the row's statement (the work); the ties are given (YtffjpapmmiennaaDoorTie.lean); close each card by the builder's one call (the guide's Derived/Test/ToyasCard.lean, 'card_holds'). Laid BY PROGRAM, IN A SANDBOX (cutbox-door.mjs). By AI agents, Wed Nov 11 2026. No macro, syntax, notation, axiom, sorry.
-/
import Derived.Test.YtffjpapmmiennaaDoorRows
import GoSem.ClaimSeven
namespace Go.Proofs.YtffjpapmmiennaaDoor
namespace Rows

/-- THE TIED CARD OF 'laws.FnExactWeightsText'. -/
def fnExactWeightsTextCard : Claim7 := { stood := { row := fnExactWeightsTextRow, standIns := [], harness := (true, "0f80075e4a96d3ac5e390a9eef072bf749fbdc6d5326b460f6610e44ca956887"), looks := false }, kinds := [], alts := [], laidByText := true, laidKinds := [.data, .data, .data], laidTests := true, laidLooks := .later }
def FnExactWeightsTextCardSaid : Prop := Claim7.holds Tryd.pinned (.plain (OpenSpec.ofChange fnExactWeightsTextSpec)) fnExactWeightsTextCard

/-- THE TIED CARD OF 'laws.FnExactGlassesText'. -/
def fnExactGlassesTextCard : Claim7 := { stood := { row := fnExactGlassesTextRow, standIns := [], harness := (true, "0f80075e4a96d3ac5e390a9eef072bf749fbdc6d5326b460f6610e44ca956887"), looks := false }, kinds := [], alts := [], laidByText := true, laidKinds := [.data, .data, .data], laidTests := true, laidLooks := .later }
def FnExactGlassesTextCardSaid : Prop := Claim7.holds Tryd.pinned (.plain (OpenSpec.ofChange fnExactGlassesTextSpec)) fnExactGlassesTextCard

/-- THE TIED CARD OF 'laws.FnExactFerryText'. -/
def fnExactFerryTextCard : Claim7 := { stood := { row := fnExactFerryTextRow, standIns := [], harness := (true, "0f80075e4a96d3ac5e390a9eef072bf749fbdc6d5326b460f6610e44ca956887"), looks := false }, kinds := [], alts := [], laidByText := true, laidKinds := [.data, .data, .data], laidTests := true, laidLooks := .later }
def FnExactFerryTextCardSaid : Prop := Claim7.holds Tryd.pinned (.plain (OpenSpec.ofChange fnExactFerryTextSpec)) fnExactFerryTextCard

/-- THE SECOND FORM's CARD OF 'laws.FnExactWeightsText'. -/
def fnExactWeightsTextUptoCard : Claim7 := { stood := { row := fnExactWeightsTextUptoRow, standIns := [], harness := (true, "0f80075e4a96d3ac5e390a9eef072bf749fbdc6d5326b460f6610e44ca956887"), looks := false }, kinds := [], alts := [], laidByText := true, laidKinds := [.data, .data, .data], laidTests := true, laidLooks := .later }
def FnExactWeightsTextUptoCardSaid : Prop := Claim7.holds Tryd.pinned (.plain (OpenSpec.upto fnExactWeightsTextSpec)) fnExactWeightsTextUptoCard

/-- THE SECOND FORM's CARD OF 'laws.FnExactGlassesText'. -/
def fnExactGlassesTextUptoCard : Claim7 := { stood := { row := fnExactGlassesTextUptoRow, standIns := [], harness := (true, "0f80075e4a96d3ac5e390a9eef072bf749fbdc6d5326b460f6610e44ca956887"), looks := false }, kinds := [], alts := [], laidByText := true, laidKinds := [.data, .data, .data], laidTests := true, laidLooks := .later }
def FnExactGlassesTextUptoCardSaid : Prop := Claim7.holds Tryd.pinned (.plain (OpenSpec.upto fnExactGlassesTextSpec)) fnExactGlassesTextUptoCard

/-- THE SECOND FORM's CARD OF 'laws.FnExactFerryText'. -/
def fnExactFerryTextUptoCard : Claim7 := { stood := { row := fnExactFerryTextUptoRow, standIns := [], harness := (true, "0f80075e4a96d3ac5e390a9eef072bf749fbdc6d5326b460f6610e44ca956887"), looks := false }, kinds := [], alts := [], laidByText := true, laidKinds := [.data, .data, .data], laidTests := true, laidLooks := .later }
def FnExactFerryTextUptoCardSaid : Prop := Claim7.holds Tryd.pinned (.plain (OpenSpec.upto fnExactFerryTextSpec)) fnExactFerryTextUptoCard
end Rows
end Go.Proofs.YtffjpapmmiennaaDoor
