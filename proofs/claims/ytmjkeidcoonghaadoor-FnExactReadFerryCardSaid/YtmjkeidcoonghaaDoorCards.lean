/-
  DERIVED. GIVEN WITH THE SEED: THE CARDS: each row of YtmjkeidcoonghaaDoorRows.lean that lists a variable, with what it lists TIED to the program's text (the seventh form; the later family's looks); each row that meets fmt, with fmt's text TOLD by the authors' own Lean function (tested against real Go, not proved from fmt's source: count such statements apart). THE CARD IS WHAT COUNTS. Prove the row's statement (the work); the ties are given (YtmjkeidcoonghaaDoorTie.lean); close each card by the builder's one call (the guide's Derived/Test/ToyasCard.lean, 'card_holds'). Laid BY PROGRAM, IN A SANDBOX (cutbox-door.mjs). By AI agents, Wed Nov 11 2026. No macro, syntax, notation, axiom, sorry.
-/
import Derived.Test.YtmjkeidcoonghaaDoorRows
import GoSem.ClaimSeven
namespace Go.Proofs.YtmjkeidcoonghaaDoor
namespace Rows

/-- THE TIED CARD OF 'laws.FnExactReadTurns'. -/
def fnExactReadTurnsCard : Claim7 := { stood := { row := fnExactReadTurnsRow, standIns := [], harness := (true, "93c7be9f69d39aa319c50c7fe8b88ccbbfb126c2914bead725a8464900f04084"), looks := true }, kinds := [], alts := [], laidByText := true, laidKinds := [.data, .pinned], laidTests := true, laidLooks := .later }
def FnExactReadTurnsCardSaid : Prop := Claim7.holds Tryd.pinned (.plain (OpenSpec.ofChange fnExactReadTurnsSpec)) fnExactReadTurnsCard

/-- THE TIED CARD OF 'laws.FnExactGameText'. -/
def fnExactGameTextCard : Claim7 := { stood := { row := fnExactGameTextRow, standIns := [], harness := (true, "93c7be9f69d39aa319c50c7fe8b88ccbbfb126c2914bead725a8464900f04084"), looks := true }, kinds := [], alts := [], laidByText := true, laidKinds := [.data, .data, .data], laidTests := true, laidLooks := .later }
def FnExactGameTextCardSaid : Prop := Claim7.holds Tryd.pinned (.plain (OpenSpec.ofChange fnExactGameTextSpec)) fnExactGameTextCard

/-- THE TIED CARD OF 'laws.FnExactReadWeights'. -/
def fnExactReadWeightsCard : Claim7 := { stood := { row := fnExactReadWeightsRow, standIns := [], harness := (true, "93c7be9f69d39aa319c50c7fe8b88ccbbfb126c2914bead725a8464900f04084"), looks := true }, kinds := [], alts := [], laidByText := true, laidKinds := [.data, .data, .data, .data, .sentinel, .sentinel, .pinned], laidTests := true, laidLooks := .later }
def FnExactReadWeightsCardSaid : Prop := Claim7.holds Tryd.pinned (.plain (OpenSpec.ofChange fnExactReadWeightsSpec)) fnExactReadWeightsCard

/-- THE TIED CARD OF 'laws.FnExactReadGlasses'. -/
def fnExactReadGlassesCard : Claim7 := { stood := { row := fnExactReadGlassesRow, standIns := [], harness := (true, "93c7be9f69d39aa319c50c7fe8b88ccbbfb126c2914bead725a8464900f04084"), looks := true }, kinds := [], alts := [], laidByText := true, laidKinds := [.data, .data, .data, .data, .sentinel, .sentinel, .pinned], laidTests := true, laidLooks := .later }
def FnExactReadGlassesCardSaid : Prop := Claim7.holds Tryd.pinned (.plain (OpenSpec.ofChange fnExactReadGlassesSpec)) fnExactReadGlassesCard

/-- THE TIED CARD OF 'laws.FnExactReadFerry'. -/
def fnExactReadFerryCard : Claim7 := { stood := { row := fnExactReadFerryRow, standIns := [], harness := (true, "93c7be9f69d39aa319c50c7fe8b88ccbbfb126c2914bead725a8464900f04084"), looks := true }, kinds := [], alts := [], laidByText := true, laidKinds := [.data, .data, .data, .data, .sentinel, .sentinel, .pinned], laidTests := true, laidLooks := .later }
def FnExactReadFerryCardSaid : Prop := Claim7.holds Tryd.pinned (.plain (OpenSpec.ofChange fnExactReadFerrySpec)) fnExactReadFerryCard

/-- THE SECOND FORM's CARD OF 'laws.FnExactReadTurns'. -/
def fnExactReadTurnsUptoCard : Claim7 := { stood := { row := fnExactReadTurnsUptoRow, standIns := [], harness := (true, "93c7be9f69d39aa319c50c7fe8b88ccbbfb126c2914bead725a8464900f04084"), looks := true }, kinds := [], alts := [], laidByText := true, laidKinds := [.data, .pinned], laidTests := true, laidLooks := .later }
def FnExactReadTurnsUptoCardSaid : Prop := Claim7.holds Tryd.pinned (.plain (OpenSpec.upto fnExactReadTurnsSpec)) fnExactReadTurnsUptoCard

/-- THE SECOND FORM's CARD OF 'laws.FnExactGameText'. -/
def fnExactGameTextUptoCard : Claim7 := { stood := { row := fnExactGameTextUptoRow, standIns := [], harness := (true, "93c7be9f69d39aa319c50c7fe8b88ccbbfb126c2914bead725a8464900f04084"), looks := true }, kinds := [], alts := [], laidByText := true, laidKinds := [.data, .data, .data], laidTests := true, laidLooks := .later }
def FnExactGameTextUptoCardSaid : Prop := Claim7.holds Tryd.pinned (.plain (OpenSpec.upto fnExactGameTextSpec)) fnExactGameTextUptoCard

/-- THE SECOND FORM's CARD OF 'laws.FnExactReadWeights'. -/
def fnExactReadWeightsUptoCard : Claim7 := { stood := { row := fnExactReadWeightsUptoRow, standIns := [], harness := (true, "93c7be9f69d39aa319c50c7fe8b88ccbbfb126c2914bead725a8464900f04084"), looks := true }, kinds := [], alts := [], laidByText := true, laidKinds := [.data, .data, .data, .data, .sentinel, .sentinel, .pinned], laidTests := true, laidLooks := .later }
def FnExactReadWeightsUptoCardSaid : Prop := Claim7.holds Tryd.pinned (.plain (OpenSpec.upto fnExactReadWeightsSpec)) fnExactReadWeightsUptoCard

/-- THE SECOND FORM's CARD OF 'laws.FnExactReadGlasses'. -/
def fnExactReadGlassesUptoCard : Claim7 := { stood := { row := fnExactReadGlassesUptoRow, standIns := [], harness := (true, "93c7be9f69d39aa319c50c7fe8b88ccbbfb126c2914bead725a8464900f04084"), looks := true }, kinds := [], alts := [], laidByText := true, laidKinds := [.data, .data, .data, .data, .sentinel, .sentinel, .pinned], laidTests := true, laidLooks := .later }
def FnExactReadGlassesUptoCardSaid : Prop := Claim7.holds Tryd.pinned (.plain (OpenSpec.upto fnExactReadGlassesSpec)) fnExactReadGlassesUptoCard

/-- THE SECOND FORM's CARD OF 'laws.FnExactReadFerry'. -/
def fnExactReadFerryUptoCard : Claim7 := { stood := { row := fnExactReadFerryUptoRow, standIns := [], harness := (true, "93c7be9f69d39aa319c50c7fe8b88ccbbfb126c2914bead725a8464900f04084"), looks := true }, kinds := [], alts := [], laidByText := true, laidKinds := [.data, .data, .data, .data, .sentinel, .sentinel, .pinned], laidTests := true, laidLooks := .later }
def FnExactReadFerryUptoCardSaid : Prop := Claim7.holds Tryd.pinned (.plain (OpenSpec.upto fnExactReadFerrySpec)) fnExactReadFerryUptoCard
end Rows
end Go.Proofs.YtmjkeidcoonghaaDoor
