/-
  DERIVED. GIVEN WITH THE SEED: THE CARDS: each row of YtgoninfjneepfaaGreatDoorRows.lean that lists a variable, with what it lists TIED to the program's text (the seventh form; the later family's looks); each row that meets fmt, with fmt's text TOLD by the authors' own Lean function (tested against real Go, not proved from fmt's source: count such statements apart). THE CARD IS WHAT COUNTS. Prove the row's statement (the work); the ties are given (YtgoninfjneepfaaGreatDoorTie.lean); close each card by the builder's one call (the guide's Derived/Test/ToyasCard.lean, 'card_holds'). Laid BY PROGRAM, IN A SANDBOX (cutbox-door.mjs). By AI agents, Wed Nov 11 2026. No macro, syntax, notation, axiom, sorry.
-/
import Derived.Test.YtgoninfjneepfaaGreatDoorRows
import GoSem.ClaimSeven
namespace Go.Proofs.YtgoninfjneepfaaGreatDoor
namespace Rows

/-- THE TIED CARD OF 'laws.FnGlasses'. -/
def fnGlassesCard : Claim7 := { stood := { row := fnGlassesRow, standIns := [], harness := (true, "4a25023471d39dd81d4d9a54372e1cb04e03baafe68b824167675b0d402ca36d"), looks := true }, kinds := [], alts := [], laidByText := true, laidKinds := [.data, .data, .data, .data, .sentinel, .sentinel, .pinned], laidTests := true, laidLooks := .later }
def FnGlassesCardSaid : Prop := Claim7.holds Tryz.pinned (.plain (OpenSpec.ofChange fnGlassesSpec)) fnGlassesCard

/-- THE SECOND FORM's CARD OF 'laws.FnGlasses'. -/
def fnGlassesUptoCard : Claim7 := { stood := { row := fnGlassesUptoRow, standIns := [], harness := (true, "4a25023471d39dd81d4d9a54372e1cb04e03baafe68b824167675b0d402ca36d"), looks := true }, kinds := [], alts := [], laidByText := true, laidKinds := [.data, .data, .data, .data, .sentinel, .sentinel, .pinned], laidTests := true, laidLooks := .later }
def FnGlassesUptoCardSaid : Prop := Claim7.holds Tryz.pinned (.plain (OpenSpec.upto fnGlassesSpec)) fnGlassesUptoCard
end Rows
end Go.Proofs.YtgoninfjneepfaaGreatDoor
