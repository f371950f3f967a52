/-
  DERIVED. GIVEN WITH THE SEED: THE CARDS: each row of YtblbfnngmeoipaaGreatDoorRows.lean that lists a variable, with what it lists TIED to the program's text (the seventh form; the later family's looks); each row that meets fmt, with fmt's text TOLD by the authors' own Lean function (tested against real Go, not proved from fmt's source: count such statements apart). THE CARD IS WHAT COUNTS. Prove the row's statement (the work); the ties are given (YtblbfnngmeoipaaGreatDoorTie.lean); close each card by the builder's one call (the guide's Derived/Test/ToyasCard.lean, 'card_holds'). Laid BY PROGRAM, IN A SANDBOX (cutbox-door.mjs). By AI agents, Wed Nov 11 2026. No macro, syntax, notation, axiom, sorry.
-/
import Derived.Test.YtblbfnngmeoipaaGreatDoorRows
import GoSem.ClaimSeven
namespace Go.Proofs.YtblbfnngmeoipaaGreatDoor
namespace Rows

/-- THE TIED CARD OF 'laws.FnFerries'. -/
def fnFerriesCard : Claim7 := { stood := { row := fnFerriesRow, standIns := [], harness := (true, "c0059f0cbfd9abc5067cfff9f4c79b3bb5681aa53bbc75d2c0a9e1e215932573"), looks := true }, kinds := [], alts := [], laidByText := true, laidKinds := [.data, .data, .data, .data, .sentinel, .sentinel, .pinned], laidTests := true, laidLooks := .later }
def FnFerriesCardSaid : Prop := Claim7.holds Tryz.pinned (.plain (OpenSpec.ofChange fnFerriesSpec)) fnFerriesCard

/-- THE SECOND FORM's CARD OF 'laws.FnFerries'. -/
def fnFerriesUptoCard : Claim7 := { stood := { row := fnFerriesUptoRow, standIns := [], harness := (true, "c0059f0cbfd9abc5067cfff9f4c79b3bb5681aa53bbc75d2c0a9e1e215932573"), looks := true }, kinds := [], alts := [], laidByText := true, laidKinds := [.data, .data, .data, .data, .sentinel, .sentinel, .pinned], laidTests := true, laidLooks := .later }
def FnFerriesUptoCardSaid : Prop := Claim7.holds Tryz.pinned (.plain (OpenSpec.upto fnFerriesSpec)) fnFerriesUptoCard
end Rows
end Go.Proofs.YtblbfnngmeoipaaGreatDoor
