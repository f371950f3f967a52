/-
  DERIVED. GIVEN WITH THE SEED: THE CARDS: each row of YtdnipilfcjkfoaaGreatDoorRows.lean that lists a variable, with what it lists TIED to the program's text (the seventh form; the later family's looks); each row that meets fmt, with fmt's text TOLD by the authors' own Lean function (tested against real Go, not proved from fmt's source: count such statements apart). THE CARD IS WHAT COUNTS. Prove the row's statement (the work); the ties are given (YtdnipilfcjkfoaaGreatDoorTie.lean); close each card by the builder's one call (the guide's Derived/Test/ToyasCard.lean, 'card_holds'). Laid BY PROGRAM, IN A SANDBOX (cutbox-door.mjs). By AI agents, Wed Nov 11 2026. No macro, syntax, notation, axiom, sorry.
-/
import Derived.Test.YtdnipilfcjkfoaaGreatDoorRows
import GoSem.ClaimSeven
namespace Go.Proofs.YtdnipilfcjkfoaaGreatDoor
namespace Rows

/-- THE TIED CARD OF 'laws.FnPlayed'. -/
def fnPlayedCard : Claim7 := { stood := { row := fnPlayedRow, standIns := [], harness := (true, "0ad8e0c3fbaac8092456cd695bc7d6540ac67f184c0b0b1e4ae16315f59a0ae7"), looks := true }, kinds := [], alts := [], laidByText := true, laidKinds := [.data, .data, .data, .data, .sentinel, .sentinel, .pinned], laidTests := true, laidLooks := .later }
def FnPlayedCardSaid : Prop := Claim7.holds Tryz.pinned (.plain (OpenSpec.ofChange fnPlayedSpec)) fnPlayedCard

/-- THE SECOND FORM's CARD OF 'laws.FnPlayed'. -/
def fnPlayedUptoCard : Claim7 := { stood := { row := fnPlayedUptoRow, standIns := [], harness := (true, "0ad8e0c3fbaac8092456cd695bc7d6540ac67f184c0b0b1e4ae16315f59a0ae7"), looks := true }, kinds := [], alts := [], laidByText := true, laidKinds := [.data, .data, .data, .data, .sentinel, .sentinel, .pinned], laidTests := true, laidLooks := .later }
def FnPlayedUptoCardSaid : Prop := Claim7.holds Tryz.pinned (.plain (OpenSpec.upto fnPlayedSpec)) fnPlayedUptoCard
end Rows
end Go.Proofs.YtdnipilfcjkfoaaGreatDoor
