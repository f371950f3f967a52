/-
  DERIVED. GIVEN WITH THE SEED: THE CARDS: each row of YtljkpeeabpdalaaDoorRows.lean that lists a variable, with what it lists TIED to the program's text (the seventh form; the later family's looks); each row that meets fmt, with fmt's text TOLD by the authors' own Lean function (tested against real Go, not proved from fmt's source: count such statements apart). THE CARD IS WHAT COUNTS. Prove the row's statement (the work); the ties are given (YtljkpeeabpdalaaDoorTie.lean); close each card by the builder's one call (the guide's Derived/Test/ToyasCard.lean, 'card_holds'). Laid BY PROGRAM, IN A SANDBOX (cutbox-door.mjs). By AI agents, Wed Nov 11 2026. No macro, syntax, notation, axiom, sorry.
-/
import Derived.Test.YtljkpeeabpdalaaDoorRows
import GoSem.ClaimSeven
namespace Go.Proofs.YtljkpeeabpdalaaDoor
namespace Rows

/-- THE TIED CARD OF 'laws.FnExactGameText'. -/
def fnExactGameTextCard : Claim7 := { stood := { row := fnExactGameTextRow, standIns := [], harness := (true, "e96348b68d762485e57392f0ab095addba905106206cf2f52b26a88c866a5786"), looks := true }, kinds := [], alts := [], laidByText := true, laidKinds := [.data, .data, .data], laidTests := true, laidLooks := .later }
def FnExactGameTextCardSaid : Prop := Claim7.holds Tryd.pinned (.plain (OpenSpec.ofChange fnExactGameTextSpec)) fnExactGameTextCard

/-- THE TIED CARD OF 'laws.FnExactReadGame'. -/
def fnExactReadGameCard : Claim7 := { stood := { row := fnExactReadGameRow, standIns := [], harness := (true, "e96348b68d762485e57392f0ab095addba905106206cf2f52b26a88c866a5786"), looks := true }, kinds := [], alts := [], laidByText := true, laidKinds := [.data, .data, .data, .data, .sentinel, .sentinel, .pinned], laidTests := true, laidLooks := .later }
def FnExactReadGameCardSaid : Prop := Claim7.holds Tryd.pinned (.plain (OpenSpec.ofChange fnExactReadGameSpec)) fnExactReadGameCard

/-- THE SECOND FORM's CARD OF 'laws.FnExactGameText'. -/
def fnExactGameTextUptoCard : Claim7 := { stood := { row := fnExactGameTextUptoRow, standIns := [], harness := (true, "e96348b68d762485e57392f0ab095addba905106206cf2f52b26a88c866a5786"), looks := true }, kinds := [], alts := [], laidByText := true, laidKinds := [.data, .data, .data], laidTests := true, laidLooks := .later }
def FnExactGameTextUptoCardSaid : Prop := Claim7.holds Tryd.pinned (.plain (OpenSpec.upto fnExactGameTextSpec)) fnExactGameTextUptoCard

/-- THE SECOND FORM's CARD OF 'laws.FnExactReadGame'. -/
def fnExactReadGameUptoCard : Claim7 := { stood := { row := fnExactReadGameUptoRow, standIns := [], harness := (true, "e96348b68d762485e57392f0ab095addba905106206cf2f52b26a88c866a5786"), looks := true }, kinds := [], alts := [], laidByText := true, laidKinds := [.data, .data, .data, .data, .sentinel, .sentinel, .pinned], laidTests := true, laidLooks := .later }
def FnExactReadGameUptoCardSaid : Prop := Claim7.holds Tryd.pinned (.plain (OpenSpec.upto fnExactReadGameSpec)) fnExactReadGameUptoCard
end Rows
end Go.Proofs.YtljkpeeabpdalaaDoor
