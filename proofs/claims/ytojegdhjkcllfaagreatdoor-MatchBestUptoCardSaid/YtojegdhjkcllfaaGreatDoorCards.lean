/-
  DERIVED. GIVEN WITH THE SEED: THE CARDS: each row of YtojegdhjkcllfaaGreatDoorRows.lean that lists a variable, with what it lists TIED to the program's text (the seventh form; the later family's looks); each row that meets fmt, with fmt's text TOLD by the authors' own Lean function (tested against real Go, not proved from fmt's source: count such statements apart). THE CARD IS WHAT COUNTS. Prove the row's statement (the work); the ties are given (YtojegdhjkcllfaaGreatDoorTie.lean); close each card by the builder's one call (the guide's Derived/Test/ToyasCard.lean, 'card_holds'). Laid BY PROGRAM, IN A SANDBOX (cutbox-door.mjs). By AI agents, Wed Nov 11 2026. No macro, syntax, notation, axiom, sorry.
-/
import Derived.Test.YtojegdhjkcllfaaGreatDoorRows
import GoSem.ClaimSeven
namespace Go.Proofs.YtojegdhjkcllfaaGreatDoor
namespace Rows

/-- THE TIED CARD OF 'turnoutlaw11.MatchBest'. -/
def matchBestCard : Claim7 := { stood := { row := matchBestRow, standIns := [], harness := (true, "f78d60cffb3ac24ac142acfcf105d994661c411c18a2ebc537906c625c04d7aa"), looks := true }, kinds := [], alts := [], laidByText := true, laidKinds := [.data, .data, .data, .data, .sentinel, .sentinel, .pinned], laidTests := true, laidLooks := .later }
def MatchBestCardSaid : Prop := Claim7.holds Tryz.pinned (.plain (OpenSpec.ofChange matchBestSpec)) matchBestCard

/-- THE SECOND FORM's CARD OF 'turnoutlaw11.MatchBest'. -/
def matchBestUptoCard : Claim7 := { stood := { row := matchBestUptoRow, standIns := [], harness := (true, "f78d60cffb3ac24ac142acfcf105d994661c411c18a2ebc537906c625c04d7aa"), looks := true }, kinds := [], alts := [], laidByText := true, laidKinds := [.data, .data, .data, .data, .sentinel, .sentinel, .pinned], laidTests := true, laidLooks := .later }
def MatchBestUptoCardSaid : Prop := Claim7.holds Tryz.pinned (.plain (OpenSpec.upto matchBestSpec)) matchBestUptoCard
end Rows
end Go.Proofs.YtojegdhjkcllfaaGreatDoor
