/-
  DERIVED. GIVEN WITH THE SEED: THE CARDS: each row of YtgfjodldjaojhaaGreatDoorRows.lean that lists a variable, with what it lists TIED to the program's text (the seventh form; the later family's looks); each row that meets fmt, with fmt's text TOLD by the authors' own Lean function (tested against real Go, not proved from fmt's source: count such statements apart). THE CARD IS WHAT COUNTS. Prove the row's statement (the work); the ties are given (YtgfjodldjaojhaaGreatDoorTie.lean); close each card by the builder's one call (the guide's Derived/Test/ToyasCard.lean, 'card_holds'). Laid BY PROGRAM, IN A SANDBOX (cutbox-door.mjs). By AI agents, Wed Nov 11 2026. No macro, syntax, notation, axiom, sorry.
-/
import Derived.Test.YtgfjodldjaojhaaGreatDoorRows
import GoSem.ClaimSeven
namespace Go.Proofs.YtgfjodldjaojhaaGreatDoor
namespace Rows

/-- THE TIED CARD OF 'turnoutlaw11.MatchNumbers'. -/
def matchNumbersCard : Claim7 := { stood := { row := matchNumbersRow, standIns := [], harness := (true, "e52e6bb57c8cfc3e80bb7b9bb5d930956abf6151ec0d5a4d1035199be7549850"), looks := true }, kinds := [], alts := [], laidByText := true, laidKinds := [.data, .data, .data, .data, .sentinel, .sentinel, .pinned], laidTests := true, laidLooks := .later }
def MatchNumbersCardSaid : Prop := Claim7.holds Tryz.pinned (.plain (OpenSpec.ofChange matchNumbersSpec)) matchNumbersCard

/-- THE TIED CARD OF 'turnoutlaw11.MatchRights'. -/
def matchRightsCard : Claim7 := { stood := { row := matchRightsRow, standIns := [], harness := (true, "e52e6bb57c8cfc3e80bb7b9bb5d930956abf6151ec0d5a4d1035199be7549850"), looks := true }, kinds := [], alts := [], laidByText := true, laidKinds := [.data, .data, .data, .data, .sentinel, .sentinel, .pinned], laidTests := true, laidLooks := .later }
def MatchRightsCardSaid : Prop := Claim7.holds Tryz.pinned (.plain (OpenSpec.ofChange matchRightsSpec)) matchRightsCard

/-- THE TIED CARD OF 'turnoutlaw11.MatchOrders'. -/
def matchOrdersCard : Claim7 := { stood := { row := matchOrdersRow, standIns := [], harness := (true, "e52e6bb57c8cfc3e80bb7b9bb5d930956abf6151ec0d5a4d1035199be7549850"), looks := true }, kinds := [], alts := [], laidByText := true, laidKinds := [.data, .data, .data, .data, .sentinel, .sentinel, .pinned], laidTests := true, laidLooks := .later }
def MatchOrdersCardSaid : Prop := Claim7.holds Tryz.pinned (.plain (OpenSpec.ofChange matchOrdersSpec)) matchOrdersCard

/-- THE TIED CARD OF 'turnoutlaw11.MatchHits'. -/
def matchHitsCard : Claim7 := { stood := { row := matchHitsRow, standIns := [], harness := (true, "e52e6bb57c8cfc3e80bb7b9bb5d930956abf6151ec0d5a4d1035199be7549850"), looks := true }, kinds := [], alts := [], laidByText := true, laidKinds := [.data, .data, .data, .data, .sentinel, .sentinel, .pinned], laidTests := true, laidLooks := .later }
def MatchHitsCardSaid : Prop := Claim7.holds Tryz.pinned (.plain (OpenSpec.ofChange matchHitsSpec)) matchHitsCard

/-- THE TIED CARD OF 'turnoutlaw11.MatchTexts'. -/
def matchTextsCard : Claim7 := { stood := { row := matchTextsRow, standIns := [], harness := (true, "e52e6bb57c8cfc3e80bb7b9bb5d930956abf6151ec0d5a4d1035199be7549850"), looks := true }, kinds := [], alts := [], laidByText := true, laidKinds := [.data, .data, .data, .data, .sentinel, .sentinel, .pinned], laidTests := true, laidLooks := .later }
def MatchTextsCardSaid : Prop := Claim7.holds Tryz.pinned (.plain (OpenSpec.ofChange matchTextsSpec)) matchTextsCard

/-- THE TIED CARD OF 'turnoutlaw11.MatchRanks'. -/
def matchRanksCard : Claim7 := { stood := { row := matchRanksRow, standIns := [], harness := (true, "e52e6bb57c8cfc3e80bb7b9bb5d930956abf6151ec0d5a4d1035199be7549850"), looks := true }, kinds := [], alts := [], laidByText := true, laidKinds := [.data, .data, .data, .data, .sentinel, .sentinel, .pinned], laidTests := true, laidLooks := .later }
def MatchRanksCardSaid : Prop := Claim7.holds Tryz.pinned (.plain (OpenSpec.ofChange matchRanksSpec)) matchRanksCard

/-- THE TIED CARD OF 'turnoutlaw11.MatchAll'. -/
def matchAllCard : Claim7 := { stood := { row := matchAllRow, standIns := [], harness := (true, "e52e6bb57c8cfc3e80bb7b9bb5d930956abf6151ec0d5a4d1035199be7549850"), looks := true }, kinds := [], alts := [], laidByText := true, laidKinds := [.data, .data, .data, .data, .sentinel, .sentinel, .pinned], laidTests := true, laidLooks := .later }
def MatchAllCardSaid : Prop := Claim7.holds Tryz.pinned (.plain (OpenSpec.ofChange matchAllSpec)) matchAllCard

/-- THE TIED CARD OF 'turnoutlaw11.MatchBest'. -/
def matchBestCard : Claim7 := { stood := { row := matchBestRow, standIns := [], harness := (true, "e52e6bb57c8cfc3e80bb7b9bb5d930956abf6151ec0d5a4d1035199be7549850"), looks := true }, kinds := [], alts := [], laidByText := true, laidKinds := [.data, .data, .data, .data, .sentinel, .sentinel, .pinned], laidTests := true, laidLooks := .later }
def MatchBestCardSaid : Prop := Claim7.holds Tryz.pinned (.plain (OpenSpec.ofChange matchBestSpec)) matchBestCard

/-- THE TIED CARD OF 'turnoutlaw11.MatchMemory'. -/
def matchMemoryCard : Claim7 := { stood := { row := matchMemoryRow, standIns := [], harness := (true, "e52e6bb57c8cfc3e80bb7b9bb5d930956abf6151ec0d5a4d1035199be7549850"), looks := true }, kinds := [], alts := [], laidByText := true, laidKinds := [.data, .data, .data, .data, .sentinel, .sentinel, .pinned], laidTests := true, laidLooks := .later }
def MatchMemoryCardSaid : Prop := Claim7.holds Tryz.pinned (.plain (OpenSpec.ofChange matchMemorySpec)) matchMemoryCard

/-- THE TIED CARD OF 'turnoutlaw11.MatchPacks'. -/
def matchPacksCard : Claim7 := { stood := { row := matchPacksRow, standIns := [], harness := (true, "e52e6bb57c8cfc3e80bb7b9bb5d930956abf6151ec0d5a4d1035199be7549850"), looks := true }, kinds := [], alts := [], laidByText := true, laidKinds := [.data, .data, .data, .data, .sentinel, .sentinel, .pinned], laidTests := true, laidLooks := .later }
def MatchPacksCardSaid : Prop := Claim7.holds Tryz.pinned (.plain (OpenSpec.ofChange matchPacksSpec)) matchPacksCard

/-- THE TIED CARD OF 'turnoutlaw11.MatchBack'. -/
def matchBackCard : Claim7 := { stood := { row := matchBackRow, standIns := [], harness := (true, "e52e6bb57c8cfc3e80bb7b9bb5d930956abf6151ec0d5a4d1035199be7549850"), looks := true }, kinds := [], alts := [], laidByText := true, laidKinds := [.data, .data, .data, .data, .sentinel, .sentinel, .pinned], laidTests := true, laidLooks := .later }
def MatchBackCardSaid : Prop := Claim7.holds Tryz.pinned (.plain (OpenSpec.ofChange matchBackSpec)) matchBackCard

/-- THE SECOND FORM's CARD OF 'turnoutlaw11.MatchNumbers'. -/
def matchNumbersUptoCard : Claim7 := { stood := { row := matchNumbersUptoRow, standIns := [], harness := (true, "e52e6bb57c8cfc3e80bb7b9bb5d930956abf6151ec0d5a4d1035199be7549850"), looks := true }, kinds := [], alts := [], laidByText := true, laidKinds := [.data, .data, .data, .data, .sentinel, .sentinel, .pinned], laidTests := true, laidLooks := .later }
def MatchNumbersUptoCardSaid : Prop := Claim7.holds Tryz.pinned (.plain (OpenSpec.upto matchNumbersSpec)) matchNumbersUptoCard

/-- THE SECOND FORM's CARD OF 'turnoutlaw11.MatchRights'. -/
def matchRightsUptoCard : Claim7 := { stood := { row := matchRightsUptoRow, standIns := [], harness := (true, "e52e6bb57c8cfc3e80bb7b9bb5d930956abf6151ec0d5a4d1035199be7549850"), looks := true }, kinds := [], alts := [], laidByText := true, laidKinds := [.data, .data, .data, .data, .sentinel, .sentinel, .pinned], laidTests := true, laidLooks := .later }
def MatchRightsUptoCardSaid : Prop := Claim7.holds Tryz.pinned (.plain (OpenSpec.upto matchRightsSpec)) matchRightsUptoCard

/-- THE SECOND FORM's CARD OF 'turnoutlaw11.MatchOrders'. -/
def matchOrdersUptoCard : Claim7 := { stood := { row := matchOrdersUptoRow, standIns := [], harness := (true, "e52e6bb57c8cfc3e80bb7b9bb5d930956abf6151ec0d5a4d1035199be7549850"), looks := true }, kinds := [], alts := [], laidByText := true, laidKinds := [.data, .data, .data, .data, .sentinel, .sentinel, .pinned], laidTests := true, laidLooks := .later }
def MatchOrdersUptoCardSaid : Prop := Claim7.holds Tryz.pinned (.plain (OpenSpec.upto matchOrdersSpec)) matchOrdersUptoCard

/-- THE SECOND FORM's CARD OF 'turnoutlaw11.MatchHits'. -/
def matchHitsUptoCard : Claim7 := { stood := { row := matchHitsUptoRow, standIns := [], harness := (true, "e52e6bb57c8cfc3e80bb7b9bb5d930956abf6151ec0d5a4d1035199be7549850"), looks := true }, kinds := [], alts := [], laidByText := true, laidKinds := [.data, .data, .data, .data, .sentinel, .sentinel, .pinned], laidTests := true, laidLooks := .later }
def MatchHitsUptoCardSaid : Prop := Claim7.holds Tryz.pinned (.plain (OpenSpec.upto matchHitsSpec)) matchHitsUptoCard

/-- THE SECOND FORM's CARD OF 'turnoutlaw11.MatchTexts'. -/
def matchTextsUptoCard : Claim7 := { stood := { row := matchTextsUptoRow, standIns := [], harness := (true, "e52e6bb57c8cfc3e80bb7b9bb5d930956abf6151ec0d5a4d1035199be7549850"), looks := true }, kinds := [], alts := [], laidByText := true, laidKinds := [.data, .data, .data, .data, .sentinel, .sentinel, .pinned], laidTests := true, laidLooks := .later }
def MatchTextsUptoCardSaid : Prop := Claim7.holds Tryz.pinned (.plain (OpenSpec.upto matchTextsSpec)) matchTextsUptoCard

/-- THE SECOND FORM's CARD OF 'turnoutlaw11.MatchRanks'. -/
def matchRanksUptoCard : Claim7 := { stood := { row := matchRanksUptoRow, standIns := [], harness := (true, "e52e6bb57c8cfc3e80bb7b9bb5d930956abf6151ec0d5a4d1035199be7549850"), looks := true }, kinds := [], alts := [], laidByText := true, laidKinds := [.data, .data, .data, .data, .sentinel, .sentinel, .pinned], laidTests := true, laidLooks := .later }
def MatchRanksUptoCardSaid : Prop := Claim7.holds Tryz.pinned (.plain (OpenSpec.upto matchRanksSpec)) matchRanksUptoCard

/-- THE SECOND FORM's CARD OF 'turnoutlaw11.MatchAll'. -/
def matchAllUptoCard : Claim7 := { stood := { row := matchAllUptoRow, standIns := [], harness := (true, "e52e6bb57c8cfc3e80bb7b9bb5d930956abf6151ec0d5a4d1035199be7549850"), looks := true }, kinds := [], alts := [], laidByText := true, laidKinds := [.data, .data, .data, .data, .sentinel, .sentinel, .pinned], laidTests := true, laidLooks := .later }
def MatchAllUptoCardSaid : Prop := Claim7.holds Tryz.pinned (.plain (OpenSpec.upto matchAllSpec)) matchAllUptoCard

/-- THE SECOND FORM's CARD OF 'turnoutlaw11.MatchBest'. -/
def matchBestUptoCard : Claim7 := { stood := { row := matchBestUptoRow, standIns := [], harness := (true, "e52e6bb57c8cfc3e80bb7b9bb5d930956abf6151ec0d5a4d1035199be7549850"), looks := true }, kinds := [], alts := [], laidByText := true, laidKinds := [.data, .data, .data, .data, .sentinel, .sentinel, .pinned], laidTests := true, laidLooks := .later }
def MatchBestUptoCardSaid : Prop := Claim7.holds Tryz.pinned (.plain (OpenSpec.upto matchBestSpec)) matchBestUptoCard

/-- THE SECOND FORM's CARD OF 'turnoutlaw11.MatchMemory'. -/
def matchMemoryUptoCard : Claim7 := { stood := { row := matchMemoryUptoRow, standIns := [], harness := (true, "e52e6bb57c8cfc3e80bb7b9bb5d930956abf6151ec0d5a4d1035199be7549850"), looks := true }, kinds := [], alts := [], laidByText := true, laidKinds := [.data, .data, .data, .data, .sentinel, .sentinel, .pinned], laidTests := true, laidLooks := .later }
def MatchMemoryUptoCardSaid : Prop := Claim7.holds Tryz.pinned (.plain (OpenSpec.upto matchMemorySpec)) matchMemoryUptoCard

/-- THE SECOND FORM's CARD OF 'turnoutlaw11.MatchPacks'. -/
def matchPacksUptoCard : Claim7 := { stood := { row := matchPacksUptoRow, standIns := [], harness := (true, "e52e6bb57c8cfc3e80bb7b9bb5d930956abf6151ec0d5a4d1035199be7549850"), looks := true }, kinds := [], alts := [], laidByText := true, laidKinds := [.data, .data, .data, .data, .sentinel, .sentinel, .pinned], laidTests := true, laidLooks := .later }
def MatchPacksUptoCardSaid : Prop := Claim7.holds Tryz.pinned (.plain (OpenSpec.upto matchPacksSpec)) matchPacksUptoCard

/-- THE SECOND FORM's CARD OF 'turnoutlaw11.MatchBack'. -/
def matchBackUptoCard : Claim7 := { stood := { row := matchBackUptoRow, standIns := [], harness := (true, "e52e6bb57c8cfc3e80bb7b9bb5d930956abf6151ec0d5a4d1035199be7549850"), looks := true }, kinds := [], alts := [], laidByText := true, laidKinds := [.data, .data, .data, .data, .sentinel, .sentinel, .pinned], laidTests := true, laidLooks := .later }
def MatchBackUptoCardSaid : Prop := Claim7.holds Tryz.pinned (.plain (OpenSpec.upto matchBackSpec)) matchBackUptoCard
end Rows
end Go.Proofs.YtgfjodldjaojhaaGreatDoor
