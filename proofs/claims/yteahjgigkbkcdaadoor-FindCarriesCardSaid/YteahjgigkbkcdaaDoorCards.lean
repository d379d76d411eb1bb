/-
  DERIVED. GIVEN WITH THE SEED: THE CARDS: each row of YteahjgigkbkcdaaDoorRows.lean that lists a variable, with what it lists TIED to the program's text (the seventh form; the later family's looks); each row that meets fmt, with fmt's text TOLD by the authors' own Lean function (tested against real Go, not proved from fmt's source: count such statements apart). THE CARD IS WHAT COUNTS. Prove the row's statement (the work); the ties are given (YteahjgigkbkcdaaDoorTie.lean); close each card by the builder's one call (the guide's Derived/Test/ToyasCard.lean, 'card_holds'). Laid BY PROGRAM, IN A SANDBOX (cutbox-door.mjs). By AI agents, Wed Nov 11 2026. No macro, syntax, notation, axiom, sorry.
-/
import Derived.Test.YteahjgigkbkcdaaDoorRows
import GoSem.ClaimSeven
namespace Go.Proofs.YteahjgigkbkcdaaDoor
namespace Rows

/-- THE TIED CARD OF 'belfrylaw23.TagTells'. -/
def tagTellsCard : Claim7 := { stood := { row := tagTellsRow, standIns := [], harness := (true, "f658b79e1aa73a4e0ec9b1403f00afa89c8446a3f2dfa31e81141c3996dff4f4"), looks := true }, kinds := [], alts := [], laidByText := true, laidKinds := [.data], laidTests := true, laidLooks := .later }
def TagTellsCardSaid : Prop := Claim7.holds Tryd.pinned (.plain (OpenSpec.ofChange tagTellsSpec)) tagTellsCard

/-- THE TIED CARD OF 'belfrylaw23.TagFree'. -/
def tagFreeCard : Claim7 := { stood := { row := tagFreeRow, standIns := [], harness := (true, "f658b79e1aa73a4e0ec9b1403f00afa89c8446a3f2dfa31e81141c3996dff4f4"), looks := true }, kinds := [], alts := [], laidByText := true, laidKinds := [.data], laidTests := true, laidLooks := .later }
def TagFreeCardSaid : Prop := Claim7.holds Tryd.pinned (.plain (OpenSpec.ofChange tagFreeSpec)) tagFreeCard

/-- THE TIED CARD OF 'belfrylaw24.FindCarries'. -/
def findCarriesCard : Claim7 := { stood := { row := findCarriesRow, standIns := [], harness := (true, "f658b79e1aa73a4e0ec9b1403f00afa89c8446a3f2dfa31e81141c3996dff4f4"), looks := true }, kinds := [], alts := [], laidByText := true, laidKinds := [.data], laidTests := true, laidLooks := .later }
def FindCarriesCardSaid : Prop := Claim7.holds Tryd.pinned (.plain (OpenSpec.ofChange findCarriesSpec)) findCarriesCard

/-- THE TIED CARD OF 'belfrylaw24.FindChecked'. -/
def findCheckedCard : Claim7 := { stood := { row := findCheckedRow, standIns := [], harness := (true, "f658b79e1aa73a4e0ec9b1403f00afa89c8446a3f2dfa31e81141c3996dff4f4"), looks := true }, kinds := [], alts := [], laidByText := true, laidKinds := [.data], laidTests := true, laidLooks := .later }
def FindCheckedCardSaid : Prop := Claim7.holds Tryd.pinned (.plain (OpenSpec.ofChange findCheckedSpec)) findCheckedCard

/-- THE TIED CARD OF 'belfrylaw24.FindTwice'. -/
def findTwiceCard : Claim7 := { stood := { row := findTwiceRow, standIns := [], harness := (true, "f658b79e1aa73a4e0ec9b1403f00afa89c8446a3f2dfa31e81141c3996dff4f4"), looks := true }, kinds := [], alts := [], laidByText := true, laidKinds := [.data], laidTests := true, laidLooks := .later }
def FindTwiceCardSaid : Prop := Claim7.holds Tryd.pinned (.plain (OpenSpec.ofChange findTwiceSpec)) findTwiceCard

/-- THE TIED CARD OF 'belfrylaw24.FindSearches'. -/
def findSearchesCard : Claim7 := { stood := { row := findSearchesRow, standIns := [], harness := (true, "f658b79e1aa73a4e0ec9b1403f00afa89c8446a3f2dfa31e81141c3996dff4f4"), looks := true }, kinds := [], alts := [], laidByText := true, laidKinds := [.data], laidTests := true, laidLooks := .later }
def FindSearchesCardSaid : Prop := Claim7.holds Tryd.pinned (.plain (OpenSpec.ofChange findSearchesSpec)) findSearchesCard

/-- THE TIED CARD OF 'belfrylaw24.FindWaves'. -/
def findWavesCard : Claim7 := { stood := { row := findWavesRow, standIns := [], harness := (true, "f658b79e1aa73a4e0ec9b1403f00afa89c8446a3f2dfa31e81141c3996dff4f4"), looks := true }, kinds := [], alts := [], laidByText := true, laidKinds := [.data], laidTests := true, laidLooks := .later }
def FindWavesCardSaid : Prop := Claim7.holds Tryd.pinned (.plain (OpenSpec.ofChange findWavesSpec)) findWavesCard

/-- THE TIED CARD OF 'belfrylaw23.TagWithin'. -/
def tagWithinCard : Claim7 := { stood := { row := tagWithinRow, standIns := [], harness := (true, "f658b79e1aa73a4e0ec9b1403f00afa89c8446a3f2dfa31e81141c3996dff4f4"), looks := true }, kinds := [], alts := [], laidByText := true, laidKinds := [.data], laidTests := true, laidLooks := .later }
def TagWithinCardSaid : Prop := Claim7.holds Tryd.pinned (.plain (OpenSpec.ofChange tagWithinSpec)) tagWithinCard

/-- THE TIED CARD OF 'belfrylaw24.FindSamples'. -/
def findSamplesCard : Claim7 := { stood := { row := findSamplesRow, standIns := [], harness := (true, "f658b79e1aa73a4e0ec9b1403f00afa89c8446a3f2dfa31e81141c3996dff4f4"), looks := true }, kinds := [], alts := [], laidByText := true, laidKinds := [.data], laidTests := true, laidLooks := .later }
def FindSamplesCardSaid : Prop := Claim7.holds Tryd.pinned (.plain (OpenSpec.ofChange findSamplesSpec)) findSamplesCard

/-- THE SECOND FORM's CARD OF 'belfrylaw23.TagTells'. -/
def tagTellsUptoCard : Claim7 := { stood := { row := tagTellsUptoRow, standIns := [], harness := (true, "f658b79e1aa73a4e0ec9b1403f00afa89c8446a3f2dfa31e81141c3996dff4f4"), looks := true }, kinds := [], alts := [], laidByText := true, laidKinds := [.data], laidTests := true, laidLooks := .later }
def TagTellsUptoCardSaid : Prop := Claim7.holds Tryd.pinned (.plain (OpenSpec.upto tagTellsSpec)) tagTellsUptoCard

/-- THE SECOND FORM's CARD OF 'belfrylaw23.TagFree'. -/
def tagFreeUptoCard : Claim7 := { stood := { row := tagFreeUptoRow, standIns := [], harness := (true, "f658b79e1aa73a4e0ec9b1403f00afa89c8446a3f2dfa31e81141c3996dff4f4"), looks := true }, kinds := [], alts := [], laidByText := true, laidKinds := [.data], laidTests := true, laidLooks := .later }
def TagFreeUptoCardSaid : Prop := Claim7.holds Tryd.pinned (.plain (OpenSpec.upto tagFreeSpec)) tagFreeUptoCard

/-- THE SECOND FORM's CARD OF 'belfrylaw24.FindCarries'. -/
def findCarriesUptoCard : Claim7 := { stood := { row := findCarriesUptoRow, standIns := [], harness := (true, "f658b79e1aa73a4e0ec9b1403f00afa89c8446a3f2dfa31e81141c3996dff4f4"), looks := true }, kinds := [], alts := [], laidByText := true, laidKinds := [.data], laidTests := true, laidLooks := .later }
def FindCarriesUptoCardSaid : Prop := Claim7.holds Tryd.pinned (.plain (OpenSpec.upto findCarriesSpec)) findCarriesUptoCard

/-- THE SECOND FORM's CARD OF 'belfrylaw24.FindChecked'. -/
def findCheckedUptoCard : Claim7 := { stood := { row := findCheckedUptoRow, standIns := [], harness := (true, "f658b79e1aa73a4e0ec9b1403f00afa89c8446a3f2dfa31e81141c3996dff4f4"), looks := true }, kinds := [], alts := [], laidByText := true, laidKinds := [.data], laidTests := true, laidLooks := .later }
def FindCheckedUptoCardSaid : Prop := Claim7.holds Tryd.pinned (.plain (OpenSpec.upto findCheckedSpec)) findCheckedUptoCard

/-- THE SECOND FORM's CARD OF 'belfrylaw24.FindTwice'. -/
def findTwiceUptoCard : Claim7 := { stood := { row := findTwiceUptoRow, standIns := [], harness := (true, "f658b79e1aa73a4e0ec9b1403f00afa89c8446a3f2dfa31e81141c3996dff4f4"), looks := true }, kinds := [], alts := [], laidByText := true, laidKinds := [.data], laidTests := true, laidLooks := .later }
def FindTwiceUptoCardSaid : Prop := Claim7.holds Tryd.pinned (.plain (OpenSpec.upto findTwiceSpec)) findTwiceUptoCard

/-- THE SECOND FORM's CARD OF 'belfrylaw24.FindSearches'. -/
def findSearchesUptoCard : Claim7 := { stood := { row := findSearchesUptoRow, standIns := [], harness := (true, "f658b79e1aa73a4e0ec9b1403f00afa89c8446a3f2dfa31e81141c3996dff4f4"), looks := true }, kinds := [], alts := [], laidByText := true, laidKinds := [.data], laidTests := true, laidLooks := .later }
def FindSearchesUptoCardSaid : Prop := Claim7.holds Tryd.pinned (.plain (OpenSpec.upto findSearchesSpec)) findSearchesUptoCard

/-- THE SECOND FORM's CARD OF 'belfrylaw24.FindWaves'. -/
def findWavesUptoCard : Claim7 := { stood := { row := findWavesUptoRow, standIns := [], harness := (true, "f658b79e1aa73a4e0ec9b1403f00afa89c8446a3f2dfa31e81141c3996dff4f4"), looks := true }, kinds := [], alts := [], laidByText := true, laidKinds := [.data], laidTests := true, laidLooks := .later }
def FindWavesUptoCardSaid : Prop := Claim7.holds Tryd.pinned (.plain (OpenSpec.upto findWavesSpec)) findWavesUptoCard

/-- THE SECOND FORM's CARD OF 'belfrylaw23.TagWithin'. -/
def tagWithinUptoCard : Claim7 := { stood := { row := tagWithinUptoRow, standIns := [], harness := (true, "f658b79e1aa73a4e0ec9b1403f00afa89c8446a3f2dfa31e81141c3996dff4f4"), looks := true }, kinds := [], alts := [], laidByText := true, laidKinds := [.data], laidTests := true, laidLooks := .later }
def TagWithinUptoCardSaid : Prop := Claim7.holds Tryd.pinned (.plain (OpenSpec.upto tagWithinSpec)) tagWithinUptoCard

/-- THE SECOND FORM's CARD OF 'belfrylaw24.FindSamples'. -/
def findSamplesUptoCard : Claim7 := { stood := { row := findSamplesUptoRow, standIns := [], harness := (true, "f658b79e1aa73a4e0ec9b1403f00afa89c8446a3f2dfa31e81141c3996dff4f4"), looks := true }, kinds := [], alts := [], laidByText := true, laidKinds := [.data], laidTests := true, laidLooks := .later }
def FindSamplesUptoCardSaid : Prop := Claim7.holds Tryd.pinned (.plain (OpenSpec.upto findSamplesSpec)) findSamplesUptoCard
end Rows
end Go.Proofs.YteahjgigkbkcdaaDoor
