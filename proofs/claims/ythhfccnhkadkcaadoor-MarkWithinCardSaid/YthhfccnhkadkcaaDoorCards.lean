/-
  DERIVED. GIVEN WITH THE SEED: THE CARDS: each row of YthhfccnhkadkcaaDoorRows.lean that lists a variable, with what it lists TIED to the program's text (the seventh form; the later family's looks); each row that meets fmt, with fmt's text TOLD by the authors' own Lean function (tested against real Go, not proved from fmt's source: count such statements apart). THE CARD IS WHAT COUNTS. Prove the row's statement (the work); the ties are given (YthhfccnhkadkcaaDoorTie.lean); close each card by the builder's one call (the guide's Derived/Test/ToyasCard.lean, 'card_holds'). Laid BY PROGRAM, IN A SANDBOX (cutbox-door.mjs). By AI agents, Wed Nov 11 2026. No macro, syntax, notation, axiom, sorry.
-/
import Derived.Test.YthhfccnhkadkcaaDoorRows
import GoSem.ClaimSeven
namespace Go.Proofs.YthhfccnhkadkcaaDoor
namespace Rows

/-- THE TIED CARD OF 'belfrylaw22.MarkPlays'. -/
def markPlaysCard : Claim7 := { stood := { row := markPlaysRow, standIns := [], harness := (true, "c88e0687c222961115da2a84d0fc17cee095a0dd0289832c0327b0b27169c1bb"), looks := true }, kinds := [], alts := [], laidByText := true, laidKinds := [.data], laidTests := true, laidLooks := .later }
def MarkPlaysCardSaid : Prop := Claim7.holds Tryd.pinned (.plain (OpenSpec.ofChange markPlaysSpec)) markPlaysCard

/-- THE TIED CARD OF 'belfrylaw22.MarkFew'. -/
def markFewCard : Claim7 := { stood := { row := markFewRow, standIns := [], harness := (true, "c88e0687c222961115da2a84d0fc17cee095a0dd0289832c0327b0b27169c1bb"), looks := true }, kinds := [], alts := [], laidByText := true, laidKinds := [.data], laidTests := true, laidLooks := .later }
def MarkFewCardSaid : Prop := Claim7.holds Tryd.pinned (.plain (OpenSpec.ofChange markFewSpec)) markFewCard

/-- THE TIED CARD OF 'belfrylaw22.MarkAgain'. -/
def markAgainCard : Claim7 := { stood := { row := markAgainRow, standIns := [], harness := (true, "c88e0687c222961115da2a84d0fc17cee095a0dd0289832c0327b0b27169c1bb"), looks := true }, kinds := [], alts := [], laidByText := true, laidKinds := [.data], laidTests := true, laidLooks := .later }
def MarkAgainCardSaid : Prop := Claim7.holds Tryd.pinned (.plain (OpenSpec.ofChange markAgainSpec)) markAgainCard

/-- THE TIED CARD OF 'belfrylaw22.MarkOpposed'. -/
def markOpposedCard : Claim7 := { stood := { row := markOpposedRow, standIns := [], harness := (true, "c88e0687c222961115da2a84d0fc17cee095a0dd0289832c0327b0b27169c1bb"), looks := true }, kinds := [], alts := [], laidByText := true, laidKinds := [.data], laidTests := true, laidLooks := .later }
def MarkOpposedCardSaid : Prop := Claim7.holds Tryd.pinned (.plain (OpenSpec.ofChange markOpposedSpec)) markOpposedCard

/-- THE TIED CARD OF 'belfrylaw22.MarkLeast'. -/
def markLeastCard : Claim7 := { stood := { row := markLeastRow, standIns := [], harness := (true, "c88e0687c222961115da2a84d0fc17cee095a0dd0289832c0327b0b27169c1bb"), looks := true }, kinds := [], alts := [], laidByText := true, laidKinds := [.data], laidTests := true, laidLooks := .later }
def MarkLeastCardSaid : Prop := Claim7.holds Tryd.pinned (.plain (OpenSpec.ofChange markLeastSpec)) markLeastCard

/-- THE TIED CARD OF 'belfrylaw07.LoadTakes'. -/
def loadTakesCard : Claim7 := { stood := { row := loadTakesRow, standIns := [], harness := (true, "c88e0687c222961115da2a84d0fc17cee095a0dd0289832c0327b0b27169c1bb"), looks := true }, kinds := [], alts := [], laidByText := true, laidKinds := [.data], laidTests := true, laidLooks := .later }
def LoadTakesCardSaid : Prop := Claim7.holds Tryd.pinned (.plain (OpenSpec.ofChange loadTakesSpec)) loadTakesCard

/-- THE TIED CARD OF 'belfrylaw07.LoadChecks'. -/
def loadChecksCard : Claim7 := { stood := { row := loadChecksRow, standIns := [], harness := (true, "c88e0687c222961115da2a84d0fc17cee095a0dd0289832c0327b0b27169c1bb"), looks := true }, kinds := [], alts := [], laidByText := true, laidKinds := [.data], laidTests := true, laidLooks := .later }
def LoadChecksCardSaid : Prop := Claim7.holds Tryd.pinned (.plain (OpenSpec.ofChange loadChecksSpec)) loadChecksCard

/-- THE TIED CARD OF 'belfrylaw07.LoadPlays'. -/
def loadPlaysCard : Claim7 := { stood := { row := loadPlaysRow, standIns := [], harness := (true, "c88e0687c222961115da2a84d0fc17cee095a0dd0289832c0327b0b27169c1bb"), looks := true }, kinds := [], alts := [], laidByText := true, laidKinds := [.data], laidTests := true, laidLooks := .later }
def LoadPlaysCardSaid : Prop := Claim7.holds Tryd.pinned (.plain (OpenSpec.ofChange loadPlaysSpec)) loadPlaysCard

/-- THE TIED CARD OF 'belfrylaw07.LoadDecides'. -/
def loadDecidesCard : Claim7 := { stood := { row := loadDecidesRow, standIns := [], harness := (true, "c88e0687c222961115da2a84d0fc17cee095a0dd0289832c0327b0b27169c1bb"), looks := true }, kinds := [], alts := [], laidByText := true, laidKinds := [.data], laidTests := true, laidLooks := .later }
def LoadDecidesCardSaid : Prop := Claim7.holds Tryd.pinned (.plain (OpenSpec.ofChange loadDecidesSpec)) loadDecidesCard

/-- THE TIED CARD OF 'belfrylaw07.LoadKeys'. -/
def loadKeysCard : Claim7 := { stood := { row := loadKeysRow, standIns := [], harness := (true, "c88e0687c222961115da2a84d0fc17cee095a0dd0289832c0327b0b27169c1bb"), looks := true }, kinds := [], alts := [], laidByText := true, laidKinds := [.data], laidTests := true, laidLooks := .later }
def LoadKeysCardSaid : Prop := Claim7.holds Tryd.pinned (.plain (OpenSpec.ofChange loadKeysSpec)) loadKeysCard

/-- THE TIED CARD OF 'belfrylaw22.MarkWithin'. -/
def markWithinCard : Claim7 := { stood := { row := markWithinRow, standIns := [], harness := (true, "c88e0687c222961115da2a84d0fc17cee095a0dd0289832c0327b0b27169c1bb"), looks := true }, kinds := [], alts := [], laidByText := true, laidKinds := [.data], laidTests := true, laidLooks := .later }
def MarkWithinCardSaid : Prop := Claim7.holds Tryd.pinned (.plain (OpenSpec.ofChange markWithinSpec)) markWithinCard

/-- THE SECOND FORM's CARD OF 'belfrylaw22.MarkPlays'. -/
def markPlaysUptoCard : Claim7 := { stood := { row := markPlaysUptoRow, standIns := [], harness := (true, "c88e0687c222961115da2a84d0fc17cee095a0dd0289832c0327b0b27169c1bb"), looks := true }, kinds := [], alts := [], laidByText := true, laidKinds := [.data], laidTests := true, laidLooks := .later }
def MarkPlaysUptoCardSaid : Prop := Claim7.holds Tryd.pinned (.plain (OpenSpec.upto markPlaysSpec)) markPlaysUptoCard

/-- THE SECOND FORM's CARD OF 'belfrylaw22.MarkFew'. -/
def markFewUptoCard : Claim7 := { stood := { row := markFewUptoRow, standIns := [], harness := (true, "c88e0687c222961115da2a84d0fc17cee095a0dd0289832c0327b0b27169c1bb"), looks := true }, kinds := [], alts := [], laidByText := true, laidKinds := [.data], laidTests := true, laidLooks := .later }
def MarkFewUptoCardSaid : Prop := Claim7.holds Tryd.pinned (.plain (OpenSpec.upto markFewSpec)) markFewUptoCard

/-- THE SECOND FORM's CARD OF 'belfrylaw22.MarkAgain'. -/
def markAgainUptoCard : Claim7 := { stood := { row := markAgainUptoRow, standIns := [], harness := (true, "c88e0687c222961115da2a84d0fc17cee095a0dd0289832c0327b0b27169c1bb"), looks := true }, kinds := [], alts := [], laidByText := true, laidKinds := [.data], laidTests := true, laidLooks := .later }
def MarkAgainUptoCardSaid : Prop := Claim7.holds Tryd.pinned (.plain (OpenSpec.upto markAgainSpec)) markAgainUptoCard

/-- THE SECOND FORM's CARD OF 'belfrylaw22.MarkOpposed'. -/
def markOpposedUptoCard : Claim7 := { stood := { row := markOpposedUptoRow, standIns := [], harness := (true, "c88e0687c222961115da2a84d0fc17cee095a0dd0289832c0327b0b27169c1bb"), looks := true }, kinds := [], alts := [], laidByText := true, laidKinds := [.data], laidTests := true, laidLooks := .later }
def MarkOpposedUptoCardSaid : Prop := Claim7.holds Tryd.pinned (.plain (OpenSpec.upto markOpposedSpec)) markOpposedUptoCard

/-- THE SECOND FORM's CARD OF 'belfrylaw22.MarkLeast'. -/
def markLeastUptoCard : Claim7 := { stood := { row := markLeastUptoRow, standIns := [], harness := (true, "c88e0687c222961115da2a84d0fc17cee095a0dd0289832c0327b0b27169c1bb"), looks := true }, kinds := [], alts := [], laidByText := true, laidKinds := [.data], laidTests := true, laidLooks := .later }
def MarkLeastUptoCardSaid : Prop := Claim7.holds Tryd.pinned (.plain (OpenSpec.upto markLeastSpec)) markLeastUptoCard

/-- THE SECOND FORM's CARD OF 'belfrylaw07.LoadTakes'. -/
def loadTakesUptoCard : Claim7 := { stood := { row := loadTakesUptoRow, standIns := [], harness := (true, "c88e0687c222961115da2a84d0fc17cee095a0dd0289832c0327b0b27169c1bb"), looks := true }, kinds := [], alts := [], laidByText := true, laidKinds := [.data], laidTests := true, laidLooks := .later }
def LoadTakesUptoCardSaid : Prop := Claim7.holds Tryd.pinned (.plain (OpenSpec.upto loadTakesSpec)) loadTakesUptoCard

/-- THE SECOND FORM's CARD OF 'belfrylaw07.LoadChecks'. -/
def loadChecksUptoCard : Claim7 := { stood := { row := loadChecksUptoRow, standIns := [], harness := (true, "c88e0687c222961115da2a84d0fc17cee095a0dd0289832c0327b0b27169c1bb"), looks := true }, kinds := [], alts := [], laidByText := true, laidKinds := [.data], laidTests := true, laidLooks := .later }
def LoadChecksUptoCardSaid : Prop := Claim7.holds Tryd.pinned (.plain (OpenSpec.upto loadChecksSpec)) loadChecksUptoCard

/-- THE SECOND FORM's CARD OF 'belfrylaw07.LoadPlays'. -/
def loadPlaysUptoCard : Claim7 := { stood := { row := loadPlaysUptoRow, standIns := [], harness := (true, "c88e0687c222961115da2a84d0fc17cee095a0dd0289832c0327b0b27169c1bb"), looks := true }, kinds := [], alts := [], laidByText := true, laidKinds := [.data], laidTests := true, laidLooks := .later }
def LoadPlaysUptoCardSaid : Prop := Claim7.holds Tryd.pinned (.plain (OpenSpec.upto loadPlaysSpec)) loadPlaysUptoCard

/-- THE SECOND FORM's CARD OF 'belfrylaw07.LoadDecides'. -/
def loadDecidesUptoCard : Claim7 := { stood := { row := loadDecidesUptoRow, standIns := [], harness := (true, "c88e0687c222961115da2a84d0fc17cee095a0dd0289832c0327b0b27169c1bb"), looks := true }, kinds := [], alts := [], laidByText := true, laidKinds := [.data], laidTests := true, laidLooks := .later }
def LoadDecidesUptoCardSaid : Prop := Claim7.holds Tryd.pinned (.plain (OpenSpec.upto loadDecidesSpec)) loadDecidesUptoCard

/-- THE SECOND FORM's CARD OF 'belfrylaw07.LoadKeys'. -/
def loadKeysUptoCard : Claim7 := { stood := { row := loadKeysUptoRow, standIns := [], harness := (true, "c88e0687c222961115da2a84d0fc17cee095a0dd0289832c0327b0b27169c1bb"), looks := true }, kinds := [], alts := [], laidByText := true, laidKinds := [.data], laidTests := true, laidLooks := .later }
def LoadKeysUptoCardSaid : Prop := Claim7.holds Tryd.pinned (.plain (OpenSpec.upto loadKeysSpec)) loadKeysUptoCard

/-- THE SECOND FORM's CARD OF 'belfrylaw22.MarkWithin'. -/
def markWithinUptoCard : Claim7 := { stood := { row := markWithinUptoRow, standIns := [], harness := (true, "c88e0687c222961115da2a84d0fc17cee095a0dd0289832c0327b0b27169c1bb"), looks := true }, kinds := [], alts := [], laidByText := true, laidKinds := [.data], laidTests := true, laidLooks := .later }
def MarkWithinUptoCardSaid : Prop := Claim7.holds Tryd.pinned (.plain (OpenSpec.upto markWithinSpec)) markWithinUptoCard
end Rows
end Go.Proofs.YthhfccnhkadkcaaDoor
