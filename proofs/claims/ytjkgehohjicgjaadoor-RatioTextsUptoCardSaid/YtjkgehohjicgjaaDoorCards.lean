/-
  DERIVED. GIVEN WITH THE SEED: THE CARDS: each row of YtjkgehohjicgjaaDoorRows.lean that lists a variable, with what it lists TIED to the program's text (the seventh form; the later family's looks); each row that meets fmt, with fmt's text TOLD by the authors' own Lean function (tested against real Go, not proved from fmt's source: count such statements apart). THE CARD IS WHAT COUNTS. Prove the row's statement (the work); the ties are given (YtjkgehohjicgjaaDoorTie.lean); close each card by the builder's one call (the guide's Derived/Test/ToyasCard.lean, 'card_holds'). Laid BY PROGRAM, IN A SANDBOX (cutbox-door.mjs). By AI agents, Wed Nov 11 2026. No macro, syntax, notation, axiom, sorry.
-/
import Derived.Test.YtjkgehohjicgjaaDoorRows
import GoSem.ClaimSeven
namespace Go.Proofs.YtjkgehohjicgjaaDoor
namespace Rows

/-- THE TIED CARD OF 'girdlelaw04.RatioBetween'. -/
def ratioBetweenCard : Claim7 := { stood := { row := ratioBetweenRow, standIns := [], harness := (true, "b7e367290a1196f5ba2b8cc1b14472c69e0dce07f9e3cfbbd20a82d7b37ba078"), looks := false }, kinds := [], alts := [], laidByText := true, laidKinds := [.data, .pinned], laidTests := true, laidLooks := .later }
def RatioBetweenCardSaid : Prop := Claim7.holds Tryd.pinned (.plain (OpenSpec.ofChange ratioBetweenSpec)) ratioBetweenCard

/-- THE TIED CARD OF 'girdlelaw04.RatioMakes'. -/
def ratioMakesCard : Claim7 := { stood := { row := ratioMakesRow, standIns := [], harness := (true, "b7e367290a1196f5ba2b8cc1b14472c69e0dce07f9e3cfbbd20a82d7b37ba078"), looks := false }, kinds := [], alts := [], laidByText := true, laidKinds := [.data, .pinned], laidTests := true, laidLooks := .later }
def RatioMakesCardSaid : Prop := Claim7.holds Tryd.pinned (.plain (OpenSpec.ofChange ratioMakesSpec)) ratioMakesCard

/-- THE TIED CARD OF 'girdlelaw04.RatioField'. -/
def ratioFieldCard : Claim7 := { stood := { row := ratioFieldRow, standIns := [], harness := (true, "b7e367290a1196f5ba2b8cc1b14472c69e0dce07f9e3cfbbd20a82d7b37ba078"), looks := false }, kinds := [], alts := [], laidByText := true, laidKinds := [.data, .pinned], laidTests := true, laidLooks := .later }
def RatioFieldCardSaid : Prop := Claim7.holds Tryd.pinned (.plain (OpenSpec.ofChange ratioFieldSpec)) ratioFieldCard

/-- THE TIED CARD OF 'girdlelaw04.RatioOrders'. -/
def ratioOrdersCard : Claim7 := { stood := { row := ratioOrdersRow, standIns := [], harness := (true, "b7e367290a1196f5ba2b8cc1b14472c69e0dce07f9e3cfbbd20a82d7b37ba078"), looks := false }, kinds := [], alts := [], laidByText := true, laidKinds := [.data, .pinned], laidTests := true, laidLooks := .later }
def RatioOrdersCardSaid : Prop := Claim7.holds Tryd.pinned (.plain (OpenSpec.ofChange ratioOrdersSpec)) ratioOrdersCard

/-- THE TIED CARD OF 'girdlelaw04.RatioPoints'. -/
def ratioPointsCard : Claim7 := { stood := { row := ratioPointsRow, standIns := [], harness := (true, "b7e367290a1196f5ba2b8cc1b14472c69e0dce07f9e3cfbbd20a82d7b37ba078"), looks := false }, kinds := [], alts := [], laidByText := true, laidKinds := [.data, .pinned], laidTests := true, laidLooks := .later }
def RatioPointsCardSaid : Prop := Claim7.holds Tryd.pinned (.plain (OpenSpec.ofChange ratioPointsSpec)) ratioPointsCard

/-- THE TIED CARD OF 'girdlelaw04.RatioParses'. -/
def ratioParsesCard : Claim7 := { stood := { row := ratioParsesRow, standIns := [], harness := (true, "b7e367290a1196f5ba2b8cc1b14472c69e0dce07f9e3cfbbd20a82d7b37ba078"), looks := false }, kinds := [], alts := [], laidByText := true, laidKinds := [.data, .pinned], laidTests := true, laidLooks := .later }
def RatioParsesCardSaid : Prop := Claim7.holds Tryd.pinned (.plain (OpenSpec.ofChange ratioParsesSpec)) ratioParsesCard

/-- THE TIED CARD OF 'girdlelaw04.RatioRounds'. -/
def ratioRoundsCard : Claim7 := { stood := { row := ratioRoundsRow, standIns := [], harness := (true, "b7e367290a1196f5ba2b8cc1b14472c69e0dce07f9e3cfbbd20a82d7b37ba078"), looks := false }, kinds := [], alts := [], laidByText := true, laidKinds := [.data, .pinned], laidTests := true, laidLooks := .later }
def RatioRoundsCardSaid : Prop := Claim7.holds Tryd.pinned (.plain (OpenSpec.ofChange ratioRoundsSpec)) ratioRoundsCard

/-- THE TIED CARD OF 'girdlelaw04.RatioTexts'. -/
def ratioTextsCard : Claim7 := { stood := { row := ratioTextsRow, standIns := [], harness := (true, "b7e367290a1196f5ba2b8cc1b14472c69e0dce07f9e3cfbbd20a82d7b37ba078"), looks := false }, kinds := [], alts := [], laidByText := true, laidKinds := [.data, .pinned], laidTests := true, laidLooks := .later }
def RatioTextsCardSaid : Prop := Claim7.holds Tryd.pinned (.plain (OpenSpec.ofChange ratioTextsSpec)) ratioTextsCard

/-- THE SECOND FORM's CARD OF 'girdlelaw04.RatioBetween'. -/
def ratioBetweenUptoCard : Claim7 := { stood := { row := ratioBetweenUptoRow, standIns := [], harness := (true, "b7e367290a1196f5ba2b8cc1b14472c69e0dce07f9e3cfbbd20a82d7b37ba078"), looks := false }, kinds := [], alts := [], laidByText := true, laidKinds := [.data, .pinned], laidTests := true, laidLooks := .later }
def RatioBetweenUptoCardSaid : Prop := Claim7.holds Tryd.pinned (.plain (OpenSpec.upto ratioBetweenSpec)) ratioBetweenUptoCard

/-- THE SECOND FORM's CARD OF 'girdlelaw04.RatioMakes'. -/
def ratioMakesUptoCard : Claim7 := { stood := { row := ratioMakesUptoRow, standIns := [], harness := (true, "b7e367290a1196f5ba2b8cc1b14472c69e0dce07f9e3cfbbd20a82d7b37ba078"), looks := false }, kinds := [], alts := [], laidByText := true, laidKinds := [.data, .pinned], laidTests := true, laidLooks := .later }
def RatioMakesUptoCardSaid : Prop := Claim7.holds Tryd.pinned (.plain (OpenSpec.upto ratioMakesSpec)) ratioMakesUptoCard

/-- THE SECOND FORM's CARD OF 'girdlelaw04.RatioField'. -/
def ratioFieldUptoCard : Claim7 := { stood := { row := ratioFieldUptoRow, standIns := [], harness := (true, "b7e367290a1196f5ba2b8cc1b14472c69e0dce07f9e3cfbbd20a82d7b37ba078"), looks := false }, kinds := [], alts := [], laidByText := true, laidKinds := [.data, .pinned], laidTests := true, laidLooks := .later }
def RatioFieldUptoCardSaid : Prop := Claim7.holds Tryd.pinned (.plain (OpenSpec.upto ratioFieldSpec)) ratioFieldUptoCard

/-- THE SECOND FORM's CARD OF 'girdlelaw04.RatioOrders'. -/
def ratioOrdersUptoCard : Claim7 := { stood := { row := ratioOrdersUptoRow, standIns := [], harness := (true, "b7e367290a1196f5ba2b8cc1b14472c69e0dce07f9e3cfbbd20a82d7b37ba078"), looks := false }, kinds := [], alts := [], laidByText := true, laidKinds := [.data, .pinned], laidTests := true, laidLooks := .later }
def RatioOrdersUptoCardSaid : Prop := Claim7.holds Tryd.pinned (.plain (OpenSpec.upto ratioOrdersSpec)) ratioOrdersUptoCard

/-- THE SECOND FORM's CARD OF 'girdlelaw04.RatioPoints'. -/
def ratioPointsUptoCard : Claim7 := { stood := { row := ratioPointsUptoRow, standIns := [], harness := (true, "b7e367290a1196f5ba2b8cc1b14472c69e0dce07f9e3cfbbd20a82d7b37ba078"), looks := false }, kinds := [], alts := [], laidByText := true, laidKinds := [.data, .pinned], laidTests := true, laidLooks := .later }
def RatioPointsUptoCardSaid : Prop := Claim7.holds Tryd.pinned (.plain (OpenSpec.upto ratioPointsSpec)) ratioPointsUptoCard

/-- THE SECOND FORM's CARD OF 'girdlelaw04.RatioParses'. -/
def ratioParsesUptoCard : Claim7 := { stood := { row := ratioParsesUptoRow, standIns := [], harness := (true, "b7e367290a1196f5ba2b8cc1b14472c69e0dce07f9e3cfbbd20a82d7b37ba078"), looks := false }, kinds := [], alts := [], laidByText := true, laidKinds := [.data, .pinned], laidTests := true, laidLooks := .later }
def RatioParsesUptoCardSaid : Prop := Claim7.holds Tryd.pinned (.plain (OpenSpec.upto ratioParsesSpec)) ratioParsesUptoCard

/-- THE SECOND FORM's CARD OF 'girdlelaw04.RatioRounds'. -/
def ratioRoundsUptoCard : Claim7 := { stood := { row := ratioRoundsUptoRow, standIns := [], harness := (true, "b7e367290a1196f5ba2b8cc1b14472c69e0dce07f9e3cfbbd20a82d7b37ba078"), looks := false }, kinds := [], alts := [], laidByText := true, laidKinds := [.data, .pinned], laidTests := true, laidLooks := .later }
def RatioRoundsUptoCardSaid : Prop := Claim7.holds Tryd.pinned (.plain (OpenSpec.upto ratioRoundsSpec)) ratioRoundsUptoCard

/-- THE SECOND FORM's CARD OF 'girdlelaw04.RatioTexts'. -/
def ratioTextsUptoCard : Claim7 := { stood := { row := ratioTextsUptoRow, standIns := [], harness := (true, "b7e367290a1196f5ba2b8cc1b14472c69e0dce07f9e3cfbbd20a82d7b37ba078"), looks := false }, kinds := [], alts := [], laidByText := true, laidKinds := [.data, .pinned], laidTests := true, laidLooks := .later }
def RatioTextsUptoCardSaid : Prop := Claim7.holds Tryd.pinned (.plain (OpenSpec.upto ratioTextsSpec)) ratioTextsUptoCard
end Rows
end Go.Proofs.YtjkgehohjicgjaaDoor
