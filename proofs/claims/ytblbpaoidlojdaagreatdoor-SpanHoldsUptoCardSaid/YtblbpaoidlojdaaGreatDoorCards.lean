/-
  DERIVED. GIVEN WITH THE SEED: THE CARDS: each row of YtblbpaoidlojdaaGreatDoorRows.lean that lists a variable, with what it lists TIED to the program's text (the seventh form; the later family's looks); each row that meets fmt, with fmt's text TOLD by the authors' own Lean function (tested against real Go, not proved from fmt's source: count such statements apart). THE CARD IS WHAT COUNTS. Prove the row's statement (the work); the ties are given (YtblbpaoidlojdaaGreatDoorTie.lean); close each card by the builder's one call (the guide's Derived/Test/ToyasCard.lean, 'card_holds'). Laid BY PROGRAM, IN A SANDBOX (cutbox-door.mjs). By AI agents, Wed Nov 11 2026. No macro, syntax, notation, axiom, sorry.
-/
import Derived.Test.YtblbpaoidlojdaaGreatDoorRows
import GoSem.ClaimSeven
namespace Go.Proofs.YtblbpaoidlojdaaGreatDoor
namespace Rows

/-- THE TIED CARD OF 'girdlelaw06.SpanTight'. -/
def spanTightCard : Claim7 := { stood := { row := spanTightRow, standIns := [], harness := (true, "d7785444eb6ae329d0ad46501daba747b728ec36f6c38141555fcef612f934a2"), looks := false }, kinds := [], alts := [], laidByText := true, laidKinds := [.data, .data, .pinned], laidTests := true, laidLooks := .later }
def SpanTightCardSaid : Prop := Claim7.holds Tryz.pinned (.plain (OpenSpec.ofChange spanTightSpec)) spanTightCard

/-- THE TIED CARD OF 'girdlelaw06.SpanSets'. -/
def spanSetsCard : Claim7 := { stood := { row := spanSetsRow, standIns := [], harness := (true, "d7785444eb6ae329d0ad46501daba747b728ec36f6c38141555fcef612f934a2"), looks := false }, kinds := [], alts := [], laidByText := true, laidKinds := [.data, .data, .pinned], laidTests := true, laidLooks := .later }
def SpanSetsCardSaid : Prop := Claim7.holds Tryz.pinned (.plain (OpenSpec.ofChange spanSetsSpec)) spanSetsCard

/-- THE TIED CARD OF 'girdlelaw06.SpanNests'. -/
def spanNestsCard : Claim7 := { stood := { row := spanNestsRow, standIns := [], harness := (true, "d7785444eb6ae329d0ad46501daba747b728ec36f6c38141555fcef612f934a2"), looks := false }, kinds := [], alts := [], laidByText := true, laidKinds := [.data, .data, .pinned], laidTests := true, laidLooks := .later }
def SpanNestsCardSaid : Prop := Claim7.holds Tryz.pinned (.plain (OpenSpec.ofChange spanNestsSpec)) spanNestsCard

/-- THE TIED CARD OF 'girdlelaw06.SpanNear'. -/
def spanNearCard : Claim7 := { stood := { row := spanNearRow, standIns := [], harness := (true, "d7785444eb6ae329d0ad46501daba747b728ec36f6c38141555fcef612f934a2"), looks := false }, kinds := [], alts := [], laidByText := true, laidKinds := [.data, .data, .pinned], laidTests := true, laidLooks := .later }
def SpanNearCardSaid : Prop := Claim7.holds Tryz.pinned (.plain (OpenSpec.ofChange spanNearSpec)) spanNearCard

/-- THE TIED CARD OF 'girdlelaw06.SpanSizes'. -/
def spanSizesCard : Claim7 := { stood := { row := spanSizesRow, standIns := [], harness := (true, "d7785444eb6ae329d0ad46501daba747b728ec36f6c38141555fcef612f934a2"), looks := false }, kinds := [], alts := [], laidByText := true, laidKinds := [.data, .data, .pinned], laidTests := true, laidLooks := .later }
def SpanSizesCardSaid : Prop := Claim7.holds Tryz.pinned (.plain (OpenSpec.ofChange spanSizesSpec)) spanSizesCard

/-- THE TIED CARD OF 'girdlelaw06.SpanHolds'. -/
def spanHoldsCard : Claim7 := { stood := { row := spanHoldsRow, standIns := [], harness := (true, "d7785444eb6ae329d0ad46501daba747b728ec36f6c38141555fcef612f934a2"), looks := false }, kinds := [], alts := [], laidByText := true, laidKinds := [.data, .data, .pinned], laidTests := true, laidLooks := .later }
def SpanHoldsCardSaid : Prop := Claim7.holds Tryz.pinned (.plain (OpenSpec.ofChange spanHoldsSpec)) spanHoldsCard

/-- THE SECOND FORM's CARD OF 'girdlelaw06.SpanTight'. -/
def spanTightUptoCard : Claim7 := { stood := { row := spanTightUptoRow, standIns := [], harness := (true, "d7785444eb6ae329d0ad46501daba747b728ec36f6c38141555fcef612f934a2"), looks := false }, kinds := [], alts := [], laidByText := true, laidKinds := [.data, .data, .pinned], laidTests := true, laidLooks := .later }
def SpanTightUptoCardSaid : Prop := Claim7.holds Tryz.pinned (.plain (OpenSpec.upto spanTightSpec)) spanTightUptoCard

/-- THE SECOND FORM's CARD OF 'girdlelaw06.SpanSets'. -/
def spanSetsUptoCard : Claim7 := { stood := { row := spanSetsUptoRow, standIns := [], harness := (true, "d7785444eb6ae329d0ad46501daba747b728ec36f6c38141555fcef612f934a2"), looks := false }, kinds := [], alts := [], laidByText := true, laidKinds := [.data, .data, .pinned], laidTests := true, laidLooks := .later }
def SpanSetsUptoCardSaid : Prop := Claim7.holds Tryz.pinned (.plain (OpenSpec.upto spanSetsSpec)) spanSetsUptoCard

/-- THE SECOND FORM's CARD OF 'girdlelaw06.SpanNests'. -/
def spanNestsUptoCard : Claim7 := { stood := { row := spanNestsUptoRow, standIns := [], harness := (true, "d7785444eb6ae329d0ad46501daba747b728ec36f6c38141555fcef612f934a2"), looks := false }, kinds := [], alts := [], laidByText := true, laidKinds := [.data, .data, .pinned], laidTests := true, laidLooks := .later }
def SpanNestsUptoCardSaid : Prop := Claim7.holds Tryz.pinned (.plain (OpenSpec.upto spanNestsSpec)) spanNestsUptoCard

/-- THE SECOND FORM's CARD OF 'girdlelaw06.SpanNear'. -/
def spanNearUptoCard : Claim7 := { stood := { row := spanNearUptoRow, standIns := [], harness := (true, "d7785444eb6ae329d0ad46501daba747b728ec36f6c38141555fcef612f934a2"), looks := false }, kinds := [], alts := [], laidByText := true, laidKinds := [.data, .data, .pinned], laidTests := true, laidLooks := .later }
def SpanNearUptoCardSaid : Prop := Claim7.holds Tryz.pinned (.plain (OpenSpec.upto spanNearSpec)) spanNearUptoCard

/-- THE SECOND FORM's CARD OF 'girdlelaw06.SpanSizes'. -/
def spanSizesUptoCard : Claim7 := { stood := { row := spanSizesUptoRow, standIns := [], harness := (true, "d7785444eb6ae329d0ad46501daba747b728ec36f6c38141555fcef612f934a2"), looks := false }, kinds := [], alts := [], laidByText := true, laidKinds := [.data, .data, .pinned], laidTests := true, laidLooks := .later }
def SpanSizesUptoCardSaid : Prop := Claim7.holds Tryz.pinned (.plain (OpenSpec.upto spanSizesSpec)) spanSizesUptoCard

/-- THE SECOND FORM's CARD OF 'girdlelaw06.SpanHolds'. -/
def spanHoldsUptoCard : Claim7 := { stood := { row := spanHoldsUptoRow, standIns := [], harness := (true, "d7785444eb6ae329d0ad46501daba747b728ec36f6c38141555fcef612f934a2"), looks := false }, kinds := [], alts := [], laidByText := true, laidKinds := [.data, .data, .pinned], laidTests := true, laidLooks := .later }
def SpanHoldsUptoCardSaid : Prop := Claim7.holds Tryz.pinned (.plain (OpenSpec.upto spanHoldsSpec)) spanHoldsUptoCard
end Rows
end Go.Proofs.YtblbpaoidlojdaaGreatDoor
