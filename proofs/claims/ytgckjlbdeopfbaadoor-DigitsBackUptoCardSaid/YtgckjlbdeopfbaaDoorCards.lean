/-
  DERIVED. GIVEN WITH THE SEED: THE CARDS: each row of YtgckjlbdeopfbaaDoorRows.lean that lists a variable, with what it lists TIED to the program's text (the seventh form; the later family's looks); each row that meets fmt, with fmt's text TOLD by the authors' own Lean function (tested against real Go, not proved from fmt's source: count such statements apart). THE CARD IS WHAT COUNTS. Prove the row's statement (the work); the ties are given (YtgckjlbdeopfbaaDoorTie.lean); close each card by the builder's one call (the guide's Derived/Test/ToyasCard.lean, 'card_holds'). Laid BY PROGRAM, IN A SANDBOX (cutbox-door.mjs). By AI agents, Wed Nov 11 2026. No macro, syntax, notation, axiom, sorry.
-/
import Derived.Test.YtgckjlbdeopfbaaDoorRows
import GoSem.ClaimSeven
namespace Go.Proofs.YtgckjlbdeopfbaaDoor
namespace Rows

/-- THE TIED CARD OF 'girdlelaw02.DigitsParses'. -/
def digitsParsesCard : Claim7 := { stood := { row := digitsParsesRow, standIns := [], harness := (true, "182547033407fe27daa977b96aa03014c6ef7c08bce768481eb3f9c7eb96441e"), looks := false }, kinds := [], alts := [], laidByText := true, laidKinds := [.data, .pinned], laidTests := true, laidLooks := .later }
def DigitsParsesCardSaid : Prop := Claim7.holds Tryd.pinned (.plain (OpenSpec.ofChange digitsParsesSpec)) digitsParsesCard

/-- THE TIED CARD OF 'girdlelaw02.DigitsGcd'. -/
def digitsGcdCard : Claim7 := { stood := { row := digitsGcdRow, standIns := [], harness := (true, "182547033407fe27daa977b96aa03014c6ef7c08bce768481eb3f9c7eb96441e"), looks := false }, kinds := [], alts := [], laidByText := true, laidKinds := [.data, .pinned], laidTests := true, laidLooks := .later }
def DigitsGcdCardSaid : Prop := Claim7.holds Tryd.pinned (.plain (OpenSpec.ofChange digitsGcdSpec)) digitsGcdCard

/-- THE TIED CARD OF 'girdlelaw02.DigitsPlaces'. -/
def digitsPlacesCard : Claim7 := { stood := { row := digitsPlacesRow, standIns := [], harness := (true, "182547033407fe27daa977b96aa03014c6ef7c08bce768481eb3f9c7eb96441e"), looks := false }, kinds := [], alts := [], laidByText := true, laidKinds := [.data, .pinned], laidTests := true, laidLooks := .later }
def DigitsPlacesCardSaid : Prop := Claim7.holds Tryd.pinned (.plain (OpenSpec.ofChange digitsPlacesSpec)) digitsPlacesCard

/-- THE TIED CARD OF 'girdlelaw02.DigitsTens'. -/
def digitsTensCard : Claim7 := { stood := { row := digitsTensRow, standIns := [], harness := (true, "182547033407fe27daa977b96aa03014c6ef7c08bce768481eb3f9c7eb96441e"), looks := false }, kinds := [], alts := [], laidByText := true, laidKinds := [.data, .pinned], laidTests := true, laidLooks := .later }
def DigitsTensCardSaid : Prop := Claim7.holds Tryd.pinned (.plain (OpenSpec.ofChange digitsTensSpec)) digitsTensCard

/-- THE TIED CARD OF 'girdlelaw02.DigitsBack'. -/
def digitsBackCard : Claim7 := { stood := { row := digitsBackRow, standIns := [], harness := (true, "182547033407fe27daa977b96aa03014c6ef7c08bce768481eb3f9c7eb96441e"), looks := false }, kinds := [], alts := [], laidByText := true, laidKinds := [.data, .pinned], laidTests := true, laidLooks := .later }
def DigitsBackCardSaid : Prop := Claim7.holds Tryd.pinned (.plain (OpenSpec.ofChange digitsBackSpec)) digitsBackCard

/-- THE TIED CARD OF 'girdlelaw02.DigitsLong'. -/
def digitsLongCard : Claim7 := { stood := { row := digitsLongRow, standIns := [], harness := (true, "182547033407fe27daa977b96aa03014c6ef7c08bce768481eb3f9c7eb96441e"), looks := false }, kinds := [], alts := [], laidByText := true, laidKinds := [.data, .pinned], laidTests := true, laidLooks := .later }
def DigitsLongCardSaid : Prop := Claim7.holds Tryd.pinned (.plain (OpenSpec.ofChange digitsLongSpec)) digitsLongCard

/-- THE SECOND FORM's CARD OF 'girdlelaw02.DigitsParses'. -/
def digitsParsesUptoCard : Claim7 := { stood := { row := digitsParsesUptoRow, standIns := [], harness := (true, "182547033407fe27daa977b96aa03014c6ef7c08bce768481eb3f9c7eb96441e"), looks := false }, kinds := [], alts := [], laidByText := true, laidKinds := [.data, .pinned], laidTests := true, laidLooks := .later }
def DigitsParsesUptoCardSaid : Prop := Claim7.holds Tryd.pinned (.plain (OpenSpec.upto digitsParsesSpec)) digitsParsesUptoCard

/-- THE SECOND FORM's CARD OF 'girdlelaw02.DigitsGcd'. -/
def digitsGcdUptoCard : Claim7 := { stood := { row := digitsGcdUptoRow, standIns := [], harness := (true, "182547033407fe27daa977b96aa03014c6ef7c08bce768481eb3f9c7eb96441e"), looks := false }, kinds := [], alts := [], laidByText := true, laidKinds := [.data, .pinned], laidTests := true, laidLooks := .later }
def DigitsGcdUptoCardSaid : Prop := Claim7.holds Tryd.pinned (.plain (OpenSpec.upto digitsGcdSpec)) digitsGcdUptoCard

/-- THE SECOND FORM's CARD OF 'girdlelaw02.DigitsPlaces'. -/
def digitsPlacesUptoCard : Claim7 := { stood := { row := digitsPlacesUptoRow, standIns := [], harness := (true, "182547033407fe27daa977b96aa03014c6ef7c08bce768481eb3f9c7eb96441e"), looks := false }, kinds := [], alts := [], laidByText := true, laidKinds := [.data, .pinned], laidTests := true, laidLooks := .later }
def DigitsPlacesUptoCardSaid : Prop := Claim7.holds Tryd.pinned (.plain (OpenSpec.upto digitsPlacesSpec)) digitsPlacesUptoCard

/-- THE SECOND FORM's CARD OF 'girdlelaw02.DigitsTens'. -/
def digitsTensUptoCard : Claim7 := { stood := { row := digitsTensUptoRow, standIns := [], harness := (true, "182547033407fe27daa977b96aa03014c6ef7c08bce768481eb3f9c7eb96441e"), looks := false }, kinds := [], alts := [], laidByText := true, laidKinds := [.data, .pinned], laidTests := true, laidLooks := .later }
def DigitsTensUptoCardSaid : Prop := Claim7.holds Tryd.pinned (.plain (OpenSpec.upto digitsTensSpec)) digitsTensUptoCard

/-- THE SECOND FORM's CARD OF 'girdlelaw02.DigitsBack'. -/
def digitsBackUptoCard : Claim7 := { stood := { row := digitsBackUptoRow, standIns := [], harness := (true, "182547033407fe27daa977b96aa03014c6ef7c08bce768481eb3f9c7eb96441e"), looks := false }, kinds := [], alts := [], laidByText := true, laidKinds := [.data, .pinned], laidTests := true, laidLooks := .later }
def DigitsBackUptoCardSaid : Prop := Claim7.holds Tryd.pinned (.plain (OpenSpec.upto digitsBackSpec)) digitsBackUptoCard

/-- THE SECOND FORM's CARD OF 'girdlelaw02.DigitsLong'. -/
def digitsLongUptoCard : Claim7 := { stood := { row := digitsLongUptoRow, standIns := [], harness := (true, "182547033407fe27daa977b96aa03014c6ef7c08bce768481eb3f9c7eb96441e"), looks := false }, kinds := [], alts := [], laidByText := true, laidKinds := [.data, .pinned], laidTests := true, laidLooks := .later }
def DigitsLongUptoCardSaid : Prop := Claim7.holds Tryd.pinned (.plain (OpenSpec.upto digitsLongSpec)) digitsLongUptoCard
end Rows
end Go.Proofs.YtgckjlbdeopfbaaDoor
