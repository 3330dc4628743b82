/-
  DERIVED. GIVEN WITH THE SEED: THE CARDS: each row of YtnmilgfejafkfaaDoorRows.lean that lists a variable, with what it lists TIED to the program's text (the seventh form; the later family's looks); each row that meets fmt, with fmt's text TOLD by the authors' own Lean function (tested against real Go, not proved from fmt's source: count such statements apart). THE CARD IS WHAT COUNTS. Prove the row's statement (the work); the ties are given (YtnmilgfejafkfaaDoorTie.lean); close each card by the builder's one call (the guide's Derived/Test/ToyasCard.lean, 'card_holds'). Laid BY PROGRAM, IN A SANDBOX (cutbox-door.mjs). By AI agents, Wed Nov 11 2026. No macro, syntax, notation, axiom, sorry.
-/
import Derived.Test.YtnmilgfejafkfaaDoorRows
import GoSem.ClaimSeven
namespace Go.Proofs.YtnmilgfejafkfaaDoor
namespace Rows

/-- THE TIED CARD OF 'girdlelaw03.IntegerDivs'. -/
def integerDivsCard : Claim7 := { stood := { row := integerDivsRow, standIns := [], harness := (true, "3175a91f7daa9c84f6a7ee0d8802432b4737dddcfa96b9ef472e55c0bf9b49a3"), looks := false }, kinds := [], alts := [], laidByText := true, laidKinds := [.data, .data, .pinned], laidTests := true, laidLooks := .later }
def IntegerDivsCardSaid : Prop := Claim7.holds Tryd.pinned (.plain (OpenSpec.ofChange integerDivsSpec)) integerDivsCard

/-- THE TIED CARD OF 'girdlelaw03.IntegerShifts'. -/
def integerShiftsCard : Claim7 := { stood := { row := integerShiftsRow, standIns := [], harness := (true, "3175a91f7daa9c84f6a7ee0d8802432b4737dddcfa96b9ef472e55c0bf9b49a3"), looks := false }, kinds := [], alts := [], laidByText := true, laidKinds := [.data, .data, .pinned], laidTests := true, laidLooks := .later }
def IntegerShiftsCardSaid : Prop := Claim7.holds Tryd.pinned (.plain (OpenSpec.ofChange integerShiftsSpec)) integerShiftsCard

/-- THE TIED CARD OF 'girdlelaw03.IntegerOrders'. -/
def integerOrdersCard : Claim7 := { stood := { row := integerOrdersRow, standIns := [], harness := (true, "3175a91f7daa9c84f6a7ee0d8802432b4737dddcfa96b9ef472e55c0bf9b49a3"), looks := false }, kinds := [], alts := [], laidByText := true, laidKinds := [.data, .data, .pinned], laidTests := true, laidLooks := .later }
def IntegerOrdersCardSaid : Prop := Claim7.holds Tryd.pinned (.plain (OpenSpec.ofChange integerOrdersSpec)) integerOrdersCard

/-- THE TIED CARD OF 'girdlelaw03.IntegerTexts'. -/
def integerTextsCard : Claim7 := { stood := { row := integerTextsRow, standIns := [], harness := (true, "3175a91f7daa9c84f6a7ee0d8802432b4737dddcfa96b9ef472e55c0bf9b49a3"), looks := false }, kinds := [], alts := [], laidByText := true, laidKinds := [.data, .data, .pinned], laidTests := true, laidLooks := .later }
def IntegerTextsCardSaid : Prop := Claim7.holds Tryd.pinned (.plain (OpenSpec.ofChange integerTextsSpec)) integerTextsCard

/-- THE TIED CARD OF 'girdlelaw03.IntegerAdds'. -/
def integerAddsCard : Claim7 := { stood := { row := integerAddsRow, standIns := [], harness := (true, "3175a91f7daa9c84f6a7ee0d8802432b4737dddcfa96b9ef472e55c0bf9b49a3"), looks := false }, kinds := [], alts := [], laidByText := true, laidKinds := [.data, .data, .pinned], laidTests := true, laidLooks := .later }
def IntegerAddsCardSaid : Prop := Claim7.holds Tryd.pinned (.plain (OpenSpec.ofChange integerAddsSpec)) integerAddsCard

/-- THE TIED CARD OF 'girdlelaw03.IntegerMuls'. -/
def integerMulsCard : Claim7 := { stood := { row := integerMulsRow, standIns := [], harness := (true, "3175a91f7daa9c84f6a7ee0d8802432b4737dddcfa96b9ef472e55c0bf9b49a3"), looks := false }, kinds := [], alts := [], laidByText := true, laidKinds := [.data, .data, .pinned], laidTests := true, laidLooks := .later }
def IntegerMulsCardSaid : Prop := Claim7.holds Tryd.pinned (.plain (OpenSpec.ofChange integerMulsSpec)) integerMulsCard

/-- THE SECOND FORM's CARD OF 'girdlelaw03.IntegerDivs'. -/
def integerDivsUptoCard : Claim7 := { stood := { row := integerDivsUptoRow, standIns := [], harness := (true, "3175a91f7daa9c84f6a7ee0d8802432b4737dddcfa96b9ef472e55c0bf9b49a3"), looks := false }, kinds := [], alts := [], laidByText := true, laidKinds := [.data, .data, .pinned], laidTests := true, laidLooks := .later }
def IntegerDivsUptoCardSaid : Prop := Claim7.holds Tryd.pinned (.plain (OpenSpec.upto integerDivsSpec)) integerDivsUptoCard

/-- THE SECOND FORM's CARD OF 'girdlelaw03.IntegerShifts'. -/
def integerShiftsUptoCard : Claim7 := { stood := { row := integerShiftsUptoRow, standIns := [], harness := (true, "3175a91f7daa9c84f6a7ee0d8802432b4737dddcfa96b9ef472e55c0bf9b49a3"), looks := false }, kinds := [], alts := [], laidByText := true, laidKinds := [.data, .data, .pinned], laidTests := true, laidLooks := .later }
def IntegerShiftsUptoCardSaid : Prop := Claim7.holds Tryd.pinned (.plain (OpenSpec.upto integerShiftsSpec)) integerShiftsUptoCard

/-- THE SECOND FORM's CARD OF 'girdlelaw03.IntegerOrders'. -/
def integerOrdersUptoCard : Claim7 := { stood := { row := integerOrdersUptoRow, standIns := [], harness := (true, "3175a91f7daa9c84f6a7ee0d8802432b4737dddcfa96b9ef472e55c0bf9b49a3"), looks := false }, kinds := [], alts := [], laidByText := true, laidKinds := [.data, .data, .pinned], laidTests := true, laidLooks := .later }
def IntegerOrdersUptoCardSaid : Prop := Claim7.holds Tryd.pinned (.plain (OpenSpec.upto integerOrdersSpec)) integerOrdersUptoCard

/-- THE SECOND FORM's CARD OF 'girdlelaw03.IntegerTexts'. -/
def integerTextsUptoCard : Claim7 := { stood := { row := integerTextsUptoRow, standIns := [], harness := (true, "3175a91f7daa9c84f6a7ee0d8802432b4737dddcfa96b9ef472e55c0bf9b49a3"), looks := false }, kinds := [], alts := [], laidByText := true, laidKinds := [.data, .data, .pinned], laidTests := true, laidLooks := .later }
def IntegerTextsUptoCardSaid : Prop := Claim7.holds Tryd.pinned (.plain (OpenSpec.upto integerTextsSpec)) integerTextsUptoCard

/-- THE SECOND FORM's CARD OF 'girdlelaw03.IntegerAdds'. -/
def integerAddsUptoCard : Claim7 := { stood := { row := integerAddsUptoRow, standIns := [], harness := (true, "3175a91f7daa9c84f6a7ee0d8802432b4737dddcfa96b9ef472e55c0bf9b49a3"), looks := false }, kinds := [], alts := [], laidByText := true, laidKinds := [.data, .data, .pinned], laidTests := true, laidLooks := .later }
def IntegerAddsUptoCardSaid : Prop := Claim7.holds Tryd.pinned (.plain (OpenSpec.upto integerAddsSpec)) integerAddsUptoCard

/-- THE SECOND FORM's CARD OF 'girdlelaw03.IntegerMuls'. -/
def integerMulsUptoCard : Claim7 := { stood := { row := integerMulsUptoRow, standIns := [], harness := (true, "3175a91f7daa9c84f6a7ee0d8802432b4737dddcfa96b9ef472e55c0bf9b49a3"), looks := false }, kinds := [], alts := [], laidByText := true, laidKinds := [.data, .data, .pinned], laidTests := true, laidLooks := .later }
def IntegerMulsUptoCardSaid : Prop := Claim7.holds Tryd.pinned (.plain (OpenSpec.upto integerMulsSpec)) integerMulsUptoCard
end Rows
end Go.Proofs.YtnmilgfejafkfaaDoor
