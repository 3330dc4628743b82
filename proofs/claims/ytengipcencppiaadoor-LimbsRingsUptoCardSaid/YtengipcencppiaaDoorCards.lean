/-
  DERIVED. GIVEN WITH THE SEED: THE CARDS: each row of YtengipcencppiaaDoorRows.lean that lists a variable, with what it lists TIED to the program's text (the seventh form; the later family's looks); each row that meets fmt, with fmt's text TOLD by the authors' own Lean function (tested against real Go, not proved from fmt's source: count such statements apart). THE CARD IS WHAT COUNTS. Prove the row's statement (the work); the ties are given (YtengipcencppiaaDoorTie.lean); close each card by the builder's one call (the guide's Derived/Test/ToyasCard.lean, 'card_holds'). Laid BY PROGRAM, IN A SANDBOX (cutbox-door.mjs). By AI agents, Wed Nov 11 2026. No macro, syntax, notation, axiom, sorry.
-/
import Derived.Test.YtengipcencppiaaDoorRows
import GoSem.ClaimSeven
namespace Go.Proofs.YtengipcencppiaaDoor
namespace Rows

/-- THE TIED CARD OF 'girdlelaw01.LimbsAdds'. -/
def limbsAddsCard : Claim7 := { stood := { row := limbsAddsRow, standIns := [], harness := (true, "d628412aca8b9337f5aa70877a78836ff04883c66d9c12acb44909557e432333"), looks := false }, kinds := [], alts := [], laidByText := true, laidKinds := [.data], laidTests := true, laidLooks := .later }
def LimbsAddsCardSaid : Prop := Claim7.holds Tryd.pinned (.plain (OpenSpec.ofChange limbsAddsSpec)) limbsAddsCard

/-- THE TIED CARD OF 'girdlelaw01.LimbsMuls'. -/
def limbsMulsCard : Claim7 := { stood := { row := limbsMulsRow, standIns := [], harness := (true, "d628412aca8b9337f5aa70877a78836ff04883c66d9c12acb44909557e432333"), looks := false }, kinds := [], alts := [], laidByText := true, laidKinds := [.data], laidTests := true, laidLooks := .later }
def LimbsMulsCardSaid : Prop := Claim7.holds Tryd.pinned (.plain (OpenSpec.ofChange limbsMulsSpec)) limbsMulsCard

/-- THE TIED CARD OF 'girdlelaw01.LimbsDivs'. -/
def limbsDivsCard : Claim7 := { stood := { row := limbsDivsRow, standIns := [], harness := (true, "d628412aca8b9337f5aa70877a78836ff04883c66d9c12acb44909557e432333"), looks := false }, kinds := [], alts := [], laidByText := true, laidKinds := [.data], laidTests := true, laidLooks := .later }
def LimbsDivsCardSaid : Prop := Claim7.holds Tryd.pinned (.plain (OpenSpec.ofChange limbsDivsSpec)) limbsDivsCard

/-- THE TIED CARD OF 'girdlelaw01.LimbsShifts'. -/
def limbsShiftsCard : Claim7 := { stood := { row := limbsShiftsRow, standIns := [], harness := (true, "d628412aca8b9337f5aa70877a78836ff04883c66d9c12acb44909557e432333"), looks := false }, kinds := [], alts := [], laidByText := true, laidKinds := [.data], laidTests := true, laidLooks := .later }
def LimbsShiftsCardSaid : Prop := Claim7.holds Tryd.pinned (.plain (OpenSpec.ofChange limbsShiftsSpec)) limbsShiftsCard

/-- THE TIED CARD OF 'girdlelaw01.LimbsOrders'. -/
def limbsOrdersCard : Claim7 := { stood := { row := limbsOrdersRow, standIns := [], harness := (true, "d628412aca8b9337f5aa70877a78836ff04883c66d9c12acb44909557e432333"), looks := false }, kinds := [], alts := [], laidByText := true, laidKinds := [.data], laidTests := true, laidLooks := .later }
def LimbsOrdersCardSaid : Prop := Claim7.holds Tryd.pinned (.plain (OpenSpec.ofChange limbsOrdersSpec)) limbsOrdersCard

/-- THE TIED CARD OF 'girdlelaw01.LimbsBounds'. -/
def limbsBoundsCard : Claim7 := { stood := { row := limbsBoundsRow, standIns := [], harness := (true, "d628412aca8b9337f5aa70877a78836ff04883c66d9c12acb44909557e432333"), looks := false }, kinds := [], alts := [], laidByText := true, laidKinds := [.data], laidTests := true, laidLooks := .later }
def LimbsBoundsCardSaid : Prop := Claim7.holds Tryd.pinned (.plain (OpenSpec.ofChange limbsBoundsSpec)) limbsBoundsCard

/-- THE TIED CARD OF 'girdlelaw01.LimbsSmall'. -/
def limbsSmallCard : Claim7 := { stood := { row := limbsSmallRow, standIns := [], harness := (true, "d628412aca8b9337f5aa70877a78836ff04883c66d9c12acb44909557e432333"), looks := false }, kinds := [], alts := [], laidByText := true, laidKinds := [.data], laidTests := true, laidLooks := .later }
def LimbsSmallCardSaid : Prop := Claim7.holds Tryd.pinned (.plain (OpenSpec.ofChange limbsSmallSpec)) limbsSmallCard

/-- THE TIED CARD OF 'girdlelaw01.LimbsRings'. -/
def limbsRingsCard : Claim7 := { stood := { row := limbsRingsRow, standIns := [], harness := (true, "d628412aca8b9337f5aa70877a78836ff04883c66d9c12acb44909557e432333"), looks := false }, kinds := [], alts := [], laidByText := true, laidKinds := [.data], laidTests := true, laidLooks := .later }
def LimbsRingsCardSaid : Prop := Claim7.holds Tryd.pinned (.plain (OpenSpec.ofChange limbsRingsSpec)) limbsRingsCard

/-- THE SECOND FORM's CARD OF 'girdlelaw01.LimbsAdds'. -/
def limbsAddsUptoCard : Claim7 := { stood := { row := limbsAddsUptoRow, standIns := [], harness := (true, "d628412aca8b9337f5aa70877a78836ff04883c66d9c12acb44909557e432333"), looks := false }, kinds := [], alts := [], laidByText := true, laidKinds := [.data], laidTests := true, laidLooks := .later }
def LimbsAddsUptoCardSaid : Prop := Claim7.holds Tryd.pinned (.plain (OpenSpec.upto limbsAddsSpec)) limbsAddsUptoCard

/-- THE SECOND FORM's CARD OF 'girdlelaw01.LimbsMuls'. -/
def limbsMulsUptoCard : Claim7 := { stood := { row := limbsMulsUptoRow, standIns := [], harness := (true, "d628412aca8b9337f5aa70877a78836ff04883c66d9c12acb44909557e432333"), looks := false }, kinds := [], alts := [], laidByText := true, laidKinds := [.data], laidTests := true, laidLooks := .later }
def LimbsMulsUptoCardSaid : Prop := Claim7.holds Tryd.pinned (.plain (OpenSpec.upto limbsMulsSpec)) limbsMulsUptoCard

/-- THE SECOND FORM's CARD OF 'girdlelaw01.LimbsDivs'. -/
def limbsDivsUptoCard : Claim7 := { stood := { row := limbsDivsUptoRow, standIns := [], harness := (true, "d628412aca8b9337f5aa70877a78836ff04883c66d9c12acb44909557e432333"), looks := false }, kinds := [], alts := [], laidByText := true, laidKinds := [.data], laidTests := true, laidLooks := .later }
def LimbsDivsUptoCardSaid : Prop := Claim7.holds Tryd.pinned (.plain (OpenSpec.upto limbsDivsSpec)) limbsDivsUptoCard

/-- THE SECOND FORM's CARD OF 'girdlelaw01.LimbsShifts'. -/
def limbsShiftsUptoCard : Claim7 := { stood := { row := limbsShiftsUptoRow, standIns := [], harness := (true, "d628412aca8b9337f5aa70877a78836ff04883c66d9c12acb44909557e432333"), looks := false }, kinds := [], alts := [], laidByText := true, laidKinds := [.data], laidTests := true, laidLooks := .later }
def LimbsShiftsUptoCardSaid : Prop := Claim7.holds Tryd.pinned (.plain (OpenSpec.upto limbsShiftsSpec)) limbsShiftsUptoCard

/-- THE SECOND FORM's CARD OF 'girdlelaw01.LimbsOrders'. -/
def limbsOrdersUptoCard : Claim7 := { stood := { row := limbsOrdersUptoRow, standIns := [], harness := (true, "d628412aca8b9337f5aa70877a78836ff04883c66d9c12acb44909557e432333"), looks := false }, kinds := [], alts := [], laidByText := true, laidKinds := [.data], laidTests := true, laidLooks := .later }
def LimbsOrdersUptoCardSaid : Prop := Claim7.holds Tryd.pinned (.plain (OpenSpec.upto limbsOrdersSpec)) limbsOrdersUptoCard

/-- THE SECOND FORM's CARD OF 'girdlelaw01.LimbsBounds'. -/
def limbsBoundsUptoCard : Claim7 := { stood := { row := limbsBoundsUptoRow, standIns := [], harness := (true, "d628412aca8b9337f5aa70877a78836ff04883c66d9c12acb44909557e432333"), looks := false }, kinds := [], alts := [], laidByText := true, laidKinds := [.data], laidTests := true, laidLooks := .later }
def LimbsBoundsUptoCardSaid : Prop := Claim7.holds Tryd.pinned (.plain (OpenSpec.upto limbsBoundsSpec)) limbsBoundsUptoCard

/-- THE SECOND FORM's CARD OF 'girdlelaw01.LimbsSmall'. -/
def limbsSmallUptoCard : Claim7 := { stood := { row := limbsSmallUptoRow, standIns := [], harness := (true, "d628412aca8b9337f5aa70877a78836ff04883c66d9c12acb44909557e432333"), looks := false }, kinds := [], alts := [], laidByText := true, laidKinds := [.data], laidTests := true, laidLooks := .later }
def LimbsSmallUptoCardSaid : Prop := Claim7.holds Tryd.pinned (.plain (OpenSpec.upto limbsSmallSpec)) limbsSmallUptoCard

/-- THE SECOND FORM's CARD OF 'girdlelaw01.LimbsRings'. -/
def limbsRingsUptoCard : Claim7 := { stood := { row := limbsRingsUptoRow, standIns := [], harness := (true, "d628412aca8b9337f5aa70877a78836ff04883c66d9c12acb44909557e432333"), looks := false }, kinds := [], alts := [], laidByText := true, laidKinds := [.data], laidTests := true, laidLooks := .later }
def LimbsRingsUptoCardSaid : Prop := Claim7.holds Tryd.pinned (.plain (OpenSpec.upto limbsRingsSpec)) limbsRingsUptoCard
end Rows
end Go.Proofs.YtengipcencppiaaDoor
