/-
  DERIVED. GIVEN WITH THE SEED: THE CARDS: each row of YtdgldaahflpndaaDoorRows.lean that lists a variable, with what it lists TIED to the program's text (the seventh form; the later family's looks); each row that meets fmt, with fmt's text TOLD by the authors' own Lean function (tested against real Go, not proved from fmt's source: count such statements apart). THE CARD IS WHAT COUNTS. Prove the row's statement (the work); the ties are given (YtdgldaahflpndaaDoorTie.lean); close each card by the builder's one call (the guide's Derived/Test/ToyasCard.lean, 'card_holds'). Laid BY PROGRAM, IN A SANDBOX (cutbox-door.mjs). By AI agents, Wed Nov 11 2026. No macro, syntax, notation, axiom, sorry.
-/
import Derived.Test.YtdgldaahflpndaaDoorRows
import GoSem.ClaimSeven
namespace Go.Proofs.YtdgldaahflpndaaDoor
namespace Rows

/-- THE TIED CARD OF 'girdletop.WholeBoxes'. -/
def wholeBoxesCard : Claim7 := { stood := { row := wholeBoxesRow, standIns := [], harness := (true, "fb2b5e7793232c898f9f106d75d8b31453f5be4b9d9d88e18d45ffcf920fa432"), looks := false }, kinds := [], alts := [], laidByText := true, laidKinds := [.data], laidTests := true, laidLooks := .later }
def WholeBoxesCardSaid : Prop := Claim7.holds Tryd.pinned (.plain (OpenSpec.ofChange wholeBoxesSpec)) wholeBoxesCard

/-- THE TIED CARD OF 'girdlelaw15.BoxHulls'. -/
def boxHullsCard : Claim7 := { stood := { row := boxHullsRow, standIns := [], harness := (true, "fb2b5e7793232c898f9f106d75d8b31453f5be4b9d9d88e18d45ffcf920fa432"), looks := false }, kinds := [], alts := [], laidByText := true, laidKinds := [.data], laidTests := true, laidLooks := .later }
def BoxHullsCardSaid : Prop := Claim7.holds Tryd.pinned (.plain (OpenSpec.ofChange boxHullsSpec)) boxHullsCard

/-- THE TIED CARD OF 'girdlelaw15.BoxWidest'. -/
def boxWidestCard : Claim7 := { stood := { row := boxWidestRow, standIns := [], harness := (true, "fb2b5e7793232c898f9f106d75d8b31453f5be4b9d9d88e18d45ffcf920fa432"), looks := false }, kinds := [], alts := [], laidByText := true, laidKinds := [.data], laidTests := true, laidLooks := .later }
def BoxWidestCardSaid : Prop := Claim7.holds Tryd.pinned (.plain (OpenSpec.ofChange boxWidestSpec)) boxWidestCard

/-- THE TIED CARD OF 'girdlelaw15.BoxNests'. -/
def boxNestsCard : Claim7 := { stood := { row := boxNestsRow, standIns := [], harness := (true, "fb2b5e7793232c898f9f106d75d8b31453f5be4b9d9d88e18d45ffcf920fa432"), looks := false }, kinds := [], alts := [], laidByText := true, laidKinds := [.data], laidTests := true, laidLooks := .later }
def BoxNestsCardSaid : Prop := Claim7.holds Tryd.pinned (.plain (OpenSpec.ofChange boxNestsSpec)) boxNestsCard

/-- THE TIED CARD OF 'girdlelaw15.BoxWider'. -/
def boxWiderCard : Claim7 := { stood := { row := boxWiderRow, standIns := [], harness := (true, "fb2b5e7793232c898f9f106d75d8b31453f5be4b9d9d88e18d45ffcf920fa432"), looks := false }, kinds := [], alts := [], laidByText := true, laidKinds := [.data], laidTests := true, laidLooks := .later }
def BoxWiderCardSaid : Prop := Claim7.holds Tryd.pinned (.plain (OpenSpec.ofChange boxWiderSpec)) boxWiderCard

/-- THE TIED CARD OF 'girdlelaw15.BoxSupports'. -/
def boxSupportsCard : Claim7 := { stood := { row := boxSupportsRow, standIns := [], harness := (true, "fb2b5e7793232c898f9f106d75d8b31453f5be4b9d9d88e18d45ffcf920fa432"), looks := false }, kinds := [], alts := [], laidByText := true, laidKinds := [.data], laidTests := true, laidLooks := .later }
def BoxSupportsCardSaid : Prop := Claim7.holds Tryd.pinned (.plain (OpenSpec.ofChange boxSupportsSpec)) boxSupportsCard

/-- THE SECOND FORM's CARD OF 'girdletop.WholeBoxes'. -/
def wholeBoxesUptoCard : Claim7 := { stood := { row := wholeBoxesUptoRow, standIns := [], harness := (true, "fb2b5e7793232c898f9f106d75d8b31453f5be4b9d9d88e18d45ffcf920fa432"), looks := false }, kinds := [], alts := [], laidByText := true, laidKinds := [.data], laidTests := true, laidLooks := .later }
def WholeBoxesUptoCardSaid : Prop := Claim7.holds Tryd.pinned (.plain (OpenSpec.upto wholeBoxesSpec)) wholeBoxesUptoCard

/-- THE SECOND FORM's CARD OF 'girdlelaw15.BoxHulls'. -/
def boxHullsUptoCard : Claim7 := { stood := { row := boxHullsUptoRow, standIns := [], harness := (true, "fb2b5e7793232c898f9f106d75d8b31453f5be4b9d9d88e18d45ffcf920fa432"), looks := false }, kinds := [], alts := [], laidByText := true, laidKinds := [.data], laidTests := true, laidLooks := .later }
def BoxHullsUptoCardSaid : Prop := Claim7.holds Tryd.pinned (.plain (OpenSpec.upto boxHullsSpec)) boxHullsUptoCard

/-- THE SECOND FORM's CARD OF 'girdlelaw15.BoxWidest'. -/
def boxWidestUptoCard : Claim7 := { stood := { row := boxWidestUptoRow, standIns := [], harness := (true, "fb2b5e7793232c898f9f106d75d8b31453f5be4b9d9d88e18d45ffcf920fa432"), looks := false }, kinds := [], alts := [], laidByText := true, laidKinds := [.data], laidTests := true, laidLooks := .later }
def BoxWidestUptoCardSaid : Prop := Claim7.holds Tryd.pinned (.plain (OpenSpec.upto boxWidestSpec)) boxWidestUptoCard

/-- THE SECOND FORM's CARD OF 'girdlelaw15.BoxNests'. -/
def boxNestsUptoCard : Claim7 := { stood := { row := boxNestsUptoRow, standIns := [], harness := (true, "fb2b5e7793232c898f9f106d75d8b31453f5be4b9d9d88e18d45ffcf920fa432"), looks := false }, kinds := [], alts := [], laidByText := true, laidKinds := [.data], laidTests := true, laidLooks := .later }
def BoxNestsUptoCardSaid : Prop := Claim7.holds Tryd.pinned (.plain (OpenSpec.upto boxNestsSpec)) boxNestsUptoCard

/-- THE SECOND FORM's CARD OF 'girdlelaw15.BoxWider'. -/
def boxWiderUptoCard : Claim7 := { stood := { row := boxWiderUptoRow, standIns := [], harness := (true, "fb2b5e7793232c898f9f106d75d8b31453f5be4b9d9d88e18d45ffcf920fa432"), looks := false }, kinds := [], alts := [], laidByText := true, laidKinds := [.data], laidTests := true, laidLooks := .later }
def BoxWiderUptoCardSaid : Prop := Claim7.holds Tryd.pinned (.plain (OpenSpec.upto boxWiderSpec)) boxWiderUptoCard

/-- THE SECOND FORM's CARD OF 'girdlelaw15.BoxSupports'. -/
def boxSupportsUptoCard : Claim7 := { stood := { row := boxSupportsUptoRow, standIns := [], harness := (true, "fb2b5e7793232c898f9f106d75d8b31453f5be4b9d9d88e18d45ffcf920fa432"), looks := false }, kinds := [], alts := [], laidByText := true, laidKinds := [.data], laidTests := true, laidLooks := .later }
def BoxSupportsUptoCardSaid : Prop := Claim7.holds Tryd.pinned (.plain (OpenSpec.upto boxSupportsSpec)) boxSupportsUptoCard
end Rows
end Go.Proofs.YtdgldaahflpndaaDoor
