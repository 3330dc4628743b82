/-
  DERIVED. GIVEN WITH THE SEED: THE CARDS: each row of YtninholkanohkaaDoorRows.lean that lists a variable, with what it lists TIED to the program's text (the seventh form; the later family's looks); each row that meets fmt, with fmt's text TOLD by the authors' own Lean function (tested against real Go, not proved from fmt's source: count such statements apart). THE CARD IS WHAT COUNTS. Prove the row's statement (the work); the ties are given (YtninholkanohkaaDoorTie.lean); close each card by the builder's one call (the guide's Derived/Test/ToyasCard.lean, 'card_holds'). Laid BY PROGRAM, IN A SANDBOX (cutbox-door.mjs). By AI agents, Wed Nov 11 2026. No macro, syntax, notation, axiom, sorry.
-/
import Derived.Test.YtninholkanohkaaDoorRows
import GoSem.ClaimSeven
namespace Go.Proofs.YtninholkanohkaaDoor
namespace Rows

/-- THE TIED CARD OF 'girdlelaw05.DyadOrders'. -/
def dyadOrdersCard : Claim7 := { stood := { row := dyadOrdersRow, standIns := [], harness := (true, "61345b3c41fe110aa6836d0cbada19a9aef9d30e1d88b5d4de8a1a1dc65a8b48"), looks := false }, kinds := [], alts := [], laidByText := true, laidKinds := [.data, .data, .pinned], laidTests := true, laidLooks := .later }
def DyadOrdersCardSaid : Prop := Claim7.holds Tryd.pinned (.plain (OpenSpec.ofChange dyadOrdersSpec)) dyadOrdersCard

/-- THE TIED CARD OF 'girdlelaw05.DyadRounds'. -/
def dyadRoundsCard : Claim7 := { stood := { row := dyadRoundsRow, standIns := [], harness := (true, "61345b3c41fe110aa6836d0cbada19a9aef9d30e1d88b5d4de8a1a1dc65a8b48"), looks := false }, kinds := [], alts := [], laidByText := true, laidKinds := [.data, .data, .pinned], laidTests := true, laidLooks := .later }
def DyadRoundsCardSaid : Prop := Claim7.holds Tryd.pinned (.plain (OpenSpec.ofChange dyadRoundsSpec)) dyadRoundsCard

/-- THE TIED CARD OF 'girdlelaw05.DyadHalves'. -/
def dyadHalvesCard : Claim7 := { stood := { row := dyadHalvesRow, standIns := [], harness := (true, "61345b3c41fe110aa6836d0cbada19a9aef9d30e1d88b5d4de8a1a1dc65a8b48"), looks := false }, kinds := [], alts := [], laidByText := true, laidKinds := [.data, .data, .pinned], laidTests := true, laidLooks := .later }
def DyadHalvesCardSaid : Prop := Claim7.holds Tryd.pinned (.plain (OpenSpec.ofChange dyadHalvesSpec)) dyadHalvesCard

/-- THE TIED CARD OF 'girdlelaw05.DyadMakes'. -/
def dyadMakesCard : Claim7 := { stood := { row := dyadMakesRow, standIns := [], harness := (true, "61345b3c41fe110aa6836d0cbada19a9aef9d30e1d88b5d4de8a1a1dc65a8b48"), looks := false }, kinds := [], alts := [], laidByText := true, laidKinds := [.data, .data, .pinned], laidTests := true, laidLooks := .later }
def DyadMakesCardSaid : Prop := Claim7.holds Tryd.pinned (.plain (OpenSpec.ofChange dyadMakesSpec)) dyadMakesCard

/-- THE TIED CARD OF 'girdlelaw05.DyadRings'. -/
def dyadRingsCard : Claim7 := { stood := { row := dyadRingsRow, standIns := [], harness := (true, "61345b3c41fe110aa6836d0cbada19a9aef9d30e1d88b5d4de8a1a1dc65a8b48"), looks := false }, kinds := [], alts := [], laidByText := true, laidKinds := [.data, .data, .pinned], laidTests := true, laidLooks := .later }
def DyadRingsCardSaid : Prop := Claim7.holds Tryd.pinned (.plain (OpenSpec.ofChange dyadRingsSpec)) dyadRingsCard

/-- THE TIED CARD OF 'girdlelaw05.DyadNear'. -/
def dyadNearCard : Claim7 := { stood := { row := dyadNearRow, standIns := [], harness := (true, "61345b3c41fe110aa6836d0cbada19a9aef9d30e1d88b5d4de8a1a1dc65a8b48"), looks := false }, kinds := [], alts := [], laidByText := true, laidKinds := [.data, .data, .pinned], laidTests := true, laidLooks := .later }
def DyadNearCardSaid : Prop := Claim7.holds Tryd.pinned (.plain (OpenSpec.ofChange dyadNearSpec)) dyadNearCard

/-- THE SECOND FORM's CARD OF 'girdlelaw05.DyadOrders'. -/
def dyadOrdersUptoCard : Claim7 := { stood := { row := dyadOrdersUptoRow, standIns := [], harness := (true, "61345b3c41fe110aa6836d0cbada19a9aef9d30e1d88b5d4de8a1a1dc65a8b48"), looks := false }, kinds := [], alts := [], laidByText := true, laidKinds := [.data, .data, .pinned], laidTests := true, laidLooks := .later }
def DyadOrdersUptoCardSaid : Prop := Claim7.holds Tryd.pinned (.plain (OpenSpec.upto dyadOrdersSpec)) dyadOrdersUptoCard

/-- THE SECOND FORM's CARD OF 'girdlelaw05.DyadRounds'. -/
def dyadRoundsUptoCard : Claim7 := { stood := { row := dyadRoundsUptoRow, standIns := [], harness := (true, "61345b3c41fe110aa6836d0cbada19a9aef9d30e1d88b5d4de8a1a1dc65a8b48"), looks := false }, kinds := [], alts := [], laidByText := true, laidKinds := [.data, .data, .pinned], laidTests := true, laidLooks := .later }
def DyadRoundsUptoCardSaid : Prop := Claim7.holds Tryd.pinned (.plain (OpenSpec.upto dyadRoundsSpec)) dyadRoundsUptoCard

/-- THE SECOND FORM's CARD OF 'girdlelaw05.DyadHalves'. -/
def dyadHalvesUptoCard : Claim7 := { stood := { row := dyadHalvesUptoRow, standIns := [], harness := (true, "61345b3c41fe110aa6836d0cbada19a9aef9d30e1d88b5d4de8a1a1dc65a8b48"), looks := false }, kinds := [], alts := [], laidByText := true, laidKinds := [.data, .data, .pinned], laidTests := true, laidLooks := .later }
def DyadHalvesUptoCardSaid : Prop := Claim7.holds Tryd.pinned (.plain (OpenSpec.upto dyadHalvesSpec)) dyadHalvesUptoCard

/-- THE SECOND FORM's CARD OF 'girdlelaw05.DyadMakes'. -/
def dyadMakesUptoCard : Claim7 := { stood := { row := dyadMakesUptoRow, standIns := [], harness := (true, "61345b3c41fe110aa6836d0cbada19a9aef9d30e1d88b5d4de8a1a1dc65a8b48"), looks := false }, kinds := [], alts := [], laidByText := true, laidKinds := [.data, .data, .pinned], laidTests := true, laidLooks := .later }
def DyadMakesUptoCardSaid : Prop := Claim7.holds Tryd.pinned (.plain (OpenSpec.upto dyadMakesSpec)) dyadMakesUptoCard

/-- THE SECOND FORM's CARD OF 'girdlelaw05.DyadRings'. -/
def dyadRingsUptoCard : Claim7 := { stood := { row := dyadRingsUptoRow, standIns := [], harness := (true, "61345b3c41fe110aa6836d0cbada19a9aef9d30e1d88b5d4de8a1a1dc65a8b48"), looks := false }, kinds := [], alts := [], laidByText := true, laidKinds := [.data, .data, .pinned], laidTests := true, laidLooks := .later }
def DyadRingsUptoCardSaid : Prop := Claim7.holds Tryd.pinned (.plain (OpenSpec.upto dyadRingsSpec)) dyadRingsUptoCard

/-- THE SECOND FORM's CARD OF 'girdlelaw05.DyadNear'. -/
def dyadNearUptoCard : Claim7 := { stood := { row := dyadNearUptoRow, standIns := [], harness := (true, "61345b3c41fe110aa6836d0cbada19a9aef9d30e1d88b5d4de8a1a1dc65a8b48"), looks := false }, kinds := [], alts := [], laidByText := true, laidKinds := [.data, .data, .pinned], laidTests := true, laidLooks := .later }
def DyadNearUptoCardSaid : Prop := Claim7.holds Tryd.pinned (.plain (OpenSpec.upto dyadNearSpec)) dyadNearUptoCard
end Rows
end Go.Proofs.YtninholkanohkaaDoor
