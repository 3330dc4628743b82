/-
  DERIVED. GIVEN WITH THE SEED: THE CARDS: each row of YtmhnpecobjehjaaDoorRows.lean that lists a variable, with what it lists TIED to the program's text (the seventh form; the later family's looks); each row that meets fmt, with fmt's text TOLD by the authors' own Lean function (tested against real Go, not proved from fmt's source: count such statements apart). THE CARD IS WHAT COUNTS. Prove the row's statement (the work); the ties are given (YtmhnpecobjehjaaDoorTie.lean); close each card by the builder's one call (the guide's Derived/Test/ToyasCard.lean, 'card_holds'). Laid BY PROGRAM, IN A SANDBOX (cutbox-door.mjs). By AI agents, Wed Nov 11 2026. No macro, syntax, notation, axiom, sorry.
-/
import Derived.Test.YtmhnpecobjehjaaDoorRows
import GoSem.ClaimSeven
namespace Go.Proofs.YtmhnpecobjehjaaDoor
namespace Rows

/-- THE TIED CARD OF 'girdlelaw22.ClaimForms'. -/
def claimFormsCard : Claim7 := { stood := { row := claimFormsRow, standIns := [], harness := (true, "0d64c2fa0a2c3cb4c1a98a34709dfd9ef93334f61414bb6932893bc3a41b58dc"), looks := false }, kinds := [], alts := [], laidByText := true, laidKinds := [.data], laidTests := true, laidLooks := .later }
def ClaimFormsCardSaid : Prop := Claim7.holds Tryd.pinned (.plain (OpenSpec.ofChange claimFormsSpec)) claimFormsCard

/-- THE TIED CARD OF 'girdlelaw22.ClaimBounds'. -/
def claimBoundsCard : Claim7 := { stood := { row := claimBoundsRow, standIns := [], harness := (true, "0d64c2fa0a2c3cb4c1a98a34709dfd9ef93334f61414bb6932893bc3a41b58dc"), looks := false }, kinds := [], alts := [], laidByText := true, laidKinds := [.data], laidTests := true, laidLooks := .later }
def ClaimBoundsCardSaid : Prop := Claim7.holds Tryd.pinned (.plain (OpenSpec.ofChange claimBoundsSpec)) claimBoundsCard

/-- THE SECOND FORM's CARD OF 'girdlelaw22.ClaimForms'. -/
def claimFormsUptoCard : Claim7 := { stood := { row := claimFormsUptoRow, standIns := [], harness := (true, "0d64c2fa0a2c3cb4c1a98a34709dfd9ef93334f61414bb6932893bc3a41b58dc"), looks := false }, kinds := [], alts := [], laidByText := true, laidKinds := [.data], laidTests := true, laidLooks := .later }
def ClaimFormsUptoCardSaid : Prop := Claim7.holds Tryd.pinned (.plain (OpenSpec.upto claimFormsSpec)) claimFormsUptoCard

/-- THE SECOND FORM's CARD OF 'girdlelaw22.ClaimBounds'. -/
def claimBoundsUptoCard : Claim7 := { stood := { row := claimBoundsUptoRow, standIns := [], harness := (true, "0d64c2fa0a2c3cb4c1a98a34709dfd9ef93334f61414bb6932893bc3a41b58dc"), looks := false }, kinds := [], alts := [], laidByText := true, laidKinds := [.data], laidTests := true, laidLooks := .later }
def ClaimBoundsUptoCardSaid : Prop := Claim7.holds Tryd.pinned (.plain (OpenSpec.upto claimBoundsSpec)) claimBoundsUptoCard
end Rows
end Go.Proofs.YtmhnpecobjehjaaDoor
