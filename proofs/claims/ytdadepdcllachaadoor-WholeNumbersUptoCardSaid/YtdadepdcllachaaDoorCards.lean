/-
  DERIVED. GIVEN WITH THE SEED: THE CARDS: each row of YtdadepdcllachaaDoorRows.lean that lists a variable, with what it lists TIED to the program's text (the seventh form; the later family's looks); each row that meets fmt, with fmt's text TOLD by the authors' own Lean function (tested against real Go, not proved from fmt's source: count such statements apart). THE CARD IS WHAT COUNTS. Prove the row's statement (the work); the ties are given (YtdadepdcllachaaDoorTie.lean); close each card by the builder's one call (the guide's Derived/Test/ToyasCard.lean, 'card_holds'). Laid BY PROGRAM, IN A SANDBOX (cutbox-door.mjs). By AI agents, Wed Nov 11 2026. No macro, syntax, notation, axiom, sorry.
-/
import Derived.Test.YtdadepdcllachaaDoorRows
import GoSem.ClaimSeven
namespace Go.Proofs.YtdadepdcllachaaDoor
namespace Rows

/-- THE TIED CARD OF 'girdletop.WholeNumbers'. -/
def wholeNumbersCard : Claim7 := { stood := { row := wholeNumbersRow, standIns := [], harness := (true, "66a00baa458926425142d93306e9fcdfdae3a9228d4aa1cbbe11964f62cd9e1a"), looks := false }, kinds := [], alts := [], laidByText := true, laidKinds := [.data, .listed, .data, .pinned], laidTests := true, laidLooks := .later }
def WholeNumbersCardSaid : Prop := Claim7.holds Tryd.pinned (.plain (OpenSpec.ofChange wholeNumbersSpec)) wholeNumbersCard

/-- THE SECOND FORM's CARD OF 'girdletop.WholeNumbers'. -/
def wholeNumbersUptoCard : Claim7 := { stood := { row := wholeNumbersUptoRow, standIns := [], harness := (true, "66a00baa458926425142d93306e9fcdfdae3a9228d4aa1cbbe11964f62cd9e1a"), looks := false }, kinds := [], alts := [], laidByText := true, laidKinds := [.data, .listed, .data, .pinned], laidTests := true, laidLooks := .later }
def WholeNumbersUptoCardSaid : Prop := Claim7.holds Tryd.pinned (.plain (OpenSpec.upto wholeNumbersSpec)) wholeNumbersUptoCard
end Rows
end Go.Proofs.YtdadepdcllachaaDoor
