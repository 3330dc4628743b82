/-
  DERIVED. GIVEN WITH THE SEED: THE CARDS: each row of YtdgldaahflpndaaGreatDoorRows.lean that lists a variable, with what it lists TIED to the program's text (the seventh form; the later family's looks); each row that meets fmt, with fmt's text TOLD by the authors' own Lean function (tested against real Go, not proved from fmt's source: count such statements apart). THE CARD IS WHAT COUNTS. Prove the row's statement (the work); the ties are given (YtdgldaahflpndaaGreatDoorTie.lean); close each card by the builder's one call (the guide's Derived/Test/ToyasCard.lean, 'card_holds'). Laid BY PROGRAM, IN A SANDBOX (cutbox-door.mjs). By AI agents, Wed Nov 11 2026. No macro, syntax, notation, axiom, sorry.
-/
import Derived.Test.YtdgldaahflpndaaGreatDoorRows
import GoSem.ClaimSeven
namespace Go.Proofs.YtdgldaahflpndaaGreatDoor
namespace Rows

/-- THE TIED CARD OF 'girdlelaw16.ZonoMirror'. -/
def zonoMirrorCard : Claim7 := { stood := { row := zonoMirrorRow, standIns := [], harness := (true, "b3705a09844acf67f745c915ff31f16b87f3845d26da2e07b06e9e2dd2d0ceb0"), looks := false }, kinds := [], alts := [], laidByText := true, laidKinds := [.data], laidTests := true, laidLooks := .later }
def ZonoMirrorCardSaid : Prop := Claim7.holds Tryz.pinned (.plain (OpenSpec.ofChange zonoMirrorSpec)) zonoMirrorCard

/-- THE TIED CARD OF 'girdlelaw16.ZonoSums'. -/
def zonoSumsCard : Claim7 := { stood := { row := zonoSumsRow, standIns := [], harness := (true, "b3705a09844acf67f745c915ff31f16b87f3845d26da2e07b06e9e2dd2d0ceb0"), looks := false }, kinds := [], alts := [], laidByText := true, laidKinds := [.data], laidTests := true, laidLooks := .later }
def ZonoSumsCardSaid : Prop := Claim7.holds Tryz.pinned (.plain (OpenSpec.ofChange zonoSumsSpec)) zonoSumsCard

/-- THE TIED CARD OF 'girdlelaw16.ZonoTight'. -/
def zonoTightCard : Claim7 := { stood := { row := zonoTightRow, standIns := [], harness := (true, "b3705a09844acf67f745c915ff31f16b87f3845d26da2e07b06e9e2dd2d0ceb0"), looks := false }, kinds := [], alts := [], laidByText := true, laidKinds := [.data], laidTests := true, laidLooks := .later }
def ZonoTightCardSaid : Prop := Claim7.holds Tryz.pinned (.plain (OpenSpec.ofChange zonoTightSpec)) zonoTightCard

/-- THE TIED CARD OF 'girdlelaw16.ZonoImages'. -/
def zonoImagesCard : Claim7 := { stood := { row := zonoImagesRow, standIns := [], harness := (true, "b3705a09844acf67f745c915ff31f16b87f3845d26da2e07b06e9e2dd2d0ceb0"), looks := false }, kinds := [], alts := [], laidByText := true, laidKinds := [.data], laidTests := true, laidLooks := .later }
def ZonoImagesCardSaid : Prop := Claim7.holds Tryz.pinned (.plain (OpenSpec.ofChange zonoImagesSpec)) zonoImagesCard

/-- THE TIED CARD OF 'girdlelaw16.ZonoHolds'. -/
def zonoHoldsCard : Claim7 := { stood := { row := zonoHoldsRow, standIns := [], harness := (true, "b3705a09844acf67f745c915ff31f16b87f3845d26da2e07b06e9e2dd2d0ceb0"), looks := false }, kinds := [], alts := [], laidByText := true, laidKinds := [.data], laidTests := true, laidLooks := .later }
def ZonoHoldsCardSaid : Prop := Claim7.holds Tryz.pinned (.plain (OpenSpec.ofChange zonoHoldsSpec)) zonoHoldsCard

/-- THE SECOND FORM's CARD OF 'girdlelaw16.ZonoMirror'. -/
def zonoMirrorUptoCard : Claim7 := { stood := { row := zonoMirrorUptoRow, standIns := [], harness := (true, "b3705a09844acf67f745c915ff31f16b87f3845d26da2e07b06e9e2dd2d0ceb0"), looks := false }, kinds := [], alts := [], laidByText := true, laidKinds := [.data], laidTests := true, laidLooks := .later }
def ZonoMirrorUptoCardSaid : Prop := Claim7.holds Tryz.pinned (.plain (OpenSpec.upto zonoMirrorSpec)) zonoMirrorUptoCard

/-- THE SECOND FORM's CARD OF 'girdlelaw16.ZonoSums'. -/
def zonoSumsUptoCard : Claim7 := { stood := { row := zonoSumsUptoRow, standIns := [], harness := (true, "b3705a09844acf67f745c915ff31f16b87f3845d26da2e07b06e9e2dd2d0ceb0"), looks := false }, kinds := [], alts := [], laidByText := true, laidKinds := [.data], laidTests := true, laidLooks := .later }
def ZonoSumsUptoCardSaid : Prop := Claim7.holds Tryz.pinned (.plain (OpenSpec.upto zonoSumsSpec)) zonoSumsUptoCard

/-- THE SECOND FORM's CARD OF 'girdlelaw16.ZonoTight'. -/
def zonoTightUptoCard : Claim7 := { stood := { row := zonoTightUptoRow, standIns := [], harness := (true, "b3705a09844acf67f745c915ff31f16b87f3845d26da2e07b06e9e2dd2d0ceb0"), looks := false }, kinds := [], alts := [], laidByText := true, laidKinds := [.data], laidTests := true, laidLooks := .later }
def ZonoTightUptoCardSaid : Prop := Claim7.holds Tryz.pinned (.plain (OpenSpec.upto zonoTightSpec)) zonoTightUptoCard

/-- THE SECOND FORM's CARD OF 'girdlelaw16.ZonoImages'. -/
def zonoImagesUptoCard : Claim7 := { stood := { row := zonoImagesUptoRow, standIns := [], harness := (true, "b3705a09844acf67f745c915ff31f16b87f3845d26da2e07b06e9e2dd2d0ceb0"), looks := false }, kinds := [], alts := [], laidByText := true, laidKinds := [.data], laidTests := true, laidLooks := .later }
def ZonoImagesUptoCardSaid : Prop := Claim7.holds Tryz.pinned (.plain (OpenSpec.upto zonoImagesSpec)) zonoImagesUptoCard

/-- THE SECOND FORM's CARD OF 'girdlelaw16.ZonoHolds'. -/
def zonoHoldsUptoCard : Claim7 := { stood := { row := zonoHoldsUptoRow, standIns := [], harness := (true, "b3705a09844acf67f745c915ff31f16b87f3845d26da2e07b06e9e2dd2d0ceb0"), looks := false }, kinds := [], alts := [], laidByText := true, laidKinds := [.data], laidTests := true, laidLooks := .later }
def ZonoHoldsUptoCardSaid : Prop := Claim7.holds Tryz.pinned (.plain (OpenSpec.upto zonoHoldsSpec)) zonoHoldsUptoCard
end Rows
end Go.Proofs.YtdgldaahflpndaaGreatDoor
