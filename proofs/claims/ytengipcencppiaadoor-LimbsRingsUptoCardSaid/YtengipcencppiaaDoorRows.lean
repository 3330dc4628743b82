/-
  NARROWER THAN 'FOR EVERY INPUT', by the rows' own cells (each row's printed sentence says how): LimbsAdds: laid · LimbsMuls: laid · LimbsDivs: laid · LimbsShifts: laid · LimbsOrders: laid · LimbsBounds: laid · LimbsSmall: laid · LimbsRings: laid.
  DERIVED. THE GIVEN ROWS OF THIS SEAT. 8 by the template 'for every input the law returns true; each argument reads behind the call as it read before'; 0 by the template 'total and deterministic' (their statements: YtengipcencppiaaDoorTotals.lean).
  GIVEN WITH THE SEED: the statements are not yours to turn. If you find one false, say at which input.
  Laid BY PROGRAM, IN A SANDBOX (cutbox-rows.mjs): the forced cells as the released guide's own fill.sh prints them over the translation 41cc0d7a29add4d6… (all of the seat's roots in one cut). By AI agents, Wed Nov 11 2026. No macro, syntax, notation, axiom, sorry.
-/
import Derived.Test.YtengipcencppiaaDoorChecked
import GoSem.Claim
import GoSem.ClaimJoined
import GoSem.ClaimMapViews
import Derived.JoinedTies
import Derived.KernelRfl
namespace Go.Proofs.YtengipcencppiaaDoor
/- THE CELL 'sum', in the pinned program and in every row, IS THE sha256 OF THE DUMP (.gsa) THAT YtengipcencppiaaDoorProg.lean LOADS. Nothing in Lean hashes anything: it is a label: what it is worth is what the hold of that sum in a sandbox is worth. -/
noncomputable def Tryd.pinned : Pinned := { name := "ytengipcencppiaadoor", sum := "41cc0d7a29add4d64c4dcf5026acb049c59f022a3ff5a7704d4fa413c43d2996", checked := Tryd.checked }
namespace Rows
def none {H : Type} : Left H := { results := [], args := [] }

/- WHAT THE LISTED PACKAGE-LEVEL VARIABLES READ AS WHEN THE CALL BEGINS. Each datum BY PROGRAM (the guide's laid-datum.mjs) off the statement by which the dump's own 'gosem.cut.vars' lays the variable. In a bare row this is a premise. The card (YtengipcencppiaaDoorCards.lean) ties it to the program's text. -/
def laid_math_bits_deBruijn32tab {H : Type} : DataW H := .agg [.lit (.int .u8 0), .lit (.int .u8 1), .lit (.int .u8 28), .lit (.int .u8 2), .lit (.int .u8 29), .lit (.int .u8 14), .lit (.int .u8 24), .lit (.int .u8 3), .lit (.int .u8 30), .lit (.int .u8 22), .lit (.int .u8 20), .lit (.int .u8 15), .lit (.int .u8 25), .lit (.int .u8 17), .lit (.int .u8 4), .lit (.int .u8 8), .lit (.int .u8 31), .lit (.int .u8 27), .lit (.int .u8 13), .lit (.int .u8 23), .lit (.int .u8 21), .lit (.int .u8 19), .lit (.int .u8 16), .lit (.int .u8 7), .lit (.int .u8 26), .lit (.int .u8 12), .lit (.int .u8 18), .lit (.int .u8 6), .lit (.int .u8 11), .lit (.int .u8 5), .lit (.int .u8 10), .lit (.int .u8 9)]

/-- 'girdlelaw01.LimbsAdds': WHATEVER THE INPUT: true; the input reads as it did. -/
def limbsAddsSpec : ChangeSpec := { name := "limbsAdds", fn := fun _ => fun
  | [d1, d2] => { results := [.lit (.bool true)], args := [d1, d2] }
  | _ => none }
def limbsAddsRow : OpenClaim := { program := "ytengipcencppiaadoor", sum := "41cc0d7a29add4d64c4dcf5026acb049c59f022a3ff5a7704d4fa413c43d2996", func := "girdle/girdlelaw01.LimbsAdds", spec := "limbsAdds", unfollowed := true, recurses := true, named := ["math/bits.deBruijn32tab"], apart := false, laid := [("math/bits.deBruijn32tab", laid_math_bits_deBruijn32tab)] }
def LimbsAddsSaid : Prop := limbsAddsRow.holds Tryd.pinned (OpenSpec.ofChange limbsAddsSpec)

/-- ITS FALSE NEIGHBOUR: 'it returns false'. Refute it at one input. -/
def limbsAddsWrong : ChangeSpec := { name := "limbsAdds", fn := fun _ => fun
  | [d1, d2] => { results := [.lit (.bool false)], args := [d1, d2] }
  | _ => none }
def LimbsAddsWrongFalsely : Prop := limbsAddsRow.holds Tryd.pinned (OpenSpec.ofChange limbsAddsWrong)

/-- 'girdlelaw01.LimbsMuls': WHATEVER THE INPUT: true; the input reads as it did. -/
def limbsMulsSpec : ChangeSpec := { name := "limbsMuls", fn := fun _ => fun
  | [d1, d2] => { results := [.lit (.bool true)], args := [d1, d2] }
  | _ => none }
def limbsMulsRow : OpenClaim := { program := "ytengipcencppiaadoor", sum := "41cc0d7a29add4d64c4dcf5026acb049c59f022a3ff5a7704d4fa413c43d2996", func := "girdle/girdlelaw01.LimbsMuls", spec := "limbsMuls", unfollowed := true, recurses := true, named := ["math/bits.deBruijn32tab"], apart := false, laid := [("math/bits.deBruijn32tab", laid_math_bits_deBruijn32tab)] }
def LimbsMulsSaid : Prop := limbsMulsRow.holds Tryd.pinned (OpenSpec.ofChange limbsMulsSpec)

/-- ITS FALSE NEIGHBOUR: 'it returns false'. Refute it at one input. -/
def limbsMulsWrong : ChangeSpec := { name := "limbsMuls", fn := fun _ => fun
  | [d1, d2] => { results := [.lit (.bool false)], args := [d1, d2] }
  | _ => none }
def LimbsMulsWrongFalsely : Prop := limbsMulsRow.holds Tryd.pinned (OpenSpec.ofChange limbsMulsWrong)

/-- 'girdlelaw01.LimbsDivs': WHATEVER THE INPUT: true; the input reads as it did. -/
def limbsDivsSpec : ChangeSpec := { name := "limbsDivs", fn := fun _ => fun
  | [d1, d2] => { results := [.lit (.bool true)], args := [d1, d2] }
  | _ => none }
def limbsDivsRow : OpenClaim := { program := "ytengipcencppiaadoor", sum := "41cc0d7a29add4d64c4dcf5026acb049c59f022a3ff5a7704d4fa413c43d2996", func := "girdle/girdlelaw01.LimbsDivs", spec := "limbsDivs", unfollowed := true, recurses := true, named := ["math/bits.deBruijn32tab"], apart := false, laid := [("math/bits.deBruijn32tab", laid_math_bits_deBruijn32tab)] }
def LimbsDivsSaid : Prop := limbsDivsRow.holds Tryd.pinned (OpenSpec.ofChange limbsDivsSpec)

/-- ITS FALSE NEIGHBOUR: 'it returns false'. Refute it at one input. -/
def limbsDivsWrong : ChangeSpec := { name := "limbsDivs", fn := fun _ => fun
  | [d1, d2] => { results := [.lit (.bool false)], args := [d1, d2] }
  | _ => none }
def LimbsDivsWrongFalsely : Prop := limbsDivsRow.holds Tryd.pinned (OpenSpec.ofChange limbsDivsWrong)

/-- 'girdlelaw01.LimbsShifts': WHATEVER THE INPUT: true; the input reads as it did. -/
def limbsShiftsSpec : ChangeSpec := { name := "limbsShifts", fn := fun _ => fun
  | [d1, d2] => { results := [.lit (.bool true)], args := [d1, d2] }
  | _ => none }
def limbsShiftsRow : OpenClaim := { program := "ytengipcencppiaadoor", sum := "41cc0d7a29add4d64c4dcf5026acb049c59f022a3ff5a7704d4fa413c43d2996", func := "girdle/girdlelaw01.LimbsShifts", spec := "limbsShifts", unfollowed := true, recurses := true, named := ["math/bits.deBruijn32tab"], apart := false, laid := [("math/bits.deBruijn32tab", laid_math_bits_deBruijn32tab)] }
def LimbsShiftsSaid : Prop := limbsShiftsRow.holds Tryd.pinned (OpenSpec.ofChange limbsShiftsSpec)

/-- ITS FALSE NEIGHBOUR: 'it returns false'. Refute it at one input. -/
def limbsShiftsWrong : ChangeSpec := { name := "limbsShifts", fn := fun _ => fun
  | [d1, d2] => { results := [.lit (.bool false)], args := [d1, d2] }
  | _ => none }
def LimbsShiftsWrongFalsely : Prop := limbsShiftsRow.holds Tryd.pinned (OpenSpec.ofChange limbsShiftsWrong)

/-- 'girdlelaw01.LimbsOrders': WHATEVER THE INPUT: true; the input reads as it did. -/
def limbsOrdersSpec : ChangeSpec := { name := "limbsOrders", fn := fun _ => fun
  | [d1, d2] => { results := [.lit (.bool true)], args := [d1, d2] }
  | _ => none }
def limbsOrdersRow : OpenClaim := { program := "ytengipcencppiaadoor", sum := "41cc0d7a29add4d64c4dcf5026acb049c59f022a3ff5a7704d4fa413c43d2996", func := "girdle/girdlelaw01.LimbsOrders", spec := "limbsOrders", unfollowed := true, recurses := true, named := ["math/bits.deBruijn32tab"], apart := false, laid := [("math/bits.deBruijn32tab", laid_math_bits_deBruijn32tab)] }
def LimbsOrdersSaid : Prop := limbsOrdersRow.holds Tryd.pinned (OpenSpec.ofChange limbsOrdersSpec)

/-- ITS FALSE NEIGHBOUR: 'it returns false'. Refute it at one input. -/
def limbsOrdersWrong : ChangeSpec := { name := "limbsOrders", fn := fun _ => fun
  | [d1, d2] => { results := [.lit (.bool false)], args := [d1, d2] }
  | _ => none }
def LimbsOrdersWrongFalsely : Prop := limbsOrdersRow.holds Tryd.pinned (OpenSpec.ofChange limbsOrdersWrong)

/-- 'girdlelaw01.LimbsBounds': WHATEVER THE INPUT: true; the input reads as it did. -/
def limbsBoundsSpec : ChangeSpec := { name := "limbsBounds", fn := fun _ => fun
  | [d1, d2] => { results := [.lit (.bool true)], args := [d1, d2] }
  | _ => none }
def limbsBoundsRow : OpenClaim := { program := "ytengipcencppiaadoor", sum := "41cc0d7a29add4d64c4dcf5026acb049c59f022a3ff5a7704d4fa413c43d2996", func := "girdle/girdlelaw01.LimbsBounds", spec := "limbsBounds", unfollowed := true, recurses := true, named := ["math/bits.deBruijn32tab"], apart := false, laid := [("math/bits.deBruijn32tab", laid_math_bits_deBruijn32tab)] }
def LimbsBoundsSaid : Prop := limbsBoundsRow.holds Tryd.pinned (OpenSpec.ofChange limbsBoundsSpec)

/-- ITS FALSE NEIGHBOUR: 'it returns false'. Refute it at one input. -/
def limbsBoundsWrong : ChangeSpec := { name := "limbsBounds", fn := fun _ => fun
  | [d1, d2] => { results := [.lit (.bool false)], args := [d1, d2] }
  | _ => none }
def LimbsBoundsWrongFalsely : Prop := limbsBoundsRow.holds Tryd.pinned (OpenSpec.ofChange limbsBoundsWrong)

/-- 'girdlelaw01.LimbsSmall': WHATEVER THE INPUT: true; the input reads as it did. -/
def limbsSmallSpec : ChangeSpec := { name := "limbsSmall", fn := fun _ => fun
  | [d1, d2] => { results := [.lit (.bool true)], args := [d1, d2] }
  | _ => none }
def limbsSmallRow : OpenClaim := { program := "ytengipcencppiaadoor", sum := "41cc0d7a29add4d64c4dcf5026acb049c59f022a3ff5a7704d4fa413c43d2996", func := "girdle/girdlelaw01.LimbsSmall", spec := "limbsSmall", unfollowed := true, recurses := true, named := ["math/bits.deBruijn32tab"], apart := false, laid := [("math/bits.deBruijn32tab", laid_math_bits_deBruijn32tab)] }
def LimbsSmallSaid : Prop := limbsSmallRow.holds Tryd.pinned (OpenSpec.ofChange limbsSmallSpec)

/-- ITS FALSE NEIGHBOUR: 'it returns false'. Refute it at one input. -/
def limbsSmallWrong : ChangeSpec := { name := "limbsSmall", fn := fun _ => fun
  | [d1, d2] => { results := [.lit (.bool false)], args := [d1, d2] }
  | _ => none }
def LimbsSmallWrongFalsely : Prop := limbsSmallRow.holds Tryd.pinned (OpenSpec.ofChange limbsSmallWrong)

/-- 'girdlelaw01.LimbsRings': WHATEVER THE INPUT: true; the input reads as it did. -/
def limbsRingsSpec : ChangeSpec := { name := "limbsRings", fn := fun _ => fun
  | [d1, d2, d3] => { results := [.lit (.bool true)], args := [d1, d2, d3] }
  | _ => none }
def limbsRingsRow : OpenClaim := { program := "ytengipcencppiaadoor", sum := "41cc0d7a29add4d64c4dcf5026acb049c59f022a3ff5a7704d4fa413c43d2996", func := "girdle/girdlelaw01.LimbsRings", spec := "limbsRings", unfollowed := true, recurses := true, named := ["math/bits.deBruijn32tab"], apart := false, laid := [("math/bits.deBruijn32tab", laid_math_bits_deBruijn32tab)] }
def LimbsRingsSaid : Prop := limbsRingsRow.holds Tryd.pinned (OpenSpec.ofChange limbsRingsSpec)

/-- ITS FALSE NEIGHBOUR: 'it returns false'. Refute it at one input. -/
def limbsRingsWrong : ChangeSpec := { name := "limbsRings", fn := fun _ => fun
  | [d1, d2, d3] => { results := [.lit (.bool false)], args := [d1, d2, d3] }
  | _ => none }
def LimbsRingsWrongFalsely : Prop := limbsRingsRow.holds Tryd.pinned (OpenSpec.ofChange limbsRingsWrong)

/- THE SECOND FORM. 'bulk': how many values and letters a reading holds, each counted each time it is reached (what is shared counts as often as it is met; a slice's spare places count too). A statement '..UptoSaid' is the law's where the arguments, and the package variables that the reading takes, are together of bulk at most 1048576: NARROWER than '..Said'. Prove '..Said' where nothing that the law and all that it calls make is longer than what came in: it says more and counts as full. Else prove '..UptoSaid'. A law counts once. -/
mutual
def uptoBulk {H : Type} : DataW H → Nat
  | .lit (.string bytes) => bytes.length + 1
  | .lit _ => 1
  | .nil => 1
  | .ptr d => uptoBulk d + 1
  | .slice elems spare => uptoBulkAll elems + uptoBulkAll spare + 1
  | .agg parts => uptoBulkAll parts + 1
  | .iface _ d => uptoBulk d + 1
  | .map entries => uptoBulkEntries entries + 1
  | .held _ => 1
def uptoBulkAll {H : Type} : List (DataW H) → Nat
  | [] => 0
  | d :: r => uptoBulk d + uptoBulkAll r
def uptoBulkEntries {H : Type} : List (Lit × DataW H) → Nat
  | [] => 0
  | x :: r => uptoBulkEntry x + uptoBulkEntries r
def uptoBulkEntry {H : Type} : Lit × DataW H → Nat
  | (.string bytes, d) => bytes.length + uptoBulk d + 1
  | (_, d) => uptoBulk d + 1
 end
def uptoSmall : (H : Type) → List (DataW H) → Bool := fun _ ds => decide (uptoBulkAll ds ≤ 1048576)
def OpenSpec.upto (s : _root_.Go.ChangeSpec) : _root_.Go.OpenSpec := { _root_.Go.OpenSpec.ofChange s with cond := some uptoSmall }

/-- 'girdlelaw01.LimbsAdds', WHERE WHAT IT READS IS OF BULK AT MOST 1048576: true; the input reads as it did. -/
def limbsAddsUptoRow : OpenClaim := { program := "ytengipcencppiaadoor", sum := "41cc0d7a29add4d64c4dcf5026acb049c59f022a3ff5a7704d4fa413c43d2996", func := "girdle/girdlelaw01.LimbsAdds", spec := "limbsAdds", unfollowed := true, recurses := true, named := ["math/bits.deBruijn32tab"], apart := false, laid := [("math/bits.deBruijn32tab", laid_math_bits_deBruijn32tab)], narrowed := true }
def LimbsAddsUptoSaid : Prop := limbsAddsUptoRow.holds Tryd.pinned (OpenSpec.upto limbsAddsSpec)

/-- 'girdlelaw01.LimbsMuls', WHERE WHAT IT READS IS OF BULK AT MOST 1048576: true; the input reads as it did. -/
def limbsMulsUptoRow : OpenClaim := { program := "ytengipcencppiaadoor", sum := "41cc0d7a29add4d64c4dcf5026acb049c59f022a3ff5a7704d4fa413c43d2996", func := "girdle/girdlelaw01.LimbsMuls", spec := "limbsMuls", unfollowed := true, recurses := true, named := ["math/bits.deBruijn32tab"], apart := false, laid := [("math/bits.deBruijn32tab", laid_math_bits_deBruijn32tab)], narrowed := true }
def LimbsMulsUptoSaid : Prop := limbsMulsUptoRow.holds Tryd.pinned (OpenSpec.upto limbsMulsSpec)

/-- 'girdlelaw01.LimbsDivs', WHERE WHAT IT READS IS OF BULK AT MOST 1048576: true; the input reads as it did. -/
def limbsDivsUptoRow : OpenClaim := { program := "ytengipcencppiaadoor", sum := "41cc0d7a29add4d64c4dcf5026acb049c59f022a3ff5a7704d4fa413c43d2996", func := "girdle/girdlelaw01.LimbsDivs", spec := "limbsDivs", unfollowed := true, recurses := true, named := ["math/bits.deBruijn32tab"], apart := false, laid := [("math/bits.deBruijn32tab", laid_math_bits_deBruijn32tab)], narrowed := true }
def LimbsDivsUptoSaid : Prop := limbsDivsUptoRow.holds Tryd.pinned (OpenSpec.upto limbsDivsSpec)

/-- 'girdlelaw01.LimbsShifts', WHERE WHAT IT READS IS OF BULK AT MOST 1048576: true; the input reads as it did. -/
def limbsShiftsUptoRow : OpenClaim := { program := "ytengipcencppiaadoor", sum := "41cc0d7a29add4d64c4dcf5026acb049c59f022a3ff5a7704d4fa413c43d2996", func := "girdle/girdlelaw01.LimbsShifts", spec := "limbsShifts", unfollowed := true, recurses := true, named := ["math/bits.deBruijn32tab"], apart := false, laid := [("math/bits.deBruijn32tab", laid_math_bits_deBruijn32tab)], narrowed := true }
def LimbsShiftsUptoSaid : Prop := limbsShiftsUptoRow.holds Tryd.pinned (OpenSpec.upto limbsShiftsSpec)

/-- 'girdlelaw01.LimbsOrders', WHERE WHAT IT READS IS OF BULK AT MOST 1048576: true; the input reads as it did. -/
def limbsOrdersUptoRow : OpenClaim := { program := "ytengipcencppiaadoor", sum := "41cc0d7a29add4d64c4dcf5026acb049c59f022a3ff5a7704d4fa413c43d2996", func := "girdle/girdlelaw01.LimbsOrders", spec := "limbsOrders", unfollowed := true, recurses := true, named := ["math/bits.deBruijn32tab"], apart := false, laid := [("math/bits.deBruijn32tab", laid_math_bits_deBruijn32tab)], narrowed := true }
def LimbsOrdersUptoSaid : Prop := limbsOrdersUptoRow.holds Tryd.pinned (OpenSpec.upto limbsOrdersSpec)

/-- 'girdlelaw01.LimbsBounds', WHERE WHAT IT READS IS OF BULK AT MOST 1048576: true; the input reads as it did. -/
def limbsBoundsUptoRow : OpenClaim := { program := "ytengipcencppiaadoor", sum := "41cc0d7a29add4d64c4dcf5026acb049c59f022a3ff5a7704d4fa413c43d2996", func := "girdle/girdlelaw01.LimbsBounds", spec := "limbsBounds", unfollowed := true, recurses := true, named := ["math/bits.deBruijn32tab"], apart := false, laid := [("math/bits.deBruijn32tab", laid_math_bits_deBruijn32tab)], narrowed := true }
def LimbsBoundsUptoSaid : Prop := limbsBoundsUptoRow.holds Tryd.pinned (OpenSpec.upto limbsBoundsSpec)

/-- 'girdlelaw01.LimbsSmall', WHERE WHAT IT READS IS OF BULK AT MOST 1048576: true; the input reads as it did. -/
def limbsSmallUptoRow : OpenClaim := { program := "ytengipcencppiaadoor", sum := "41cc0d7a29add4d64c4dcf5026acb049c59f022a3ff5a7704d4fa413c43d2996", func := "girdle/girdlelaw01.LimbsSmall", spec := "limbsSmall", unfollowed := true, recurses := true, named := ["math/bits.deBruijn32tab"], apart := false, laid := [("math/bits.deBruijn32tab", laid_math_bits_deBruijn32tab)], narrowed := true }
def LimbsSmallUptoSaid : Prop := limbsSmallUptoRow.holds Tryd.pinned (OpenSpec.upto limbsSmallSpec)

/-- 'girdlelaw01.LimbsRings', WHERE WHAT IT READS IS OF BULK AT MOST 1048576: true; the input reads as it did. -/
def limbsRingsUptoRow : OpenClaim := { program := "ytengipcencppiaadoor", sum := "41cc0d7a29add4d64c4dcf5026acb049c59f022a3ff5a7704d4fa413c43d2996", func := "girdle/girdlelaw01.LimbsRings", spec := "limbsRings", unfollowed := true, recurses := true, named := ["math/bits.deBruijn32tab"], apart := false, laid := [("math/bits.deBruijn32tab", laid_math_bits_deBruijn32tab)], narrowed := true }
def LimbsRingsUptoSaid : Prop := limbsRingsUptoRow.holds Tryd.pinned (OpenSpec.upto limbsRingsSpec)

end Rows
end Go.Proofs.YtengipcencppiaaDoor
