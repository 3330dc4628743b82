/-
  NARROWER THAN 'FOR EVERY INPUT', by the rows' own cells (each row's printed sentence says how): DyadOrders: laid · DyadRounds: laid · DyadHalves: laid · DyadMakes: laid · DyadRings: laid · DyadNear: laid.
  DERIVED. THE GIVEN ROWS OF THIS SEAT. 6 by the template 'for every input the law returns true; each argument reads behind the call as it read before'; 0 by the template 'total and deterministic' (their statements: YtninholkanohkaaDoorTotals.lean).
  GIVEN WITH THE SEED: the statements are not yours to turn. If you find one false, say at which input.
  Laid BY PROGRAM, IN A SANDBOX (cutbox-rows.mjs): the forced cells as the released guide's own fill.sh prints them over the translation c99c6dbe66ee9252… (all of the seat's roots in one cut). By AI agents, Wed Nov 11 2026. No macro, syntax, notation, axiom, sorry.
-/
import Derived.Test.YtninholkanohkaaDoorChecked
import GoSem.PinnedTables
import GoSem.Claim
import GoSem.ClaimJoined
import GoSem.ClaimMapViews
import Derived.JoinedTies
import Derived.KernelRfl
namespace Go.Proofs.YtninholkanohkaaDoor
/- THE CELL 'sum', in the pinned program and in every row, IS THE sha256 OF THE DUMP (.gsa) THAT YtninholkanohkaaDoorProg.lean LOADS. Nothing in Lean hashes anything: it is a label: what it is worth is what the hold of that sum in a sandbox is worth. -/
noncomputable def Tryd.pinned : Pinned := { name := "ytninholkanohkaadoor", sum := "c99c6dbe66ee9252aa0960541422c0e068524565bc36db9e713758f147ca9d5f", checked := Tryd.checked }
namespace Rows
def none {H : Type} : Left H := { results := [], args := [] }

/- WHAT THE LISTED PACKAGE-LEVEL VARIABLES READ AS WHEN THE CALL BEGINS. Each datum BY PROGRAM (the guide's laid-datum.mjs) off the statement by which the dump's own 'gosem.cut.vars' lays the variable. In a bare row this is a premise. The card (YtninholkanohkaaDoorCards.lean) ties it to the program's text. -/
def laid_math_bits_deBruijn32tab {H : Type} : DataW H := .agg [.lit (.int .u8 0), .lit (.int .u8 1), .lit (.int .u8 28), .lit (.int .u8 2), .lit (.int .u8 29), .lit (.int .u8 14), .lit (.int .u8 24), .lit (.int .u8 3), .lit (.int .u8 30), .lit (.int .u8 22), .lit (.int .u8 20), .lit (.int .u8 15), .lit (.int .u8 25), .lit (.int .u8 17), .lit (.int .u8 4), .lit (.int .u8 8), .lit (.int .u8 31), .lit (.int .u8 27), .lit (.int .u8 13), .lit (.int .u8 23), .lit (.int .u8 21), .lit (.int .u8 19), .lit (.int .u8 16), .lit (.int .u8 7), .lit (.int .u8 26), .lit (.int .u8 12), .lit (.int .u8 18), .lit (.int .u8 6), .lit (.int .u8 11), .lit (.int .u8 5), .lit (.int .u8 10), .lit (.int .u8 9)]
def laid_unicode_utf8_acceptRanges {H : Type} : DataW H := .agg [.agg [.lit (.int .u8 128), .lit (.int .u8 191)], .agg [.lit (.int .u8 160), .lit (.int .u8 191)], .agg [.lit (.int .u8 128), .lit (.int .u8 159)], .agg [.lit (.int .u8 144), .lit (.int .u8 191)], .agg [.lit (.int .u8 128), .lit (.int .u8 143)], .agg [.lit (.int .u8 0), .lit (.int .u8 0)], .agg [.lit (.int .u8 0), .lit (.int .u8 0)], .agg [.lit (.int .u8 0), .lit (.int .u8 0)], .agg [.lit (.int .u8 0), .lit (.int .u8 0)], .agg [.lit (.int .u8 0), .lit (.int .u8 0)], .agg [.lit (.int .u8 0), .lit (.int .u8 0)], .agg [.lit (.int .u8 0), .lit (.int .u8 0)], .agg [.lit (.int .u8 0), .lit (.int .u8 0)], .agg [.lit (.int .u8 0), .lit (.int .u8 0)], .agg [.lit (.int .u8 0), .lit (.int .u8 0)], .agg [.lit (.int .u8 0), .lit (.int .u8 0)]]
/-- One of Go's own tables, pinned by name: the form's constant. -/
def laid_unicode_utf8_first : DataW Unit := Go.Pinned.utf8First

/-- 'girdlelaw05.DyadOrders': WHATEVER THE INPUT: true; the input reads as it did. -/
def dyadOrdersSpec : ChangeSpec := { name := "dyadOrders", fn := fun _ => fun
  | [d1, d2] => { results := [.lit (.bool true)], args := [d1, d2] }
  | _ => none }
def dyadOrdersRow : OpenClaim := { program := "ytninholkanohkaadoor", sum := "c99c6dbe66ee9252aa0960541422c0e068524565bc36db9e713758f147ca9d5f", func := "girdle/girdlelaw05.DyadOrders", spec := "dyadOrders", inPlace := ["internal/bytealg.IndexByteString", "internal/bytealg.IndexString"], unfollowed := true, recurses := true, named := ["math/bits.deBruijn32tab", "unicode/utf8.first", "unicode/utf8.acceptRanges", "internal/bytealg.MaxLen"], apart := false, laid := [("math/bits.deBruijn32tab", laid_math_bits_deBruijn32tab), ("unicode/utf8.acceptRanges", laid_unicode_utf8_acceptRanges), ("unicode/utf8.first", laid_unicode_utf8_first)] }
def DyadOrdersSaid : Prop := dyadOrdersRow.holds Tryd.pinned (OpenSpec.ofChange dyadOrdersSpec)

/-- ITS FALSE NEIGHBOUR: 'it returns false'. Refute it at one input. -/
def dyadOrdersWrong : ChangeSpec := { name := "dyadOrders", fn := fun _ => fun
  | [d1, d2] => { results := [.lit (.bool false)], args := [d1, d2] }
  | _ => none }
def DyadOrdersWrongFalsely : Prop := dyadOrdersRow.holds Tryd.pinned (OpenSpec.ofChange dyadOrdersWrong)

/-- 'girdlelaw05.DyadRounds': WHATEVER THE INPUT: true; the input reads as it did. -/
def dyadRoundsSpec : ChangeSpec := { name := "dyadRounds", fn := fun _ => fun
  | [d1, d2, d3] => { results := [.lit (.bool true)], args := [d1, d2, d3] }
  | _ => none }
def dyadRoundsRow : OpenClaim := { program := "ytninholkanohkaadoor", sum := "c99c6dbe66ee9252aa0960541422c0e068524565bc36db9e713758f147ca9d5f", func := "girdle/girdlelaw05.DyadRounds", spec := "dyadRounds", inPlace := ["internal/bytealg.IndexByteString", "internal/bytealg.IndexString"], unfollowed := true, recurses := true, named := ["math/bits.deBruijn32tab", "unicode/utf8.first", "unicode/utf8.acceptRanges", "internal/bytealg.MaxLen"], apart := false, laid := [("math/bits.deBruijn32tab", laid_math_bits_deBruijn32tab), ("unicode/utf8.acceptRanges", laid_unicode_utf8_acceptRanges), ("unicode/utf8.first", laid_unicode_utf8_first)] }
def DyadRoundsSaid : Prop := dyadRoundsRow.holds Tryd.pinned (OpenSpec.ofChange dyadRoundsSpec)

/-- ITS FALSE NEIGHBOUR: 'it returns false'. Refute it at one input. -/
def dyadRoundsWrong : ChangeSpec := { name := "dyadRounds", fn := fun _ => fun
  | [d1, d2, d3] => { results := [.lit (.bool false)], args := [d1, d2, d3] }
  | _ => none }
def DyadRoundsWrongFalsely : Prop := dyadRoundsRow.holds Tryd.pinned (OpenSpec.ofChange dyadRoundsWrong)

/-- 'girdlelaw05.DyadHalves': WHATEVER THE INPUT: true; the input reads as it did. -/
def dyadHalvesSpec : ChangeSpec := { name := "dyadHalves", fn := fun _ => fun
  | [d1, d2] => { results := [.lit (.bool true)], args := [d1, d2] }
  | _ => none }
def dyadHalvesRow : OpenClaim := { program := "ytninholkanohkaadoor", sum := "c99c6dbe66ee9252aa0960541422c0e068524565bc36db9e713758f147ca9d5f", func := "girdle/girdlelaw05.DyadHalves", spec := "dyadHalves", inPlace := ["internal/bytealg.IndexByteString", "internal/bytealg.IndexString"], unfollowed := true, recurses := true, named := ["math/bits.deBruijn32tab", "unicode/utf8.first", "unicode/utf8.acceptRanges", "internal/bytealg.MaxLen"], apart := false, laid := [("math/bits.deBruijn32tab", laid_math_bits_deBruijn32tab), ("unicode/utf8.acceptRanges", laid_unicode_utf8_acceptRanges), ("unicode/utf8.first", laid_unicode_utf8_first)] }
def DyadHalvesSaid : Prop := dyadHalvesRow.holds Tryd.pinned (OpenSpec.ofChange dyadHalvesSpec)

/-- ITS FALSE NEIGHBOUR: 'it returns false'. Refute it at one input. -/
def dyadHalvesWrong : ChangeSpec := { name := "dyadHalves", fn := fun _ => fun
  | [d1, d2] => { results := [.lit (.bool false)], args := [d1, d2] }
  | _ => none }
def DyadHalvesWrongFalsely : Prop := dyadHalvesRow.holds Tryd.pinned (OpenSpec.ofChange dyadHalvesWrong)

/-- 'girdlelaw05.DyadMakes': WHATEVER THE INPUT: true; the input reads as it did. -/
def dyadMakesSpec : ChangeSpec := { name := "dyadMakes", fn := fun _ => fun
  | [d1, d2] => { results := [.lit (.bool true)], args := [d1, d2] }
  | _ => none }
def dyadMakesRow : OpenClaim := { program := "ytninholkanohkaadoor", sum := "c99c6dbe66ee9252aa0960541422c0e068524565bc36db9e713758f147ca9d5f", func := "girdle/girdlelaw05.DyadMakes", spec := "dyadMakes", inPlace := ["internal/bytealg.IndexByteString", "internal/bytealg.IndexString"], unfollowed := true, recurses := true, named := ["math/bits.deBruijn32tab", "unicode/utf8.first", "unicode/utf8.acceptRanges", "internal/bytealg.MaxLen"], apart := false, laid := [("math/bits.deBruijn32tab", laid_math_bits_deBruijn32tab), ("unicode/utf8.acceptRanges", laid_unicode_utf8_acceptRanges), ("unicode/utf8.first", laid_unicode_utf8_first)] }
def DyadMakesSaid : Prop := dyadMakesRow.holds Tryd.pinned (OpenSpec.ofChange dyadMakesSpec)

/-- ITS FALSE NEIGHBOUR: 'it returns false'. Refute it at one input. -/
def dyadMakesWrong : ChangeSpec := { name := "dyadMakes", fn := fun _ => fun
  | [d1, d2] => { results := [.lit (.bool false)], args := [d1, d2] }
  | _ => none }
def DyadMakesWrongFalsely : Prop := dyadMakesRow.holds Tryd.pinned (OpenSpec.ofChange dyadMakesWrong)

/-- 'girdlelaw05.DyadRings': WHATEVER THE INPUT: true; the input reads as it did. -/
def dyadRingsSpec : ChangeSpec := { name := "dyadRings", fn := fun _ => fun
  | [d1, d2] => { results := [.lit (.bool true)], args := [d1, d2] }
  | _ => none }
def dyadRingsRow : OpenClaim := { program := "ytninholkanohkaadoor", sum := "c99c6dbe66ee9252aa0960541422c0e068524565bc36db9e713758f147ca9d5f", func := "girdle/girdlelaw05.DyadRings", spec := "dyadRings", inPlace := ["internal/bytealg.IndexByteString", "internal/bytealg.IndexString"], unfollowed := true, recurses := true, named := ["math/bits.deBruijn32tab", "unicode/utf8.first", "unicode/utf8.acceptRanges", "internal/bytealg.MaxLen"], apart := false, laid := [("math/bits.deBruijn32tab", laid_math_bits_deBruijn32tab), ("unicode/utf8.acceptRanges", laid_unicode_utf8_acceptRanges), ("unicode/utf8.first", laid_unicode_utf8_first)] }
def DyadRingsSaid : Prop := dyadRingsRow.holds Tryd.pinned (OpenSpec.ofChange dyadRingsSpec)

/-- ITS FALSE NEIGHBOUR: 'it returns false'. Refute it at one input. -/
def dyadRingsWrong : ChangeSpec := { name := "dyadRings", fn := fun _ => fun
  | [d1, d2] => { results := [.lit (.bool false)], args := [d1, d2] }
  | _ => none }
def DyadRingsWrongFalsely : Prop := dyadRingsRow.holds Tryd.pinned (OpenSpec.ofChange dyadRingsWrong)

/-- 'girdlelaw05.DyadNear': WHATEVER THE INPUT: true; the input reads as it did. -/
def dyadNearSpec : ChangeSpec := { name := "dyadNear", fn := fun _ => fun
  | [d1, d2] => { results := [.lit (.bool true)], args := [d1, d2] }
  | _ => none }
def dyadNearRow : OpenClaim := { program := "ytninholkanohkaadoor", sum := "c99c6dbe66ee9252aa0960541422c0e068524565bc36db9e713758f147ca9d5f", func := "girdle/girdlelaw05.DyadNear", spec := "dyadNear", inPlace := ["internal/bytealg.IndexByteString", "internal/bytealg.IndexString"], unfollowed := true, recurses := true, named := ["math/bits.deBruijn32tab", "unicode/utf8.first", "unicode/utf8.acceptRanges", "internal/bytealg.MaxLen"], apart := false, laid := [("math/bits.deBruijn32tab", laid_math_bits_deBruijn32tab), ("unicode/utf8.acceptRanges", laid_unicode_utf8_acceptRanges), ("unicode/utf8.first", laid_unicode_utf8_first)] }
def DyadNearSaid : Prop := dyadNearRow.holds Tryd.pinned (OpenSpec.ofChange dyadNearSpec)

/-- ITS FALSE NEIGHBOUR: 'it returns false'. Refute it at one input. -/
def dyadNearWrong : ChangeSpec := { name := "dyadNear", fn := fun _ => fun
  | [d1, d2] => { results := [.lit (.bool false)], args := [d1, d2] }
  | _ => none }
def DyadNearWrongFalsely : Prop := dyadNearRow.holds Tryd.pinned (OpenSpec.ofChange dyadNearWrong)

/- THE SECOND FORM. 'bulk': how many values and letters a reading holds, each counted each time it is reached (what is shared counts as often as it is met; a slice's spare places count too). A statement '..UptoSaid' is the law's where the arguments, and the package variables that the reading takes, are together of bulk at most 1048576: NARROWER than '..Said'. Prove '..Said' where nothing that the law and all that it calls make is longer than what came in: it says more and counts as full. Else prove '..UptoSaid'. A law counts once. -/
mutual
def uptoBulk {H : Type} : DataW H → Nat
  | .lit (.string bytes) => bytes.length + 1
  | .lit _ => 1
  | .nil => 1
  | .ptr d => uptoBulk d + 1
  | .slice elems spare => uptoBulkAll elems + uptoBulkAll spare + 1
  | .agg parts => uptoBulkAll parts + 1
  | .iface _ d => uptoBulk d + 1
  | .map entries => uptoBulkEntries entries + 1
  | .held _ => 1
def uptoBulkAll {H : Type} : List (DataW H) → Nat
  | [] => 0
  | d :: r => uptoBulk d + uptoBulkAll r
def uptoBulkEntries {H : Type} : List (Lit × DataW H) → Nat
  | [] => 0
  | x :: r => uptoBulkEntry x + uptoBulkEntries r
def uptoBulkEntry {H : Type} : Lit × DataW H → Nat
  | (.string bytes, d) => bytes.length + uptoBulk d + 1
  | (_, d) => uptoBulk d + 1
 end
def uptoSmall : (H : Type) → List (DataW H) → Bool := fun _ ds => decide (uptoBulkAll ds ≤ 1048576)
def OpenSpec.upto (s : _root_.Go.ChangeSpec) : _root_.Go.OpenSpec := { _root_.Go.OpenSpec.ofChange s with cond := some uptoSmall }

/-- 'girdlelaw05.DyadOrders', WHERE WHAT IT READS IS OF BULK AT MOST 1048576: true; the input reads as it did. -/
def dyadOrdersUptoRow : OpenClaim := { program := "ytninholkanohkaadoor", sum := "c99c6dbe66ee9252aa0960541422c0e068524565bc36db9e713758f147ca9d5f", func := "girdle/girdlelaw05.DyadOrders", spec := "dyadOrders", inPlace := ["internal/bytealg.IndexByteString", "internal/bytealg.IndexString"], unfollowed := true, recurses := true, named := ["math/bits.deBruijn32tab", "unicode/utf8.first", "unicode/utf8.acceptRanges", "internal/bytealg.MaxLen"], apart := false, laid := [("math/bits.deBruijn32tab", laid_math_bits_deBruijn32tab), ("unicode/utf8.acceptRanges", laid_unicode_utf8_acceptRanges), ("unicode/utf8.first", laid_unicode_utf8_first)], narrowed := true }
def DyadOrdersUptoSaid : Prop := dyadOrdersUptoRow.holds Tryd.pinned (OpenSpec.upto dyadOrdersSpec)

/-- 'girdlelaw05.DyadRounds', WHERE WHAT IT READS IS OF BULK AT MOST 1048576: true; the input reads as it did. -/
def dyadRoundsUptoRow : OpenClaim := { program := "ytninholkanohkaadoor", sum := "c99c6dbe66ee9252aa0960541422c0e068524565bc36db9e713758f147ca9d5f", func := "girdle/girdlelaw05.DyadRounds", spec := "dyadRounds", inPlace := ["internal/bytealg.IndexByteString", "internal/bytealg.IndexString"], unfollowed := true, recurses := true, named := ["math/bits.deBruijn32tab", "unicode/utf8.first", "unicode/utf8.acceptRanges", "internal/bytealg.MaxLen"], apart := false, laid := [("math/bits.deBruijn32tab", laid_math_bits_deBruijn32tab), ("unicode/utf8.acceptRanges", laid_unicode_utf8_acceptRanges), ("unicode/utf8.first", laid_unicode_utf8_first)], narrowed := true }
def DyadRoundsUptoSaid : Prop := dyadRoundsUptoRow.holds Tryd.pinned (OpenSpec.upto dyadRoundsSpec)

/-- 'girdlelaw05.DyadHalves', WHERE WHAT IT READS IS OF BULK AT MOST 1048576: true; the input reads as it did. -/
def dyadHalvesUptoRow : OpenClaim := { program := "ytninholkanohkaadoor", sum := "c99c6dbe66ee9252aa0960541422c0e068524565bc36db9e713758f147ca9d5f", func := "girdle/girdlelaw05.DyadHalves", spec := "dyadHalves", inPlace := ["internal/bytealg.IndexByteString", "internal/bytealg.IndexString"], unfollowed := true, recurses := true, named := ["math/bits.deBruijn32tab", "unicode/utf8.first", "unicode/utf8.acceptRanges", "internal/bytealg.MaxLen"], apart := false, laid := [("math/bits.deBruijn32tab", laid_math_bits_deBruijn32tab), ("unicode/utf8.acceptRanges", laid_unicode_utf8_acceptRanges), ("unicode/utf8.first", laid_unicode_utf8_first)], narrowed := true }
def DyadHalvesUptoSaid : Prop := dyadHalvesUptoRow.holds Tryd.pinned (OpenSpec.upto dyadHalvesSpec)

/-- 'girdlelaw05.DyadMakes', WHERE WHAT IT READS IS OF BULK AT MOST 1048576: true; the input reads as it did. -/
def dyadMakesUptoRow : OpenClaim := { program := "ytninholkanohkaadoor", sum := "c99c6dbe66ee9252aa0960541422c0e068524565bc36db9e713758f147ca9d5f", func := "girdle/girdlelaw05.DyadMakes", spec := "dyadMakes", inPlace := ["internal/bytealg.IndexByteString", "internal/bytealg.IndexString"], unfollowed := true, recurses := true, named := ["math/bits.deBruijn32tab", "unicode/utf8.first", "unicode/utf8.acceptRanges", "internal/bytealg.MaxLen"], apart := false, laid := [("math/bits.deBruijn32tab", laid_math_bits_deBruijn32tab), ("unicode/utf8.acceptRanges", laid_unicode_utf8_acceptRanges), ("unicode/utf8.first", laid_unicode_utf8_first)], narrowed := true }
def DyadMakesUptoSaid : Prop := dyadMakesUptoRow.holds Tryd.pinned (OpenSpec.upto dyadMakesSpec)

/-- 'girdlelaw05.DyadRings', WHERE WHAT IT READS IS OF BULK AT MOST 1048576: true; the input reads as it did. -/
def dyadRingsUptoRow : OpenClaim := { program := "ytninholkanohkaadoor", sum := "c99c6dbe66ee9252aa0960541422c0e068524565bc36db9e713758f147ca9d5f", func := "girdle/girdlelaw05.DyadRings", spec := "dyadRings", inPlace := ["internal/bytealg.IndexByteString", "internal/bytealg.IndexString"], unfollowed := true, recurses := true, named := ["math/bits.deBruijn32tab", "unicode/utf8.first", "unicode/utf8.acceptRanges", "internal/bytealg.MaxLen"], apart := false, laid := [("math/bits.deBruijn32tab", laid_math_bits_deBruijn32tab), ("unicode/utf8.acceptRanges", laid_unicode_utf8_acceptRanges), ("unicode/utf8.first", laid_unicode_utf8_first)], narrowed := true }
def DyadRingsUptoSaid : Prop := dyadRingsUptoRow.holds Tryd.pinned (OpenSpec.upto dyadRingsSpec)

/-- 'girdlelaw05.DyadNear', WHERE WHAT IT READS IS OF BULK AT MOST 1048576: true; the input reads as it did. -/
def dyadNearUptoRow : OpenClaim := { program := "ytninholkanohkaadoor", sum := "c99c6dbe66ee9252aa0960541422c0e068524565bc36db9e713758f147ca9d5f", func := "girdle/girdlelaw05.DyadNear", spec := "dyadNear", inPlace := ["internal/bytealg.IndexByteString", "internal/bytealg.IndexString"], unfollowed := true, recurses := true, named := ["math/bits.deBruijn32tab", "unicode/utf8.first", "unicode/utf8.acceptRanges", "internal/bytealg.MaxLen"], apart := false, laid := [("math/bits.deBruijn32tab", laid_math_bits_deBruijn32tab), ("unicode/utf8.acceptRanges", laid_unicode_utf8_acceptRanges), ("unicode/utf8.first", laid_unicode_utf8_first)], narrowed := true }
def DyadNearUptoSaid : Prop := dyadNearUptoRow.holds Tryd.pinned (OpenSpec.upto dyadNearSpec)

end Rows
end Go.Proofs.YtninholkanohkaaDoor
