/-
  NARROWER THAN 'FOR EVERY INPUT', by the rows' own cells (each row's printed sentence says how): DigitsParses: laid · DigitsGcd: laid · DigitsPlaces: laid · DigitsTens: laid · DigitsBack: laid · DigitsLong: laid.
  DERIVED. THE GIVEN ROWS OF THIS SEAT. 6 by the template 'for every input the law returns true; each argument reads behind the call as it read before'; 0 by the template 'total and deterministic' (their statements: YtgckjlbdeopfbaaDoorTotals.lean).
  GIVEN WITH THE SEED: the statements are not yours to turn. If you find one false, say at which input.
  Laid BY PROGRAM, IN A SANDBOX (cutbox-rows.mjs): the forced cells as the released guide's own fill.sh prints them over the translation 44efd105fcc6cf13… (all of the seat's roots in one cut). By AI agents, Wed Nov 11 2026. No macro, syntax, notation, axiom, sorry.
-/
import Derived.Test.YtgckjlbdeopfbaaDoorChecked
import GoSem.PinnedTables
import GoSem.Claim
import GoSem.ClaimJoined
import GoSem.ClaimMapViews
import Derived.JoinedTies
import Derived.KernelRfl
namespace Go.Proofs.YtgckjlbdeopfbaaDoor
/- THE CELL 'sum', in the pinned program and in every row, IS THE sha256 OF THE DUMP (.gsa) THAT YtgckjlbdeopfbaaDoorProg.lean LOADS. Nothing in Lean hashes anything: it is a label: what it is worth is what the hold of that sum in a sandbox is worth. -/
noncomputable def Tryd.pinned : Pinned := { name := "ytgckjlbdeopfbaadoor", sum := "44efd105fcc6cf13863aa77d82c6db7763b54566e6db3ae98f5a047c65f48c3d", checked := Tryd.checked }
namespace Rows
def none {H : Type} : Left H := { results := [], args := [] }

/- WHAT THE LISTED PACKAGE-LEVEL VARIABLES READ AS WHEN THE CALL BEGINS. Each datum BY PROGRAM (the guide's laid-datum.mjs) off the statement by which the dump's own 'gosem.cut.vars' lays the variable. In a bare row this is a premise. The card (YtgckjlbdeopfbaaDoorCards.lean) ties it to the program's text. -/
def laid_unicode_utf8_acceptRanges {H : Type} : DataW H := .agg [.agg [.lit (.int .u8 128), .lit (.int .u8 191)], .agg [.lit (.int .u8 160), .lit (.int .u8 191)], .agg [.lit (.int .u8 128), .lit (.int .u8 159)], .agg [.lit (.int .u8 144), .lit (.int .u8 191)], .agg [.lit (.int .u8 128), .lit (.int .u8 143)], .agg [.lit (.int .u8 0), .lit (.int .u8 0)], .agg [.lit (.int .u8 0), .lit (.int .u8 0)], .agg [.lit (.int .u8 0), .lit (.int .u8 0)], .agg [.lit (.int .u8 0), .lit (.int .u8 0)], .agg [.lit (.int .u8 0), .lit (.int .u8 0)], .agg [.lit (.int .u8 0), .lit (.int .u8 0)], .agg [.lit (.int .u8 0), .lit (.int .u8 0)], .agg [.lit (.int .u8 0), .lit (.int .u8 0)], .agg [.lit (.int .u8 0), .lit (.int .u8 0)], .agg [.lit (.int .u8 0), .lit (.int .u8 0)], .agg [.lit (.int .u8 0), .lit (.int .u8 0)]]
/-- One of Go's own tables, pinned by name: the form's constant. -/
def laid_unicode_utf8_first : DataW Unit := Go.Pinned.utf8First

/-- 'girdlelaw02.DigitsParses': WHATEVER THE INPUT: true; the input reads as it did. -/
def digitsParsesSpec : ChangeSpec := { name := "digitsParses", fn := fun _ => fun
  | [d] => { results := [.lit (.bool true)], args := [d] }
  | _ => none }
def digitsParsesRow : OpenClaim := { program := "ytgckjlbdeopfbaadoor", sum := "44efd105fcc6cf13863aa77d82c6db7763b54566e6db3ae98f5a047c65f48c3d", func := "girdle/girdlelaw02.DigitsParses", spec := "digitsParses", inPlace := ["internal/bytealg.IndexByteString", "internal/bytealg.IndexString"], unfollowed := true, recurses := true, named := ["unicode/utf8.first", "unicode/utf8.acceptRanges", "internal/bytealg.MaxLen"], apart := false, laid := [("unicode/utf8.acceptRanges", laid_unicode_utf8_acceptRanges), ("unicode/utf8.first", laid_unicode_utf8_first)] }
def DigitsParsesSaid : Prop := digitsParsesRow.holds Tryd.pinned (OpenSpec.ofChange digitsParsesSpec)

/-- ITS FALSE NEIGHBOUR: 'it returns false'. Refute it at one input. -/
def digitsParsesWrong : ChangeSpec := { name := "digitsParses", fn := fun _ => fun
  | [d] => { results := [.lit (.bool false)], args := [d] }
  | _ => none }
def DigitsParsesWrongFalsely : Prop := digitsParsesRow.holds Tryd.pinned (OpenSpec.ofChange digitsParsesWrong)

/-- 'girdlelaw02.DigitsGcd': WHATEVER THE INPUT: true; the input reads as it did. -/
def digitsGcdSpec : ChangeSpec := { name := "digitsGcd", fn := fun _ => fun
  | [d1, d2, d3] => { results := [.lit (.bool true)], args := [d1, d2, d3] }
  | _ => none }
def digitsGcdRow : OpenClaim := { program := "ytgckjlbdeopfbaadoor", sum := "44efd105fcc6cf13863aa77d82c6db7763b54566e6db3ae98f5a047c65f48c3d", func := "girdle/girdlelaw02.DigitsGcd", spec := "digitsGcd", inPlace := ["internal/bytealg.IndexByteString", "internal/bytealg.IndexString"], unfollowed := true, recurses := true, named := ["unicode/utf8.first", "unicode/utf8.acceptRanges", "internal/bytealg.MaxLen"], apart := false, laid := [("unicode/utf8.acceptRanges", laid_unicode_utf8_acceptRanges), ("unicode/utf8.first", laid_unicode_utf8_first)] }
def DigitsGcdSaid : Prop := digitsGcdRow.holds Tryd.pinned (OpenSpec.ofChange digitsGcdSpec)

/-- ITS FALSE NEIGHBOUR: 'it returns false'. Refute it at one input. -/
def digitsGcdWrong : ChangeSpec := { name := "digitsGcd", fn := fun _ => fun
  | [d1, d2, d3] => { results := [.lit (.bool false)], args := [d1, d2, d3] }
  | _ => none }
def DigitsGcdWrongFalsely : Prop := digitsGcdRow.holds Tryd.pinned (OpenSpec.ofChange digitsGcdWrong)

/-- 'girdlelaw02.DigitsPlaces': WHATEVER THE INPUT: true; the input reads as it did. -/
def digitsPlacesSpec : ChangeSpec := { name := "digitsPlaces", fn := fun _ => fun
  | [d] => { results := [.lit (.bool true)], args := [d] }
  | _ => none }
def digitsPlacesRow : OpenClaim := { program := "ytgckjlbdeopfbaadoor", sum := "44efd105fcc6cf13863aa77d82c6db7763b54566e6db3ae98f5a047c65f48c3d", func := "girdle/girdlelaw02.DigitsPlaces", spec := "digitsPlaces", inPlace := ["internal/bytealg.IndexByteString", "internal/bytealg.IndexString"], unfollowed := true, recurses := true, named := ["unicode/utf8.first", "unicode/utf8.acceptRanges", "internal/bytealg.MaxLen"], apart := false, laid := [("unicode/utf8.acceptRanges", laid_unicode_utf8_acceptRanges), ("unicode/utf8.first", laid_unicode_utf8_first)] }
def DigitsPlacesSaid : Prop := digitsPlacesRow.holds Tryd.pinned (OpenSpec.ofChange digitsPlacesSpec)

/-- ITS FALSE NEIGHBOUR: 'it returns false'. Refute it at one input. -/
def digitsPlacesWrong : ChangeSpec := { name := "digitsPlaces", fn := fun _ => fun
  | [d] => { results := [.lit (.bool false)], args := [d] }
  | _ => none }
def DigitsPlacesWrongFalsely : Prop := digitsPlacesRow.holds Tryd.pinned (OpenSpec.ofChange digitsPlacesWrong)

/-- 'girdlelaw02.DigitsTens': WHATEVER THE INPUT: true; the input reads as it did. -/
def digitsTensSpec : ChangeSpec := { name := "digitsTens", fn := fun _ => fun
  | [d] => { results := [.lit (.bool true)], args := [d] }
  | _ => none }
def digitsTensRow : OpenClaim := { program := "ytgckjlbdeopfbaadoor", sum := "44efd105fcc6cf13863aa77d82c6db7763b54566e6db3ae98f5a047c65f48c3d", func := "girdle/girdlelaw02.DigitsTens", spec := "digitsTens", inPlace := ["internal/bytealg.IndexByteString", "internal/bytealg.IndexString", "internal/abi.NoEscape", "internal/bytealg.MakeNoZero"], unfollowed := true, recurses := true, named := ["unicode/utf8.first", "unicode/utf8.acceptRanges", "internal/bytealg.MaxLen"], apart := false, laid := [("unicode/utf8.acceptRanges", laid_unicode_utf8_acceptRanges), ("unicode/utf8.first", laid_unicode_utf8_first)] }
def DigitsTensSaid : Prop := digitsTensRow.holds Tryd.pinned (OpenSpec.ofChange digitsTensSpec)

/-- ITS FALSE NEIGHBOUR: 'it returns false'. Refute it at one input. -/
def digitsTensWrong : ChangeSpec := { name := "digitsTens", fn := fun _ => fun
  | [d] => { results := [.lit (.bool false)], args := [d] }
  | _ => none }
def DigitsTensWrongFalsely : Prop := digitsTensRow.holds Tryd.pinned (OpenSpec.ofChange digitsTensWrong)

/-- 'girdlelaw02.DigitsBack': WHATEVER THE INPUT: true; the input reads as it did. -/
def digitsBackSpec : ChangeSpec := { name := "digitsBack", fn := fun _ => fun
  | [d1, d2] => { results := [.lit (.bool true)], args := [d1, d2] }
  | _ => none }
def digitsBackRow : OpenClaim := { program := "ytgckjlbdeopfbaadoor", sum := "44efd105fcc6cf13863aa77d82c6db7763b54566e6db3ae98f5a047c65f48c3d", func := "girdle/girdlelaw02.DigitsBack", spec := "digitsBack", inPlace := ["internal/bytealg.IndexByteString", "internal/bytealg.IndexString", "internal/abi.NoEscape", "internal/bytealg.MakeNoZero"], unfollowed := true, recurses := true, named := ["unicode/utf8.first", "unicode/utf8.acceptRanges", "internal/bytealg.MaxLen"], apart := false, laid := [("unicode/utf8.acceptRanges", laid_unicode_utf8_acceptRanges), ("unicode/utf8.first", laid_unicode_utf8_first)] }
def DigitsBackSaid : Prop := digitsBackRow.holds Tryd.pinned (OpenSpec.ofChange digitsBackSpec)

/-- ITS FALSE NEIGHBOUR: 'it returns false'. Refute it at one input. -/
def digitsBackWrong : ChangeSpec := { name := "digitsBack", fn := fun _ => fun
  | [d1, d2] => { results := [.lit (.bool false)], args := [d1, d2] }
  | _ => none }
def DigitsBackWrongFalsely : Prop := digitsBackRow.holds Tryd.pinned (OpenSpec.ofChange digitsBackWrong)

/-- 'girdlelaw02.DigitsLong': WHATEVER THE INPUT: true; the input reads as it did. -/
def digitsLongSpec : ChangeSpec := { name := "digitsLong", fn := fun _ => fun
  | [d1, d2] => { results := [.lit (.bool true)], args := [d1, d2] }
  | _ => none }
def digitsLongRow : OpenClaim := { program := "ytgckjlbdeopfbaadoor", sum := "44efd105fcc6cf13863aa77d82c6db7763b54566e6db3ae98f5a047c65f48c3d", func := "girdle/girdlelaw02.DigitsLong", spec := "digitsLong", inPlace := ["internal/bytealg.IndexByteString", "internal/bytealg.IndexString", "internal/abi.NoEscape", "internal/bytealg.MakeNoZero"], unfollowed := true, recurses := true, named := ["unicode/utf8.first", "unicode/utf8.acceptRanges", "internal/bytealg.MaxLen"], apart := false, laid := [("unicode/utf8.acceptRanges", laid_unicode_utf8_acceptRanges), ("unicode/utf8.first", laid_unicode_utf8_first)] }
def DigitsLongSaid : Prop := digitsLongRow.holds Tryd.pinned (OpenSpec.ofChange digitsLongSpec)

/-- ITS FALSE NEIGHBOUR: 'it returns false'. Refute it at one input. -/
def digitsLongWrong : ChangeSpec := { name := "digitsLong", fn := fun _ => fun
  | [d1, d2] => { results := [.lit (.bool false)], args := [d1, d2] }
  | _ => none }
def DigitsLongWrongFalsely : Prop := digitsLongRow.holds Tryd.pinned (OpenSpec.ofChange digitsLongWrong)

/- THE SECOND FORM. 'bulk': how many values and letters a reading holds, each counted each time it is reached (what is shared counts as often as it is met; a slice's spare places count too). A statement '..UptoSaid' is the law's where the arguments, and the package variables that the reading takes, are together of bulk at most 1048576: NARROWER than '..Said'. Prove '..Said' where nothing that the law and all that it calls make is longer than what came in: it says more and counts as full. Else prove '..UptoSaid'. A law counts once. -/
mutual
def uptoBulk {H : Type} : DataW H → Nat
  | .lit (.string bytes) => bytes.length + 1
  | .lit _ => 1
  | .nil => 1
  | .ptr d => uptoBulk d + 1
  | .slice elems spare => uptoBulkAll elems + uptoBulkAll spare + 1
  | .agg parts => uptoBulkAll parts + 1
  | .iface _ d => uptoBulk d + 1
  | .map entries => uptoBulkEntries entries + 1
  | .held _ => 1
def uptoBulkAll {H : Type} : List (DataW H) → Nat
  | [] => 0
  | d :: r => uptoBulk d + uptoBulkAll r
def uptoBulkEntries {H : Type} : List (Lit × DataW H) → Nat
  | [] => 0
  | x :: r => uptoBulkEntry x + uptoBulkEntries r
def uptoBulkEntry {H : Type} : Lit × DataW H → Nat
  | (.string bytes, d) => bytes.length + uptoBulk d + 1
  | (_, d) => uptoBulk d + 1
 end
def uptoSmall : (H : Type) → List (DataW H) → Bool := fun _ ds => decide (uptoBulkAll ds ≤ 1048576)
def OpenSpec.upto (s : _root_.Go.ChangeSpec) : _root_.Go.OpenSpec := { _root_.Go.OpenSpec.ofChange s with cond := some uptoSmall }

/-- 'girdlelaw02.DigitsParses', WHERE WHAT IT READS IS OF BULK AT MOST 1048576: true; the input reads as it did. -/
def digitsParsesUptoRow : OpenClaim := { program := "ytgckjlbdeopfbaadoor", sum := "44efd105fcc6cf13863aa77d82c6db7763b54566e6db3ae98f5a047c65f48c3d", func := "girdle/girdlelaw02.DigitsParses", spec := "digitsParses", inPlace := ["internal/bytealg.IndexByteString", "internal/bytealg.IndexString"], unfollowed := true, recurses := true, named := ["unicode/utf8.first", "unicode/utf8.acceptRanges", "internal/bytealg.MaxLen"], apart := false, laid := [("unicode/utf8.acceptRanges", laid_unicode_utf8_acceptRanges), ("unicode/utf8.first", laid_unicode_utf8_first)], narrowed := true }
def DigitsParsesUptoSaid : Prop := digitsParsesUptoRow.holds Tryd.pinned (OpenSpec.upto digitsParsesSpec)

/-- 'girdlelaw02.DigitsGcd', WHERE WHAT IT READS IS OF BULK AT MOST 1048576: true; the input reads as it did. -/
def digitsGcdUptoRow : OpenClaim := { program := "ytgckjlbdeopfbaadoor", sum := "44efd105fcc6cf13863aa77d82c6db7763b54566e6db3ae98f5a047c65f48c3d", func := "girdle/girdlelaw02.DigitsGcd", spec := "digitsGcd", inPlace := ["internal/bytealg.IndexByteString", "internal/bytealg.IndexString"], unfollowed := true, recurses := true, named := ["unicode/utf8.first", "unicode/utf8.acceptRanges", "internal/bytealg.MaxLen"], apart := false, laid := [("unicode/utf8.acceptRanges", laid_unicode_utf8_acceptRanges), ("unicode/utf8.first", laid_unicode_utf8_first)], narrowed := true }
def DigitsGcdUptoSaid : Prop := digitsGcdUptoRow.holds Tryd.pinned (OpenSpec.upto digitsGcdSpec)

/-- 'girdlelaw02.DigitsPlaces', WHERE WHAT IT READS IS OF BULK AT MOST 1048576: true; the input reads as it did. -/
def digitsPlacesUptoRow : OpenClaim := { program := "ytgckjlbdeopfbaadoor", sum := "44efd105fcc6cf13863aa77d82c6db7763b54566e6db3ae98f5a047c65f48c3d", func := "girdle/girdlelaw02.DigitsPlaces", spec := "digitsPlaces", inPlace := ["internal/bytealg.IndexByteString", "internal/bytealg.IndexString"], unfollowed := true, recurses := true, named := ["unicode/utf8.first", "unicode/utf8.acceptRanges", "internal/bytealg.MaxLen"], apart := false, laid := [("unicode/utf8.acceptRanges", laid_unicode_utf8_acceptRanges), ("unicode/utf8.first", laid_unicode_utf8_first)], narrowed := true }
def DigitsPlacesUptoSaid : Prop := digitsPlacesUptoRow.holds Tryd.pinned (OpenSpec.upto digitsPlacesSpec)

/-- 'girdlelaw02.DigitsTens', WHERE WHAT IT READS IS OF BULK AT MOST 1048576: true; the input reads as it did. -/
def digitsTensUptoRow : OpenClaim := { program := "ytgckjlbdeopfbaadoor", sum := "44efd105fcc6cf13863aa77d82c6db7763b54566e6db3ae98f5a047c65f48c3d", func := "girdle/girdlelaw02.DigitsTens", spec := "digitsTens", inPlace := ["internal/bytealg.IndexByteString", "internal/bytealg.IndexString", "internal/abi.NoEscape", "internal/bytealg.MakeNoZero"], unfollowed := true, recurses := true, named := ["unicode/utf8.first", "unicode/utf8.acceptRanges", "internal/bytealg.MaxLen"], apart := false, laid := [("unicode/utf8.acceptRanges", laid_unicode_utf8_acceptRanges), ("unicode/utf8.first", laid_unicode_utf8_first)], narrowed := true }
def DigitsTensUptoSaid : Prop := digitsTensUptoRow.holds Tryd.pinned (OpenSpec.upto digitsTensSpec)

/-- 'girdlelaw02.DigitsBack', WHERE WHAT IT READS IS OF BULK AT MOST 1048576: true; the input reads as it did. -/
def digitsBackUptoRow : OpenClaim := { program := "ytgckjlbdeopfbaadoor", sum := "44efd105fcc6cf13863aa77d82c6db7763b54566e6db3ae98f5a047c65f48c3d", func := "girdle/girdlelaw02.DigitsBack", spec := "digitsBack", inPlace := ["internal/bytealg.IndexByteString", "internal/bytealg.IndexString", "internal/abi.NoEscape", "internal/bytealg.MakeNoZero"], unfollowed := true, recurses := true, named := ["unicode/utf8.first", "unicode/utf8.acceptRanges", "internal/bytealg.MaxLen"], apart := false, laid := [("unicode/utf8.acceptRanges", laid_unicode_utf8_acceptRanges), ("unicode/utf8.first", laid_unicode_utf8_first)], narrowed := true }
def DigitsBackUptoSaid : Prop := digitsBackUptoRow.holds Tryd.pinned (OpenSpec.upto digitsBackSpec)

/-- 'girdlelaw02.DigitsLong', WHERE WHAT IT READS IS OF BULK AT MOST 1048576: true; the input reads as it did. -/
def digitsLongUptoRow : OpenClaim := { program := "ytgckjlbdeopfbaadoor", sum := "44efd105fcc6cf13863aa77d82c6db7763b54566e6db3ae98f5a047c65f48c3d", func := "girdle/girdlelaw02.DigitsLong", spec := "digitsLong", inPlace := ["internal/bytealg.IndexByteString", "internal/bytealg.IndexString", "internal/abi.NoEscape", "internal/bytealg.MakeNoZero"], unfollowed := true, recurses := true, named := ["unicode/utf8.first", "unicode/utf8.acceptRanges", "internal/bytealg.MaxLen"], apart := false, laid := [("unicode/utf8.acceptRanges", laid_unicode_utf8_acceptRanges), ("unicode/utf8.first", laid_unicode_utf8_first)], narrowed := true }
def DigitsLongUptoSaid : Prop := digitsLongUptoRow.holds Tryd.pinned (OpenSpec.upto digitsLongSpec)

end Rows
end Go.Proofs.YtgckjlbdeopfbaaDoor
