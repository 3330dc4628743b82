/-
  NARROWER THAN 'FOR EVERY INPUT', by the rows' own cells (each row's printed sentence says how): RatioBetween: laid · RatioMakes: laid · RatioField: laid · RatioOrders: laid · RatioPoints: laid · RatioParses: laid · RatioRounds: laid · RatioTexts: laid.
  DERIVED. THE GIVEN ROWS OF THIS SEAT. 8 by the template 'for every input the law returns true; each argument reads behind the call as it read before'; 0 by the template 'total and deterministic' (their statements: YtjkgehohjicgjaaDoorTotals.lean).
  GIVEN WITH THE SEED: the statements are not yours to turn. If you find one false, say at which input.
  Laid BY PROGRAM, IN A SANDBOX (cutbox-rows.mjs): the forced cells as the released guide's own fill.sh prints them over the translation 5f2990ba04fcdae5… (all of the seat's roots in one cut). By AI agents, Wed Nov 11 2026. No macro, syntax, notation, axiom, sorry.
-/
import Derived.Test.YtjkgehohjicgjaaDoorChecked
import GoSem.PinnedTables
import GoSem.Claim
import GoSem.ClaimJoined
import GoSem.ClaimMapViews
import Derived.JoinedTies
import Derived.KernelRfl
namespace Go.Proofs.YtjkgehohjicgjaaDoor
/- THE CELL 'sum', in the pinned program and in every row, IS THE sha256 OF THE DUMP (.gsa) THAT YtjkgehohjicgjaaDoorProg.lean LOADS. Nothing in Lean hashes anything: it is a label: what it is worth is what the hold of that sum in a sandbox is worth. -/
noncomputable def Tryd.pinned : Pinned := { name := "ytjkgehohjicgjaadoor", sum := "5f2990ba04fcdae5a84bf2c8b232128644f070b9824203d45c3951a61bc2bc6e", checked := Tryd.checked }
namespace Rows
def none {H : Type} : Left H := { results := [], args := [] }

/- WHAT THE LISTED PACKAGE-LEVEL VARIABLES READ AS WHEN THE CALL BEGINS. Each datum BY PROGRAM (the guide's laid-datum.mjs) off the statement by which the dump's own 'gosem.cut.vars' lays the variable. In a bare row this is a premise. The card (YtjkgehohjicgjaaDoorCards.lean) ties it to the program's text. -/
def laid_unicode_utf8_acceptRanges {H : Type} : DataW H := .agg [.agg [.lit (.int .u8 128), .lit (.int .u8 191)], .agg [.lit (.int .u8 160), .lit (.int .u8 191)], .agg [.lit (.int .u8 128), .lit (.int .u8 159)], .agg [.lit (.int .u8 144), .lit (.int .u8 191)], .agg [.lit (.int .u8 128), .lit (.int .u8 143)], .agg [.lit (.int .u8 0), .lit (.int .u8 0)], .agg [.lit (.int .u8 0), .lit (.int .u8 0)], .agg [.lit (.int .u8 0), .lit (.int .u8 0)], .agg [.lit (.int .u8 0), .lit (.int .u8 0)], .agg [.lit (.int .u8 0), .lit (.int .u8 0)], .agg [.lit (.int .u8 0), .lit (.int .u8 0)], .agg [.lit (.int .u8 0), .lit (.int .u8 0)], .agg [.lit (.int .u8 0), .lit (.int .u8 0)], .agg [.lit (.int .u8 0), .lit (.int .u8 0)], .agg [.lit (.int .u8 0), .lit (.int .u8 0)], .agg [.lit (.int .u8 0), .lit (.int .u8 0)]]
/-- One of Go's own tables, pinned by name: the form's constant. -/
def laid_unicode_utf8_first : DataW Unit := Go.Pinned.utf8First

/-- 'girdlelaw04.RatioBetween': WHATEVER THE INPUT: true; the input reads as it did. -/
def ratioBetweenSpec : ChangeSpec := { name := "ratioBetween", fn := fun _ => fun
  | [d1, d2] => { results := [.lit (.bool true)], args := [d1, d2] }
  | _ => none }
def ratioBetweenRow : OpenClaim := { program := "ytjkgehohjicgjaadoor", sum := "5f2990ba04fcdae5a84bf2c8b232128644f070b9824203d45c3951a61bc2bc6e", func := "girdle/girdlelaw04.RatioBetween", spec := "ratioBetween", inPlace := ["internal/bytealg.IndexByteString", "internal/bytealg.IndexString"], unfollowed := true, recurses := true, named := ["internal/bytealg.MaxLen", "unicode/utf8.first", "unicode/utf8.acceptRanges"], apart := false, laid := [("unicode/utf8.acceptRanges", laid_unicode_utf8_acceptRanges), ("unicode/utf8.first", laid_unicode_utf8_first)] }
def RatioBetweenSaid : Prop := ratioBetweenRow.holds Tryd.pinned (OpenSpec.ofChange ratioBetweenSpec)

/-- ITS FALSE NEIGHBOUR: 'it returns false'. Refute it at one input. -/
def ratioBetweenWrong : ChangeSpec := { name := "ratioBetween", fn := fun _ => fun
  | [d1, d2] => { results := [.lit (.bool false)], args := [d1, d2] }
  | _ => none }
def RatioBetweenWrongFalsely : Prop := ratioBetweenRow.holds Tryd.pinned (OpenSpec.ofChange ratioBetweenWrong)

/-- 'girdlelaw04.RatioMakes': WHATEVER THE INPUT: true; the input reads as it did. -/
def ratioMakesSpec : ChangeSpec := { name := "ratioMakes", fn := fun _ => fun
  | [d1, d2] => { results := [.lit (.bool true)], args := [d1, d2] }
  | _ => none }
def ratioMakesRow : OpenClaim := { program := "ytjkgehohjicgjaadoor", sum := "5f2990ba04fcdae5a84bf2c8b232128644f070b9824203d45c3951a61bc2bc6e", func := "girdle/girdlelaw04.RatioMakes", spec := "ratioMakes", inPlace := ["internal/bytealg.IndexByteString", "internal/bytealg.IndexString"], unfollowed := true, recurses := true, named := ["internal/bytealg.MaxLen", "unicode/utf8.first", "unicode/utf8.acceptRanges"], apart := false, laid := [("unicode/utf8.acceptRanges", laid_unicode_utf8_acceptRanges), ("unicode/utf8.first", laid_unicode_utf8_first)] }
def RatioMakesSaid : Prop := ratioMakesRow.holds Tryd.pinned (OpenSpec.ofChange ratioMakesSpec)

/-- ITS FALSE NEIGHBOUR: 'it returns false'. Refute it at one input. -/
def ratioMakesWrong : ChangeSpec := { name := "ratioMakes", fn := fun _ => fun
  | [d1, d2] => { results := [.lit (.bool false)], args := [d1, d2] }
  | _ => none }
def RatioMakesWrongFalsely : Prop := ratioMakesRow.holds Tryd.pinned (OpenSpec.ofChange ratioMakesWrong)

/-- 'girdlelaw04.RatioField': WHATEVER THE INPUT: true; the input reads as it did. -/
def ratioFieldSpec : ChangeSpec := { name := "ratioField", fn := fun _ => fun
  | [d1, d2, d3] => { results := [.lit (.bool true)], args := [d1, d2, d3] }
  | _ => none }
def ratioFieldRow : OpenClaim := { program := "ytjkgehohjicgjaadoor", sum := "5f2990ba04fcdae5a84bf2c8b232128644f070b9824203d45c3951a61bc2bc6e", func := "girdle/girdlelaw04.RatioField", spec := "ratioField", inPlace := ["internal/bytealg.IndexByteString", "internal/bytealg.IndexString"], unfollowed := true, recurses := true, named := ["internal/bytealg.MaxLen", "unicode/utf8.first", "unicode/utf8.acceptRanges"], apart := false, laid := [("unicode/utf8.acceptRanges", laid_unicode_utf8_acceptRanges), ("unicode/utf8.first", laid_unicode_utf8_first)] }
def RatioFieldSaid : Prop := ratioFieldRow.holds Tryd.pinned (OpenSpec.ofChange ratioFieldSpec)

/-- ITS FALSE NEIGHBOUR: 'it returns false'. Refute it at one input. -/
def ratioFieldWrong : ChangeSpec := { name := "ratioField", fn := fun _ => fun
  | [d1, d2, d3] => { results := [.lit (.bool false)], args := [d1, d2, d3] }
  | _ => none }
def RatioFieldWrongFalsely : Prop := ratioFieldRow.holds Tryd.pinned (OpenSpec.ofChange ratioFieldWrong)

/-- 'girdlelaw04.RatioOrders': WHATEVER THE INPUT: true; the input reads as it did. -/
def ratioOrdersSpec : ChangeSpec := { name := "ratioOrders", fn := fun _ => fun
  | [d1, d2] => { results := [.lit (.bool true)], args := [d1, d2] }
  | _ => none }
def ratioOrdersRow : OpenClaim := { program := "ytjkgehohjicgjaadoor", sum := "5f2990ba04fcdae5a84bf2c8b232128644f070b9824203d45c3951a61bc2bc6e", func := "girdle/girdlelaw04.RatioOrders", spec := "ratioOrders", inPlace := ["internal/bytealg.IndexByteString", "internal/bytealg.IndexString"], unfollowed := true, recurses := true, named := ["internal/bytealg.MaxLen", "unicode/utf8.first", "unicode/utf8.acceptRanges"], apart := false, laid := [("unicode/utf8.acceptRanges", laid_unicode_utf8_acceptRanges), ("unicode/utf8.first", laid_unicode_utf8_first)] }
def RatioOrdersSaid : Prop := ratioOrdersRow.holds Tryd.pinned (OpenSpec.ofChange ratioOrdersSpec)

/-- ITS FALSE NEIGHBOUR: 'it returns false'. Refute it at one input. -/
def ratioOrdersWrong : ChangeSpec := { name := "ratioOrders", fn := fun _ => fun
  | [d1, d2] => { results := [.lit (.bool false)], args := [d1, d2] }
  | _ => none }
def RatioOrdersWrongFalsely : Prop := ratioOrdersRow.holds Tryd.pinned (OpenSpec.ofChange ratioOrdersWrong)

/-- 'girdlelaw04.RatioPoints': WHATEVER THE INPUT: true; the input reads as it did. -/
def ratioPointsSpec : ChangeSpec := { name := "ratioPoints", fn := fun _ => fun
  | [d1, d2] => { results := [.lit (.bool true)], args := [d1, d2] }
  | _ => none }
def ratioPointsRow : OpenClaim := { program := "ytjkgehohjicgjaadoor", sum := "5f2990ba04fcdae5a84bf2c8b232128644f070b9824203d45c3951a61bc2bc6e", func := "girdle/girdlelaw04.RatioPoints", spec := "ratioPoints", inPlace := ["internal/bytealg.IndexByteString", "internal/bytealg.IndexString"], unfollowed := true, recurses := true, named := ["internal/bytealg.MaxLen", "unicode/utf8.first", "unicode/utf8.acceptRanges"], apart := false, laid := [("unicode/utf8.acceptRanges", laid_unicode_utf8_acceptRanges), ("unicode/utf8.first", laid_unicode_utf8_first)] }
def RatioPointsSaid : Prop := ratioPointsRow.holds Tryd.pinned (OpenSpec.ofChange ratioPointsSpec)

/-- ITS FALSE NEIGHBOUR: 'it returns false'. Refute it at one input. -/
def ratioPointsWrong : ChangeSpec := { name := "ratioPoints", fn := fun _ => fun
  | [d1, d2] => { results := [.lit (.bool false)], args := [d1, d2] }
  | _ => none }
def RatioPointsWrongFalsely : Prop := ratioPointsRow.holds Tryd.pinned (OpenSpec.ofChange ratioPointsWrong)

/-- 'girdlelaw04.RatioParses': WHATEVER THE INPUT: true; the input reads as it did. -/
def ratioParsesSpec : ChangeSpec := { name := "ratioParses", fn := fun _ => fun
  | [d] => { results := [.lit (.bool true)], args := [d] }
  | _ => none }
def ratioParsesRow : OpenClaim := { program := "ytjkgehohjicgjaadoor", sum := "5f2990ba04fcdae5a84bf2c8b232128644f070b9824203d45c3951a61bc2bc6e", func := "girdle/girdlelaw04.RatioParses", spec := "ratioParses", inPlace := ["internal/bytealg.IndexByteString", "internal/bytealg.IndexString"], unfollowed := true, recurses := true, named := ["internal/bytealg.MaxLen", "unicode/utf8.first", "unicode/utf8.acceptRanges"], apart := false, laid := [("unicode/utf8.acceptRanges", laid_unicode_utf8_acceptRanges), ("unicode/utf8.first", laid_unicode_utf8_first)] }
def RatioParsesSaid : Prop := ratioParsesRow.holds Tryd.pinned (OpenSpec.ofChange ratioParsesSpec)

/-- ITS FALSE NEIGHBOUR: 'it returns false'. Refute it at one input. -/
def ratioParsesWrong : ChangeSpec := { name := "ratioParses", fn := fun _ => fun
  | [d] => { results := [.lit (.bool false)], args := [d] }
  | _ => none }
def RatioParsesWrongFalsely : Prop := ratioParsesRow.holds Tryd.pinned (OpenSpec.ofChange ratioParsesWrong)

/-- 'girdlelaw04.RatioRounds': WHATEVER THE INPUT: true; the input reads as it did. -/
def ratioRoundsSpec : ChangeSpec := { name := "ratioRounds", fn := fun _ => fun
  | [d] => { results := [.lit (.bool true)], args := [d] }
  | _ => none }
def ratioRoundsRow : OpenClaim := { program := "ytjkgehohjicgjaadoor", sum := "5f2990ba04fcdae5a84bf2c8b232128644f070b9824203d45c3951a61bc2bc6e", func := "girdle/girdlelaw04.RatioRounds", spec := "ratioRounds", inPlace := ["internal/bytealg.IndexByteString", "internal/bytealg.IndexString"], unfollowed := true, recurses := true, named := ["internal/bytealg.MaxLen", "unicode/utf8.first", "unicode/utf8.acceptRanges"], apart := false, laid := [("unicode/utf8.acceptRanges", laid_unicode_utf8_acceptRanges), ("unicode/utf8.first", laid_unicode_utf8_first)] }
def RatioRoundsSaid : Prop := ratioRoundsRow.holds Tryd.pinned (OpenSpec.ofChange ratioRoundsSpec)

/-- ITS FALSE NEIGHBOUR: 'it returns false'. Refute it at one input. -/
def ratioRoundsWrong : ChangeSpec := { name := "ratioRounds", fn := fun _ => fun
  | [d] => { results := [.lit (.bool false)], args := [d] }
  | _ => none }
def RatioRoundsWrongFalsely : Prop := ratioRoundsRow.holds Tryd.pinned (OpenSpec.ofChange ratioRoundsWrong)

/-- 'girdlelaw04.RatioTexts': WHATEVER THE INPUT: true; the input reads as it did. -/
def ratioTextsSpec : ChangeSpec := { name := "ratioTexts", fn := fun _ => fun
  | [d1, d2] => { results := [.lit (.bool true)], args := [d1, d2] }
  | _ => none }
def ratioTextsRow : OpenClaim := { program := "ytjkgehohjicgjaadoor", sum := "5f2990ba04fcdae5a84bf2c8b232128644f070b9824203d45c3951a61bc2bc6e", func := "girdle/girdlelaw04.RatioTexts", spec := "ratioTexts", inPlace := ["internal/bytealg.IndexByteString", "internal/bytealg.IndexString"], unfollowed := true, recurses := true, named := ["internal/bytealg.MaxLen", "unicode/utf8.first", "unicode/utf8.acceptRanges"], apart := false, laid := [("unicode/utf8.acceptRanges", laid_unicode_utf8_acceptRanges), ("unicode/utf8.first", laid_unicode_utf8_first)] }
def RatioTextsSaid : Prop := ratioTextsRow.holds Tryd.pinned (OpenSpec.ofChange ratioTextsSpec)

/-- ITS FALSE NEIGHBOUR: 'it returns false'. Refute it at one input. -/
def ratioTextsWrong : ChangeSpec := { name := "ratioTexts", fn := fun _ => fun
  | [d1, d2] => { results := [.lit (.bool false)], args := [d1, d2] }
  | _ => none }
def RatioTextsWrongFalsely : Prop := ratioTextsRow.holds Tryd.pinned (OpenSpec.ofChange ratioTextsWrong)

/- THE SECOND FORM. 'bulk': how many values and letters a reading holds, each counted each time it is reached (what is shared counts as often as it is met; a slice's spare places count too). A statement '..UptoSaid' is the law's where the arguments, and the package variables that the reading takes, are together of bulk at most 1048576: NARROWER than '..Said'. Prove '..Said' where nothing that the law and all that it calls make is longer than what came in: it says more and counts as full. Else prove '..UptoSaid'. A law counts once. -/
mutual
def uptoBulk {H : Type} : DataW H → Nat
  | .lit (.string bytes) => bytes.length + 1
  | .lit _ => 1
  | .nil => 1
  | .ptr d => uptoBulk d + 1
  | .slice elems spare => uptoBulkAll elems + uptoBulkAll spare + 1
  | .agg parts => uptoBulkAll parts + 1
  | .iface _ d => uptoBulk d + 1
  | .map entries => uptoBulkEntries entries + 1
  | .held _ => 1
def uptoBulkAll {H : Type} : List (DataW H) → Nat
  | [] => 0
  | d :: r => uptoBulk d + uptoBulkAll r
def uptoBulkEntries {H : Type} : List (Lit × DataW H) → Nat
  | [] => 0
  | x :: r => uptoBulkEntry x + uptoBulkEntries r
def uptoBulkEntry {H : Type} : Lit × DataW H → Nat
  | (.string bytes, d) => bytes.length + uptoBulk d + 1
  | (_, d) => uptoBulk d + 1
 end
def uptoSmall : (H : Type) → List (DataW H) → Bool := fun _ ds => decide (uptoBulkAll ds ≤ 1048576)
def OpenSpec.upto (s : _root_.Go.ChangeSpec) : _root_.Go.OpenSpec := { _root_.Go.OpenSpec.ofChange s with cond := some uptoSmall }

/-- 'girdlelaw04.RatioBetween', WHERE WHAT IT READS IS OF BULK AT MOST 1048576: true; the input reads as it did. -/
def ratioBetweenUptoRow : OpenClaim := { program := "ytjkgehohjicgjaadoor", sum := "5f2990ba04fcdae5a84bf2c8b232128644f070b9824203d45c3951a61bc2bc6e", func := "girdle/girdlelaw04.RatioBetween", spec := "ratioBetween", inPlace := ["internal/bytealg.IndexByteString", "internal/bytealg.IndexString"], unfollowed := true, recurses := true, named := ["internal/bytealg.MaxLen", "unicode/utf8.first", "unicode/utf8.acceptRanges"], apart := false, laid := [("unicode/utf8.acceptRanges", laid_unicode_utf8_acceptRanges), ("unicode/utf8.first", laid_unicode_utf8_first)], narrowed := true }
def RatioBetweenUptoSaid : Prop := ratioBetweenUptoRow.holds Tryd.pinned (OpenSpec.upto ratioBetweenSpec)

/-- 'girdlelaw04.RatioMakes', WHERE WHAT IT READS IS OF BULK AT MOST 1048576: true; the input reads as it did. -/
def ratioMakesUptoRow : OpenClaim := { program := "ytjkgehohjicgjaadoor", sum := "5f2990ba04fcdae5a84bf2c8b232128644f070b9824203d45c3951a61bc2bc6e", func := "girdle/girdlelaw04.RatioMakes", spec := "ratioMakes", inPlace := ["internal/bytealg.IndexByteString", "internal/bytealg.IndexString"], unfollowed := true, recurses := true, named := ["internal/bytealg.MaxLen", "unicode/utf8.first", "unicode/utf8.acceptRanges"], apart := false, laid := [("unicode/utf8.acceptRanges", laid_unicode_utf8_acceptRanges), ("unicode/utf8.first", laid_unicode_utf8_first)], narrowed := true }
def RatioMakesUptoSaid : Prop := ratioMakesUptoRow.holds Tryd.pinned (OpenSpec.upto ratioMakesSpec)

/-- 'girdlelaw04.RatioField', WHERE WHAT IT READS IS OF BULK AT MOST 1048576: true; the input reads as it did. -/
def ratioFieldUptoRow : OpenClaim := { program := "ytjkgehohjicgjaadoor", sum := "5f2990ba04fcdae5a84bf2c8b232128644f070b9824203d45c3951a61bc2bc6e", func := "girdle/girdlelaw04.RatioField", spec := "ratioField", inPlace := ["internal/bytealg.IndexByteString", "internal/bytealg.IndexString"], unfollowed := true, recurses := true, named := ["internal/bytealg.MaxLen", "unicode/utf8.first", "unicode/utf8.acceptRanges"], apart := false, laid := [("unicode/utf8.acceptRanges", laid_unicode_utf8_acceptRanges), ("unicode/utf8.first", laid_unicode_utf8_first)], narrowed := true }
def RatioFieldUptoSaid : Prop := ratioFieldUptoRow.holds Tryd.pinned (OpenSpec.upto ratioFieldSpec)

/-- 'girdlelaw04.RatioOrders', WHERE WHAT IT READS IS OF BULK AT MOST 1048576: true; the input reads as it did. -/
def ratioOrdersUptoRow : OpenClaim := { program := "ytjkgehohjicgjaadoor", sum := "5f2990ba04fcdae5a84bf2c8b232128644f070b9824203d45c3951a61bc2bc6e", func := "girdle/girdlelaw04.RatioOrders", spec := "ratioOrders", inPlace := ["internal/bytealg.IndexByteString", "internal/bytealg.IndexString"], unfollowed := true, recurses := true, named := ["internal/bytealg.MaxLen", "unicode/utf8.first", "unicode/utf8.acceptRanges"], apart := false, laid := [("unicode/utf8.acceptRanges", laid_unicode_utf8_acceptRanges), ("unicode/utf8.first", laid_unicode_utf8_first)], narrowed := true }
def RatioOrdersUptoSaid : Prop := ratioOrdersUptoRow.holds Tryd.pinned (OpenSpec.upto ratioOrdersSpec)

/-- 'girdlelaw04.RatioPoints', WHERE WHAT IT READS IS OF BULK AT MOST 1048576: true; the input reads as it did. -/
def ratioPointsUptoRow : OpenClaim := { program := "ytjkgehohjicgjaadoor", sum := "5f2990ba04fcdae5a84bf2c8b232128644f070b9824203d45c3951a61bc2bc6e", func := "girdle/girdlelaw04.RatioPoints", spec := "ratioPoints", inPlace := ["internal/bytealg.IndexByteString", "internal/bytealg.IndexString"], unfollowed := true, recurses := true, named := ["internal/bytealg.MaxLen", "unicode/utf8.first", "unicode/utf8.acceptRanges"], apart := false, laid := [("unicode/utf8.acceptRanges", laid_unicode_utf8_acceptRanges), ("unicode/utf8.first", laid_unicode_utf8_first)], narrowed := true }
def RatioPointsUptoSaid : Prop := ratioPointsUptoRow.holds Tryd.pinned (OpenSpec.upto ratioPointsSpec)

/-- 'girdlelaw04.RatioParses', WHERE WHAT IT READS IS OF BULK AT MOST 1048576: true; the input reads as it did. -/
def ratioParsesUptoRow : OpenClaim := { program := "ytjkgehohjicgjaadoor", sum := "5f2990ba04fcdae5a84bf2c8b232128644f070b9824203d45c3951a61bc2bc6e", func := "girdle/girdlelaw04.RatioParses", spec := "ratioParses", inPlace := ["internal/bytealg.IndexByteString", "internal/bytealg.IndexString"], unfollowed := true, recurses := true, named := ["internal/bytealg.MaxLen", "unicode/utf8.first", "unicode/utf8.acceptRanges"], apart := false, laid := [("unicode/utf8.acceptRanges", laid_unicode_utf8_acceptRanges), ("unicode/utf8.first", laid_unicode_utf8_first)], narrowed := true }
def RatioParsesUptoSaid : Prop := ratioParsesUptoRow.holds Tryd.pinned (OpenSpec.upto ratioParsesSpec)

/-- 'girdlelaw04.RatioRounds', WHERE WHAT IT READS IS OF BULK AT MOST 1048576: true; the input reads as it did. -/
def ratioRoundsUptoRow : OpenClaim := { program := "ytjkgehohjicgjaadoor", sum := "5f2990ba04fcdae5a84bf2c8b232128644f070b9824203d45c3951a61bc2bc6e", func := "girdle/girdlelaw04.RatioRounds", spec := "ratioRounds", inPlace := ["internal/bytealg.IndexByteString", "internal/bytealg.IndexString"], unfollowed := true, recurses := true, named := ["internal/bytealg.MaxLen", "unicode/utf8.first", "unicode/utf8.acceptRanges"], apart := false, laid := [("unicode/utf8.acceptRanges", laid_unicode_utf8_acceptRanges), ("unicode/utf8.first", laid_unicode_utf8_first)], narrowed := true }
def RatioRoundsUptoSaid : Prop := ratioRoundsUptoRow.holds Tryd.pinned (OpenSpec.upto ratioRoundsSpec)

/-- 'girdlelaw04.RatioTexts', WHERE WHAT IT READS IS OF BULK AT MOST 1048576: true; the input reads as it did. -/
def ratioTextsUptoRow : OpenClaim := { program := "ytjkgehohjicgjaadoor", sum := "5f2990ba04fcdae5a84bf2c8b232128644f070b9824203d45c3951a61bc2bc6e", func := "girdle/girdlelaw04.RatioTexts", spec := "ratioTexts", inPlace := ["internal/bytealg.IndexByteString", "internal/bytealg.IndexString"], unfollowed := true, recurses := true, named := ["internal/bytealg.MaxLen", "unicode/utf8.first", "unicode/utf8.acceptRanges"], apart := false, laid := [("unicode/utf8.acceptRanges", laid_unicode_utf8_acceptRanges), ("unicode/utf8.first", laid_unicode_utf8_first)], narrowed := true }
def RatioTextsUptoSaid : Prop := ratioTextsUptoRow.holds Tryd.pinned (OpenSpec.upto ratioTextsSpec)

end Rows
end Go.Proofs.YtjkgehohjicgjaaDoor
