/-
  NARROWER THAN 'FOR EVERY INPUT', by the rows' own cells (each row's printed sentence says how): WholeBoxes: laid · BoxHulls: laid · BoxWidest: laid · BoxNests: laid · BoxWider: laid · BoxSupports: laid.
  DERIVED. THE GIVEN ROWS OF THIS SEAT. 6 by the template 'for every input the law returns true; each argument reads behind the call as it read before'; 0 by the template 'total and deterministic' (their statements: YtdgldaahflpndaaDoorTotals.lean).
  GIVEN WITH THE SEED: the statements are not yours to turn. If you find one false, say at which input.
  Laid BY PROGRAM, IN A SANDBOX (cutbox-rows.mjs): the forced cells as the released guide's own fill.sh prints them over the translation d5ee3b357db5b181… (all of the seat's roots in one cut). By AI agents, Wed Nov 11 2026. No macro, syntax, notation, axiom, sorry.
-/
import Derived.Test.YtdgldaahflpndaaDoorChecked
import GoSem.Claim
import GoSem.ClaimJoined
import GoSem.ClaimMapViews
import Derived.JoinedTies
import Derived.KernelRfl
namespace Go.Proofs.YtdgldaahflpndaaDoor
/- THE CELL 'sum', in the pinned program and in every row, IS THE sha256 OF THE DUMP (.gsa) THAT YtdgldaahflpndaaDoorProg.lean LOADS. Nothing in Lean hashes anything: it is a label: what it is worth is what the hold of that sum in a sandbox is worth. -/
noncomputable def Tryd.pinned : Pinned := { name := "ytdgldaahflpndaadoor", sum := "d5ee3b357db5b181bfc4cdf72f18ba0dbf0586818319c1fcae193be54e334020", checked := Tryd.checked }
namespace Rows
def none {H : Type} : Left H := { results := [], args := [] }

/- WHAT THE LISTED PACKAGE-LEVEL VARIABLES READ AS WHEN THE CALL BEGINS. Each datum BY PROGRAM (the guide's laid-datum.mjs) off the statement by which the dump's own 'gosem.cut.vars' lays the variable. In a bare row this is a premise. The card (YtdgldaahflpndaaDoorCards.lean) ties it to the program's text. -/
def laid_math_bits_deBruijn32tab {H : Type} : DataW H := .agg [.lit (.int .u8 0), .lit (.int .u8 1), .lit (.int .u8 28), .lit (.int .u8 2), .lit (.int .u8 29), .lit (.int .u8 14), .lit (.int .u8 24), .lit (.int .u8 3), .lit (.int .u8 30), .lit (.int .u8 22), .lit (.int .u8 20), .lit (.int .u8 15), .lit (.int .u8 25), .lit (.int .u8 17), .lit (.int .u8 4), .lit (.int .u8 8), .lit (.int .u8 31), .lit (.int .u8 27), .lit (.int .u8 13), .lit (.int .u8 23), .lit (.int .u8 21), .lit (.int .u8 19), .lit (.int .u8 16), .lit (.int .u8 7), .lit (.int .u8 26), .lit (.int .u8 12), .lit (.int .u8 18), .lit (.int .u8 6), .lit (.int .u8 11), .lit (.int .u8 5), .lit (.int .u8 10), .lit (.int .u8 9)]

/-- 'girdletop.WholeBoxes': WHATEVER THE INPUT: true; the input reads as it did. -/
def wholeBoxesSpec : ChangeSpec := { name := "wholeBoxes", fn := fun _ => fun
  | [d] => { results := [.lit (.bool true)], args := [d] }
  | _ => none }
def wholeBoxesRow : OpenClaim := { program := "ytdgldaahflpndaadoor", sum := "d5ee3b357db5b181bfc4cdf72f18ba0dbf0586818319c1fcae193be54e334020", func := "girdle/girdletop.WholeBoxes", spec := "wholeBoxes", unfollowed := true, recurses := true, named := ["math/bits.deBruijn32tab"], apart := false, laid := [("math/bits.deBruijn32tab", laid_math_bits_deBruijn32tab)] }
def WholeBoxesSaid : Prop := wholeBoxesRow.holds Tryd.pinned (OpenSpec.ofChange wholeBoxesSpec)

/-- ITS FALSE NEIGHBOUR: 'it returns false'. Refute it at one input. -/
def wholeBoxesWrong : ChangeSpec := { name := "wholeBoxes", fn := fun _ => fun
  | [d] => { results := [.lit (.bool false)], args := [d] }
  | _ => none }
def WholeBoxesWrongFalsely : Prop := wholeBoxesRow.holds Tryd.pinned (OpenSpec.ofChange wholeBoxesWrong)

/-- 'girdlelaw15.BoxHulls': WHATEVER THE INPUT: true; the input reads as it did. -/
def boxHullsSpec : ChangeSpec := { name := "boxHulls", fn := fun _ => fun
  | [d1, d2, d3] => { results := [.lit (.bool true)], args := [d1, d2, d3] }
  | _ => none }
def boxHullsRow : OpenClaim := { program := "ytdgldaahflpndaadoor", sum := "d5ee3b357db5b181bfc4cdf72f18ba0dbf0586818319c1fcae193be54e334020", func := "girdle/girdlelaw15.BoxHulls", spec := "boxHulls", unfollowed := true, recurses := true, named := ["math/bits.deBruijn32tab"], apart := false, laid := [("math/bits.deBruijn32tab", laid_math_bits_deBruijn32tab)] }
def BoxHullsSaid : Prop := boxHullsRow.holds Tryd.pinned (OpenSpec.ofChange boxHullsSpec)

/-- ITS FALSE NEIGHBOUR: 'it returns false'. Refute it at one input. -/
def boxHullsWrong : ChangeSpec := { name := "boxHulls", fn := fun _ => fun
  | [d1, d2, d3] => { results := [.lit (.bool false)], args := [d1, d2, d3] }
  | _ => none }
def BoxHullsWrongFalsely : Prop := boxHullsRow.holds Tryd.pinned (OpenSpec.ofChange boxHullsWrong)

/-- 'girdlelaw15.BoxWidest': WHATEVER THE INPUT: true; the input reads as it did. -/
def boxWidestSpec : ChangeSpec := { name := "boxWidest", fn := fun _ => fun
  | [d] => { results := [.lit (.bool true)], args := [d] }
  | _ => none }
def boxWidestRow : OpenClaim := { program := "ytdgldaahflpndaadoor", sum := "d5ee3b357db5b181bfc4cdf72f18ba0dbf0586818319c1fcae193be54e334020", func := "girdle/girdlelaw15.BoxWidest", spec := "boxWidest", unfollowed := true, recurses := true, named := ["math/bits.deBruijn32tab"], apart := false, laid := [("math/bits.deBruijn32tab", laid_math_bits_deBruijn32tab)] }
def BoxWidestSaid : Prop := boxWidestRow.holds Tryd.pinned (OpenSpec.ofChange boxWidestSpec)

/-- ITS FALSE NEIGHBOUR: 'it returns false'. Refute it at one input. -/
def boxWidestWrong : ChangeSpec := { name := "boxWidest", fn := fun _ => fun
  | [d] => { results := [.lit (.bool false)], args := [d] }
  | _ => none }
def BoxWidestWrongFalsely : Prop := boxWidestRow.holds Tryd.pinned (OpenSpec.ofChange boxWidestWrong)

/-- 'girdlelaw15.BoxNests': WHATEVER THE INPUT: true; the input reads as it did. -/
def boxNestsSpec : ChangeSpec := { name := "boxNests", fn := fun _ => fun
  | [d1, d2, d3] => { results := [.lit (.bool true)], args := [d1, d2, d3] }
  | _ => none }
def boxNestsRow : OpenClaim := { program := "ytdgldaahflpndaadoor", sum := "d5ee3b357db5b181bfc4cdf72f18ba0dbf0586818319c1fcae193be54e334020", func := "girdle/girdlelaw15.BoxNests", spec := "boxNests", unfollowed := true, recurses := true, named := ["math/bits.deBruijn32tab"], apart := false, laid := [("math/bits.deBruijn32tab", laid_math_bits_deBruijn32tab)] }
def BoxNestsSaid : Prop := boxNestsRow.holds Tryd.pinned (OpenSpec.ofChange boxNestsSpec)

/-- ITS FALSE NEIGHBOUR: 'it returns false'. Refute it at one input. -/
def boxNestsWrong : ChangeSpec := { name := "boxNests", fn := fun _ => fun
  | [d1, d2, d3] => { results := [.lit (.bool false)], args := [d1, d2, d3] }
  | _ => none }
def BoxNestsWrongFalsely : Prop := boxNestsRow.holds Tryd.pinned (OpenSpec.ofChange boxNestsWrong)

/-- 'girdlelaw15.BoxWider': WHATEVER THE INPUT: true; the input reads as it did. -/
def boxWiderSpec : ChangeSpec := { name := "boxWider", fn := fun _ => fun
  | [d1, d2] => { results := [.lit (.bool true)], args := [d1, d2] }
  | _ => none }
def boxWiderRow : OpenClaim := { program := "ytdgldaahflpndaadoor", sum := "d5ee3b357db5b181bfc4cdf72f18ba0dbf0586818319c1fcae193be54e334020", func := "girdle/girdlelaw15.BoxWider", spec := "boxWider", unfollowed := true, recurses := true, named := ["math/bits.deBruijn32tab"], apart := false, laid := [("math/bits.deBruijn32tab", laid_math_bits_deBruijn32tab)] }
def BoxWiderSaid : Prop := boxWiderRow.holds Tryd.pinned (OpenSpec.ofChange boxWiderSpec)

/-- ITS FALSE NEIGHBOUR: 'it returns false'. Refute it at one input. -/
def boxWiderWrong : ChangeSpec := { name := "boxWider", fn := fun _ => fun
  | [d1, d2] => { results := [.lit (.bool false)], args := [d1, d2] }
  | _ => none }
def BoxWiderWrongFalsely : Prop := boxWiderRow.holds Tryd.pinned (OpenSpec.ofChange boxWiderWrong)

/-- 'girdlelaw15.BoxSupports': WHATEVER THE INPUT: true; the input reads as it did. -/
def boxSupportsSpec : ChangeSpec := { name := "boxSupports", fn := fun _ => fun
  | [d1, d2, d3] => { results := [.lit (.bool true)], args := [d1, d2, d3] }
  | _ => none }
def boxSupportsRow : OpenClaim := { program := "ytdgldaahflpndaadoor", sum := "d5ee3b357db5b181bfc4cdf72f18ba0dbf0586818319c1fcae193be54e334020", func := "girdle/girdlelaw15.BoxSupports", spec := "boxSupports", unfollowed := true, recurses := true, named := ["math/bits.deBruijn32tab"], apart := false, laid := [("math/bits.deBruijn32tab", laid_math_bits_deBruijn32tab)] }
def BoxSupportsSaid : Prop := boxSupportsRow.holds Tryd.pinned (OpenSpec.ofChange boxSupportsSpec)

/-- ITS FALSE NEIGHBOUR: 'it returns false'. Refute it at one input. -/
def boxSupportsWrong : ChangeSpec := { name := "boxSupports", fn := fun _ => fun
  | [d1, d2, d3] => { results := [.lit (.bool false)], args := [d1, d2, d3] }
  | _ => none }
def BoxSupportsWrongFalsely : Prop := boxSupportsRow.holds Tryd.pinned (OpenSpec.ofChange boxSupportsWrong)

/- THE SECOND FORM. 'bulk': how many values and letters a reading holds, each counted each time it is reached (what is shared counts as often as it is met; a slice's spare places count too). A statement '..UptoSaid' is the law's where the arguments, and the package variables that the reading takes, are together of bulk at most 1048576: NARROWER than '..Said'. Prove '..Said' where nothing that the law and all that it calls make is longer than what came in: it says more and counts as full. Else prove '..UptoSaid'. A law counts once. -/
mutual
def uptoBulk {H : Type} : DataW H → Nat
  | .lit (.string bytes) => bytes.length + 1
  | .lit _ => 1
  | .nil => 1
  | .ptr d => uptoBulk d + 1
  | .slice elems spare => uptoBulkAll elems + uptoBulkAll spare + 1
  | .agg parts => uptoBulkAll parts + 1
  | .iface _ d => uptoBulk d + 1
  | .map entries => uptoBulkEntries entries + 1
  | .held _ => 1
def uptoBulkAll {H : Type} : List (DataW H) → Nat
  | [] => 0
  | d :: r => uptoBulk d + uptoBulkAll r
def uptoBulkEntries {H : Type} : List (Lit × DataW H) → Nat
  | [] => 0
  | x :: r => uptoBulkEntry x + uptoBulkEntries r
def uptoBulkEntry {H : Type} : Lit × DataW H → Nat
  | (.string bytes, d) => bytes.length + uptoBulk d + 1
  | (_, d) => uptoBulk d + 1
 end
def uptoSmall : (H : Type) → List (DataW H) → Bool := fun _ ds => decide (uptoBulkAll ds ≤ 1048576)
def OpenSpec.upto (s : _root_.Go.ChangeSpec) : _root_.Go.OpenSpec := { _root_.Go.OpenSpec.ofChange s with cond := some uptoSmall }

/-- 'girdletop.WholeBoxes', WHERE WHAT IT READS IS OF BULK AT MOST 1048576: true; the input reads as it did. -/
def wholeBoxesUptoRow : OpenClaim := { program := "ytdgldaahflpndaadoor", sum := "d5ee3b357db5b181bfc4cdf72f18ba0dbf0586818319c1fcae193be54e334020", func := "girdle/girdletop.WholeBoxes", spec := "wholeBoxes", unfollowed := true, recurses := true, named := ["math/bits.deBruijn32tab"], apart := false, laid := [("math/bits.deBruijn32tab", laid_math_bits_deBruijn32tab)], narrowed := true }
def WholeBoxesUptoSaid : Prop := wholeBoxesUptoRow.holds Tryd.pinned (OpenSpec.upto wholeBoxesSpec)

/-- 'girdlelaw15.BoxHulls', WHERE WHAT IT READS IS OF BULK AT MOST 1048576: true; the input reads as it did. -/
def boxHullsUptoRow : OpenClaim := { program := "ytdgldaahflpndaadoor", sum := "d5ee3b357db5b181bfc4cdf72f18ba0dbf0586818319c1fcae193be54e334020", func := "girdle/girdlelaw15.BoxHulls", spec := "boxHulls", unfollowed := true, recurses := true, named := ["math/bits.deBruijn32tab"], apart := false, laid := [("math/bits.deBruijn32tab", laid_math_bits_deBruijn32tab)], narrowed := true }
def BoxHullsUptoSaid : Prop := boxHullsUptoRow.holds Tryd.pinned (OpenSpec.upto boxHullsSpec)

/-- 'girdlelaw15.BoxWidest', WHERE WHAT IT READS IS OF BULK AT MOST 1048576: true; the input reads as it did. -/
def boxWidestUptoRow : OpenClaim := { program := "ytdgldaahflpndaadoor", sum := "d5ee3b357db5b181bfc4cdf72f18ba0dbf0586818319c1fcae193be54e334020", func := "girdle/girdlelaw15.BoxWidest", spec := "boxWidest", unfollowed := true, recurses := true, named := ["math/bits.deBruijn32tab"], apart := false, laid := [("math/bits.deBruijn32tab", laid_math_bits_deBruijn32tab)], narrowed := true }
def BoxWidestUptoSaid : Prop := boxWidestUptoRow.holds Tryd.pinned (OpenSpec.upto boxWidestSpec)

/-- 'girdlelaw15.BoxNests', WHERE WHAT IT READS IS OF BULK AT MOST 1048576: true; the input reads as it did. -/
def boxNestsUptoRow : OpenClaim := { program := "ytdgldaahflpndaadoor", sum := "d5ee3b357db5b181bfc4cdf72f18ba0dbf0586818319c1fcae193be54e334020", func := "girdle/girdlelaw15.BoxNests", spec := "boxNests", unfollowed := true, recurses := true, named := ["math/bits.deBruijn32tab"], apart := false, laid := [("math/bits.deBruijn32tab", laid_math_bits_deBruijn32tab)], narrowed := true }
def BoxNestsUptoSaid : Prop := boxNestsUptoRow.holds Tryd.pinned (OpenSpec.upto boxNestsSpec)

/-- 'girdlelaw15.BoxWider', WHERE WHAT IT READS IS OF BULK AT MOST 1048576: true; the input reads as it did. -/
def boxWiderUptoRow : OpenClaim := { program := "ytdgldaahflpndaadoor", sum := "d5ee3b357db5b181bfc4cdf72f18ba0dbf0586818319c1fcae193be54e334020", func := "girdle/girdlelaw15.BoxWider", spec := "boxWider", unfollowed := true, recurses := true, named := ["math/bits.deBruijn32tab"], apart := false, laid := [("math/bits.deBruijn32tab", laid_math_bits_deBruijn32tab)], narrowed := true }
def BoxWiderUptoSaid : Prop := boxWiderUptoRow.holds Tryd.pinned (OpenSpec.upto boxWiderSpec)

/-- 'girdlelaw15.BoxSupports', WHERE WHAT IT READS IS OF BULK AT MOST 1048576: true; the input reads as it did. -/
def boxSupportsUptoRow : OpenClaim := { program := "ytdgldaahflpndaadoor", sum := "d5ee3b357db5b181bfc4cdf72f18ba0dbf0586818319c1fcae193be54e334020", func := "girdle/girdlelaw15.BoxSupports", spec := "boxSupports", unfollowed := true, recurses := true, named := ["math/bits.deBruijn32tab"], apart := false, laid := [("math/bits.deBruijn32tab", laid_math_bits_deBruijn32tab)], narrowed := true }
def BoxSupportsUptoSaid : Prop := boxSupportsUptoRow.holds Tryd.pinned (OpenSpec.upto boxSupportsSpec)

end Rows
end Go.Proofs.YtdgldaahflpndaaDoor
