/-
  strings as lists of bytes; decimal digits; library functions on strings. decimal digits: the text of a number. decimal digits: read; powers of ten. powers of ten; the head of the laws of digits; the laws that need no more. the laws of digits that repeat a text.
  No condition beyond those that each theorem names.
-/
import Derived.Test.YtdgldaahflpndaaGreatDoorH

/-! XA -/
namespace Go.L
open Go.PM
set_option exponentiation.threshold 20000
set_option linter.unusedVariables false
set_option linter.unusedSimpArgs false

/-- A string of bytes. -/
def mk (l : List UInt8) : ByteArray := ⟨l.toArray⟩
end Go.L

/-! XB -/
namespace Go.L
open Go.PM
set_option exponentiation.threshold 20000
set_option linter.unusedVariables false
set_option linter.unusedSimpArgs false

/-- The lowest k decimal digits, the lowest first. -/
def dg : Nat → Nat → List Nat
  | 0, _ => []
  | k + 1, n => n % 10 :: dg k (n / 10)
end Go.L

/-! XC -/
namespace Go.L
open Go.PM
set_option exponentiation.threshold 20000
set_option linter.unusedVariables false
set_option linter.unusedSimpArgs false

end Go.L

/-! XD -/
namespace Go.L
open Go.PM
set_option exponentiation.threshold 20000
set_option linter.unusedVariables false
set_option linter.unusedSimpArgs false

theorem e11 : decide ((11 : Int) = 0) = false := rfl
instance instDecInW (a : List Int) : Decidable (inW a) := inferInstanceAs (Decidable (_ ∧ _))
end Go.L

/-! XE -/
namespace Go.L
open Go.PM
set_option exponentiation.threshold 20000
set_option linter.unusedVariables false
set_option linter.unusedSimpArgs false

end Go.L
