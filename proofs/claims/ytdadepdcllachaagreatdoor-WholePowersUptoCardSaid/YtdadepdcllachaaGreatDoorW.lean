/-
  the laws of sets: both ways round. the laws of sets: sums. the laws of sets: not much more. the laws of sets: not much more: the law. the laws of sets: tables.
  No condition beyond those that each theorem names.
-/
import Derived.Test.YtdadepdcllachaaGreatDoorV

/-! DG -/
namespace Go.L
open Go.PM
set_option exponentiation.threshold 20000
set_option linter.unusedVariables false
set_option linter.unusedSimpArgs false

theorem sgq_no {a b : Rat} (h : ¬ 0 < sgq a b) : a ≤ b := by
  unfold sgq at h
  split at h
  · exact Rat.le_of_lt (by assumption)
  · split at h
    · exact absurd (by decide) h
    · exact Rat.not_lt.1 (by assumption)
end Go.L

/-! DH -/
namespace Go.L
open Go.PM
set_option exponentiation.threshold 20000
set_option linter.unusedVariables false
set_option linter.unusedSimpArgs false

end Go.L

/-! DI -/
namespace Go.L
open Go.PM
set_option exponentiation.threshold 20000
set_option linter.unusedVariables false
set_option linter.unusedSimpArgs false

end Go.L

/-! DJ -/
namespace Go.L
open Go.PM
set_option exponentiation.threshold 20000
set_option linter.unusedVariables false
set_option linter.unusedSimpArgs false

end Go.L

/-! DK -/
namespace Go.L
open Go.PM
set_option exponentiation.threshold 20000
set_option linter.unusedVariables false
set_option linter.unusedSimpArgs false

end Go.L
