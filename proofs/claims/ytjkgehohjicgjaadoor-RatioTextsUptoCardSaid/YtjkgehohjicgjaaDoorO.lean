/-
  spans: the rest of their functions; what the laws of spans ask. the laws of spans: near, sizes, holds. the laws of spans: nests, sets, tight.
  No condition beyond those that each theorem names.
-/
import Derived.Test.YtjkgehohjicgjaaDoorN

/-! UA -/
namespace Go.L
open Go.PM
set_option exponentiation.threshold 20000
set_option linter.unusedVariables false
set_option linter.unusedSimpArgs false

end Go.L

/-! UB -/
namespace Go.L
open Go.PM
set_option exponentiation.threshold 20000
set_option linter.unusedVariables false
set_option linter.unusedSimpArgs false

end Go.L

/-! UC -/
namespace Go.L
open Go.PM
set_option exponentiation.threshold 20000
set_option linter.unusedVariables false
set_option linter.unusedSimpArgs false

theorem sub_abs {a b : Int} {k : Nat} (ha : a.natAbs < P k) (hb : b.natAbs < P k) : (a - b).natAbs < P (k + 1) := by
  rw [Int.sub_eq_add_neg]; exact nA_add ha (by rw [Int.natAbs_neg]; exact hb)
end Go.L
