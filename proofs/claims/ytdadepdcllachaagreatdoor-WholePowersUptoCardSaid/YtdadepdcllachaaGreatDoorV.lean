/-
  the laws of sets: what they share. the laws of sets: nothing less. sets: a window on a row is not written.
  No condition beyond those that each theorem names.
-/
import Derived.Test.YtdadepdcllachaaGreatDoorU

/-! DD -/
namespace Go.L
open Go.PM
set_option exponentiation.threshold 20000
set_option linter.unusedVariables false
set_option linter.unusedSimpArgs false

/-- vec.Unit -/
def vec_Unit (n : Int) (at_ : Int) : Option ((List RT) × Unit) :=
  (S.vec_Zero (n, ())).bind fun z1 =>
  cond (decide (0 ≤ at_))
   (
   cond (decide (at_ < (z1.1.length : Int)))
   (
   (S.ratio_Of (1, 1, ())).bind fun z2 =>
   cond (decide (0 ≤ at_))
   (
   cond (decide (at_ < (z1.1.length : Int))) (some ((z1.1.set at_.toNat ((z2.1.1.1, z2.1.1.2.1, ()), z2.1.2.1, ())), ())) none) none) (some (z1.1, ()))) (some (z1.1, ()))

def S.vec_Unit (x : Int × Int × Unit) : Option (List RT × Unit) := L.vec_Unit x.1 x.2.1
/-- mat_Near: one round of loop 0. -/
def mat_Near_s0 (κ0 : Int → (List (List SP)) → (List (List RT)) → Int → Int → Option ((List (List SP)) × Int × Unit)) (bits : Int) (out : List (List SP)) (t14 : List (List RT)) (t15 : Int) (t16 : Int) : Option ((List (List SP)) × Int × Unit) :=
  cond (decide (t16 < t15))
   (
   cond (decide (0 ≤ t16))
   (
   cond (decide (t16 < (t14.length : Int)))
   (
   (S.vec_Near ((t14.getD t16.toNat []), bits, ())).bind fun z3 =>
   cond (!(decide (z3.2.1 = 0))) (some ([], z3.2.1, ()))
   (
   cond (decide (0 ≤ t16))
   (
   cond (decide (t16 < (out.length : Int))) (κ0 bits (out.set t16.toNat z3.1) t14 t15 (IntKind.i64.wrap (t16 + 1))) none) none)) none) none) (some (out, 0, ()))

def mat_Near_l0 (K : Nat) : Nat → Int → (List (List SP)) → (List (List RT)) → Int → Int → Option ((List (List SP)) × Int × Unit)
  | 0, _, _, _, _, _ => none
  | n + 1, bits, out, t14, t15, t16 => mat_Near_s0 (mat_Near_l0 K n) bits out t14 t15 t16

/-- mat.Near -/
def mat_Near_b (I0 : Int → (List (List SP)) → (List (List RT)) → Int → Int → Option ((List (List SP)) × Int × Unit)) (a : List (List RT)) (bits : Int) : Option ((List (List SP)) × Int × Unit) :=
  cond (decide (0 ≤ (a.length : Int)))
   (
   cond (decide ((a.length : Int) * 24 ≤ 140737488351232))
   (
   I0 bits (List.replicate a.length [] : List (List SP)) a (a.length : Int) 0) none) none

def mat_Near (K : Nat) (a : List (List RT)) (bits : Int) : Option ((List (List SP)) × Int × Unit) := mat_Near_b (mat_Near_l0 K K) a bits

def S.mat_Near (x : List (List RT) × Int × Unit) : Option (List (List SP) × Int × Unit) := L.mat_Near 100 x.1 x.2.1
end Go.L

/-! DE -/
namespace Go.L
open Go.PM
set_option exponentiation.threshold 20000
set_option linter.unusedVariables false
set_option linter.unusedSimpArgs false

end Go.L

/-! DF -/
namespace Go.L
open Go.PM
set_option linter.unusedVariables false
set_option linter.unusedSimpArgs false

end Go.L
