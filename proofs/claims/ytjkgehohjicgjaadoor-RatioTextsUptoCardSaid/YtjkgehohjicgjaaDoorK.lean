/-
  dyads: canonical numbers times powers of 2. dyads: order, sums, products, rounding. dyads: rounding; spans. dyads as ratios; spans of dyads. dyads and spans that may be.
  No condition beyond those that each theorem names.
-/
import Derived.Test.YtjkgehohjicgjaaDoorJ

/-! ZA -/
namespace Go.L
open Go.PM
set_option exponentiation.threshold 20000
set_option linter.unusedVariables false
set_option linter.unusedSimpArgs false

/-- A dyad in its form. -/
def cn (a e : Int) : Prop := a % 2 = 1 ∨ (a = 0 ∧ e = 0)
end Go.L

/-! ZB -/
namespace Go.L
open Go.PM
set_option exponentiation.threshold 20000
set_option linter.unusedVariables false
set_option linter.unusedSimpArgs false

abbrev DY := (Bool × List Int × Unit) × Int × Unit
/-- How many bits a number has. -/
def bl (x : Int) : Nat := if x = 0 then 0 else x.natAbs.log2 + 1
theorem sgn_self (a : Int) : sgn a a = 0 := by unfold sgn; rw [if_neg (by omega), if_neg (by omega)]
/-- dyad.Sign -/
def dyad_Sign (a : (Bool × (List Int) × Unit) × Int × Unit) : Option (Int × Unit) :=
  (S.whole_Sign ((a.1.1, a.1.2.1, ()), ())).bind fun z1 =>
  some (z1.1, ())

def S.dyad_Sign (x : DY × Unit) : Option (Int × Unit) := L.dyad_Sign x.1
/-- dyad.level -/
def dyad_level (a : (Bool × (List Int) × Unit) × Int × Unit) (b : (Bool × (List Int) × Unit) × Int × Unit) : Option ((Bool × (List Int) × Unit) × (Bool × (List Int) × Unit) × Int × Int × Unit) :=
  (S.dyad_Sign (((a.1.1, a.1.2.1, ()), a.2.1, ()), ())).bind fun z1 =>
  cond (decide (z1.1 = 0)) (some ((false, [], ()), (b.1.1, b.1.2.1, ()), b.2.1, 0, ()))
    (
      (S.dyad_Sign (((b.1.1, b.1.2.1, ()), b.2.1, ()), ())).bind fun z2 =>
      cond (decide (z2.1 = 0)) (some ((a.1.1, a.1.2.1, ()), (false, [], ()), a.2.1, 0, ()))
        (
          let z3 := min a.2.1 b.2.1
          (S.whole_Left ((a.1.1, a.1.2.1, ()), (IntKind.i64.wrap (a.2.1 - z3)), ())).bind fun z5 =>
          (S.whole_Left ((b.1.1, b.1.2.1, ()), (IntKind.i64.wrap (b.2.1 - z3)), ())).bind fun z7 =>
          cond (!(decide (z5.2.1 = 0))) (some ((z5.1.1, z5.1.2.1, ()), (z7.1.1, z7.1.2.1, ()), z3, z5.2.1, ())) (some ((z5.1.1, z5.1.2.1, ()), (z7.1.1, z7.1.2.1, ()), z3, z7.2.1, ()))))

def S.dyad_level (x : DY × DY × Unit) : Option ((Bool × List Int × Unit) × (Bool × List Int × Unit) × Int × Int × Unit) := L.dyad_level x.1 x.2.1
/-- dyad.top -/
def dyad_top (a : (Bool × (List Int) × Unit) × Int × Unit) : Option (Int × Unit) :=
  (S.limbs_Bits (a.1.2.1, ())).bind fun z1 =>
  some ((IntKind.i64.wrap (a.2.1 + z1.1)), ())

def S.dyad_top (x : DY × Unit) : Option (Int × Unit) := L.dyad_top x.1
/-- dyad.Compare -/
def dyad_Compare (a : (Bool × (List Int) × Unit) × Int × Unit) (b : (Bool × (List Int) × Unit) × Int × Unit) : Option (Int × Unit) :=
  (S.dyad_Sign (((a.1.1, a.1.2.1, ()), a.2.1, ()), ())).bind fun z1 =>
  (S.dyad_Sign (((b.1.1, b.1.2.1, ()), b.2.1, ()), ())).bind fun z2 =>
  cond (!(decide (z1.1 = z2.1)))
    (
      cond (decide (z1.1 < z2.1)) (some ((-1 : Int), ()))
        (
          cond (!(decide (z1.1 = z2.1))) (some (1, ()))
            (
              cond (decide (z1.1 = 0)) (some (0, ()))
                (
                  (S.dyad_top (((a.1.1, a.1.2.1, ()), a.2.1, ()), ())).bind fun z3 =>
                  (S.dyad_top (((b.1.1, b.1.2.1, ()), b.2.1, ()), ())).bind fun z4 =>
                  cond (!(decide (z3.1 = z4.1)))
                    (
                      cond ((decide (z3.1 < z4.1) == decide (0 < z1.1))) (some ((-1 : Int), ())) (some (1, ())))
                    (
                      (S.dyad_level (((a.1.1, a.1.2.1, ()), a.2.1, ()), ((b.1.1, b.1.2.1, ()), b.2.1, ()), ())).bind fun z5 =>
                      (S.whole_Compare ((z5.1.1, z5.1.2.1, ()), (z5.2.1.1, z5.2.1.2.1, ()), ())).bind fun z6 =>
                      some (z6.1, ()))))))
    (
      cond (!(decide (z1.1 = z2.1))) (some (1, ()))
        (
          cond (decide (z1.1 = 0)) (some (0, ()))
            (
              (S.dyad_top (((a.1.1, a.1.2.1, ()), a.2.1, ()), ())).bind fun z7 =>
              (S.dyad_top (((b.1.1, b.1.2.1, ()), b.2.1, ()), ())).bind fun z8 =>
              cond (!(decide (z7.1 = z8.1)))
                (
                  cond ((decide (z7.1 < z8.1) == decide (0 < z1.1))) (some ((-1 : Int), ())) (some (1, ())))
                (
                  (S.dyad_level (((a.1.1, a.1.2.1, ()), a.2.1, ()), ((b.1.1, b.1.2.1, ()), b.2.1, ()), ())).bind fun z9 =>
                  (S.whole_Compare ((z9.1.1, z9.1.2.1, ()), (z9.2.1.1, z9.2.1.2.1, ()), ())).bind fun z10 =>
                  some (z10.1, ())))))

def S.dyad_Compare (x : DY × DY × Unit) : Option (Int × Unit) := L.dyad_Compare x.1 x.2.1
/-- dyad.Less -/
def dyad_Less (a : (Bool × (List Int) × Unit) × Int × Unit) (b : (Bool × (List Int) × Unit) × Int × Unit) : Option (Bool × Unit) :=
  (S.dyad_Compare (((a.1.1, a.1.2.1, ()), a.2.1, ()), ((b.1.1, b.1.2.1, ()), b.2.1, ()), ())).bind fun z1 =>
  some (decide (z1.1 < 0), ())

def S.dyad_Less (x : DY × DY × Unit) : Option (Bool × Unit) := L.dyad_Less x.1 x.2.1
end Go.L

/-! ZC -/
namespace Go.L
open Go.PM
set_option exponentiation.threshold 20000
set_option linter.unusedVariables false
set_option linter.unusedSimpArgs false

/-- A number, rounded down to so many bits. -/
def rdn (x : Int) (b : Nat) : Int := x / 2 ^ (bl x - b) * 2 ^ (bl x - b)
def rup (x : Int) (b : Nat) : Int := -rdn (-x) b
def rnd (up : Bool) (x : Int) (b : Nat) : Int := bif up then rup x b else rdn x b
end Go.L

/-! ZD -/
namespace Go.L
open Go.PM
set_option exponentiation.threshold 20000
set_option linter.unusedVariables false
set_option linter.unusedSimpArgs false

abbrev SP := DY × DY × Unit
abbrev RT := (Bool × List Int × Unit) × List Int × Unit
abbrev rt0 : RT := ((false, [], ()), [], ())
/-- How big a span's numbers are. -/
abbrev lt2 (l h : Int) (k : Nat) : Prop := l.natAbs < P k ∧ h.natAbs < P k
end Go.L

/-! ZE -/
namespace Go.L
open Go.PM
set_option exponentiation.threshold 20000
set_option linter.unusedVariables false
set_option linter.unusedSimpArgs false

/-- A dyad that may be. -/
def isY (x : DY) : Prop := ∃ z e, x = (I z, e, ()) ∧ cn z e ∧ z.natAbs < P 512 ∧ -65536 ≤ e ∧ e ≤ 65536
end Go.L
