/-
  states of a set of ratios. numbers in texts: a ratio's text is one token. numbers in texts: the law.
  No condition beyond those that each theorem names.
-/
import Derived.Test.YtdadepdcllachaaGreatDoorS

/-! CA -/
namespace Go.L
open Go.PM
set_option exponentiation.threshold 20000
set_option linter.unusedVariables false
set_option linter.unusedSimpArgs false

/-- vec.Scale$1 -/
def vec_Scale_1 (x : RT) (__ : RT) (t2 : RT) : Option (RT × Int × Unit) :=
  (S.ratio_Mul (((x.1.1, x.1.2.1, ()), x.2.1, ()), ((t2.1.1, t2.1.2.1, ()), t2.2.1, ()), ())).bind fun z1 =>
  some (((z1.1.1.1, z1.1.1.2.1, ()), z1.1.2.1, ()), z1.2.1, ())

def S.vec_Scale_1 (x : RT × RT × RT × Unit) : Option (RT × Int × Unit) := L.vec_Scale_1 x.1 x.2.1 x.2.2.1
/-- vec.Scale -/
def vec_Scale (a : List RT) (by_ : RT) : Option ((List RT) × Int × Unit) :=
  (S.vec_each (a, a, (fun z => S.vec_Scale_1 (z.1, z.2.1, ((by_.1.1, by_.1.2.1, ()), by_.2.1, ()), ())), ())).bind fun z1 =>
  some (z1.1, z1.2.1, ())

def S.vec_Scale (x : List RT × RT × Unit) : Option (List RT × Int × Unit) := L.vec_Scale x.1 x.2.1
theorem vec_Scale_R {n : Nat} {f : Nat → Rat} {t : Rat} {j k : Nat} (hn : n ≤ 16) (hf : ∀ i < n, big (f i) j) (ht : big t k) (h : j + k ≤ 512) : S.vec_Scale (Rx n f, R t, ()) = some (Rx n (fun i => f i * t), 0, ()) := by
  have e0 : ∀ (a : List RT) (b : RT), S.vec_Scale (a, b, ()) = (S.vec_each (a, a, (fun z => S.vec_Scale_1 (z.1, z.2.1, b, ())), ())).bind fun z1 => some z1 := fun _ _ => rfl
  have e1 : ∀ x y b : RT, S.vec_Scale_1 (x, y, b, ()) = (S.ratio_Mul (x, b, ())).bind fun z1 => some z1 := fun _ _ _ => rfl
  rw [e0, vec_each_R (h := fun i => f i * t) hn (fun i hi => by
    show S.vec_Scale_1 (R (f i), R (f i), R t, ()) = _
    rw [e1, ratio_Mul_R (hf i hi) ht h, Option.bind_some]), Option.bind_some]
theorem ratio_one : S.ratio_Of (1, 1, ()) = some (R 1, ()) := by rw [ratio_Of_R (by decide) (by decide) (by decide) (by decide) (by decide)]; rfl
end Go.L

/-! CB -/
namespace Go.L
open Go.PM
set_option exponentiation.threshold 20000
set_option linter.unusedVariables false
set_option linter.unusedSimpArgs false

end Go.L

/-! CC -/
namespace Go.L
open Go.PM
set_option exponentiation.threshold 20000
set_option linter.unusedVariables false
set_option linter.unusedSimpArgs false

end Go.L
