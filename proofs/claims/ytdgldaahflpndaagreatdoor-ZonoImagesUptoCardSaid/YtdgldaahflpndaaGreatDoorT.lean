/-
  states of a set of ratios. numbers in texts: a ratio's text is one token. numbers in texts: the law.
  No condition beyond those that each theorem names.
-/
import Derived.Test.YtdgldaahflpndaaGreatDoorS

/-! CA -/
namespace Go.L
open Go.PM
set_option exponentiation.threshold 20000
set_option linter.unusedVariables false
set_option linter.unusedSimpArgs false

/-- vec.Scale$1 -/
def vec_Scale_1 (x : RT) (__ : RT) (t2 : RT) : Option (RT × Int × Unit) :=
  (S.ratio_Mul (((x.1.1, x.1.2.1, ()), x.2.1, ()), ((t2.1.1, t2.1.2.1, ()), t2.2.1, ()), ())).bind fun z1 =>
  some (((z1.1.1.1, z1.1.1.2.1, ()), z1.1.2.1, ()), z1.2.1, ())

def S.vec_Scale_1 (x : RT × RT × RT × Unit) : Option (RT × Int × Unit) := L.vec_Scale_1 x.1 x.2.1 x.2.2.1
/-- vec.Scale -/
def vec_Scale (a : List RT) (by_ : RT) : Option ((List RT) × Int × Unit) :=
  (S.vec_each (a, a, (fun z => S.vec_Scale_1 (z.1, z.2.1, ((by_.1.1, by_.1.2.1, ()), by_.2.1, ()), ())), ())).bind fun z1 =>
  some (z1.1, z1.2.1, ())

def S.vec_Scale (x : List RT × RT × Unit) : Option (List RT × Int × Unit) := L.vec_Scale x.1 x.2.1
theorem vec_Scale_R {n : Nat} {f : Nat → Rat} {t : Rat} {j k : Nat} (hn : n ≤ 16) (hf : ∀ i < n, big (f i) j) (ht : big t k) (h : j + k ≤ 512) : S.vec_Scale (Rx n f, R t, ()) = some (Rx n (fun i => f i * t), 0, ()) := by
  have e0 : ∀ (a : List RT) (b : RT), S.vec_Scale (a, b, ()) = (S.vec_each (a, a, (fun z => S.vec_Scale_1 (z.1, z.2.1, b, ())), ())).bind fun z1 => some z1 := fun _ _ => rfl
  have e1 : ∀ x y b : RT, S.vec_Scale_1 (x, y, b, ()) = (S.ratio_Mul (x, b, ())).bind fun z1 => some z1 := fun _ _ _ => rfl
  rw [e0, vec_each_R (h := fun i => f i * t) hn (fun i hi => by
    show S.vec_Scale_1 (R (f i), R (f i), R t, ()) = _
    rw [e1, ratio_Mul_R (hf i hi) ht h, Option.bind_some]), Option.bind_some]
/-- vec.Add -/
def vec_Add (a : List RT) (b : List RT) : Option ((List RT) × Int × Unit) :=
  (S.vec_each (a, b, S.ratio_Add, ())).bind fun z1 =>
  some (z1.1, z1.2.1, ())

def S.vec_Add (x : List RT × List RT × Unit) : Option (List RT × Int × Unit) := L.vec_Add x.1 x.2.1
theorem vec_Add_R {n : Nat} {f g : Nat → Rat} {j k : Nat} (hn : n ≤ 16) (hf : ∀ i < n, big (f i) j) (hg : ∀ i < n, big (g i) k) (h : j + k + 1 ≤ 512) : S.vec_Add (Rx n f, Rx n g, ()) = some (Rx n (fun i => f i + g i), 0, ()) := by
  have e0 : ∀ a b : List RT, S.vec_Add (a, b, ()) = (S.vec_each (a, b, S.ratio_Add, ())).bind fun z1 => some z1 := fun _ _ => rfl
  rw [e0, vec_each_R (h := fun i => f i + g i) hn (fun i hi => ratio_Add_R (hf i hi) (hg i hi) h), Option.bind_some]
/-- model_Point: one round of loop 0. -/
def model_Point_s0 (κ0 : (List RT) → (List RT) → (List (List RT)) → Int → Int → Option ((List RT) × Int × Unit)) (by_ : List RT) (out : List RT) (t28 : List (List RT)) (t29 : Int) (t30 : Int) : Option ((List RT) × Int × Unit) :=
  cond (decide (t30 < t29))
    (
      cond (decide (0 ≤ t30))
        (
          cond (decide (t30 < (t28.length : Int)))
            (
              cond (decide (0 ≤ t30))
                (
                  cond (decide (t30 < (by_.length : Int)))
                    (
                      let z3 := by_.getD t30.toNat ((false, ([], ())), ([], ()))
                      (S.ratio_Abs (((z3.1.1, z3.1.2.1, ()), z3.2.1, ()), ())).bind fun z4 =>
                      (S.ratio_Of (1, 1, ())).bind fun z5 =>
                      (S.ratio_Compare (((z4.1.1.1, z4.1.1.2.1, ()), z4.1.2.1, ()), ((z5.1.1.1, z5.1.1.2.1, ()), z5.1.2.1, ()), ())).bind fun z6 =>
                      cond (!(decide (z6.2.1 = 0))) (some ([], 1, ()))
                        (
                          cond (decide (0 < z6.1)) (some ([], 1, ()))
                            (
                              cond (decide (0 ≤ t30))
                                (
                                  cond (decide (t30 < (by_.length : Int)))
                                    (
                                      let z7 := by_.getD t30.toNat ((false, ([], ())), ([], ()))
                                      (S.vec_Scale ((t28.getD t30.toNat []), ((z7.1.1, z7.1.2.1, ()), z7.2.1, ()), ())).bind fun z8 =>
                                      cond (!(decide (z8.2.1 = 0))) (some ([], z8.2.1, ()))
                                        (
                                          (S.vec_Add (out, z8.1, ())).bind fun z9 =>
                                          cond (!(decide (z9.2.1 = 0))) (some ([], z9.2.1, ())) (κ0 by_ z9.1 t28 t29 (IntKind.i64.wrap (t30 + 1))))) none) none))) none) none) none) none) (some (out, 0, ()))

def model_Point_l0 (K : Nat) : Nat → (List RT) → (List RT) → (List (List RT)) → Int → Int → Option ((List RT) × Int × Unit)
  | 0, _, _, _, _, _ => none
  | n + 1, by_, out, t28, t29, t30 => model_Point_s0 (model_Point_l0 K n) by_ out t28 t29 t30

/-- model.Point -/
def model_Point_b (I0 : (List RT) → (List RT) → (List (List RT)) → Int → Int → Option ((List RT) × Int × Unit)) (z : ZR) (by_ : List RT) : Option ((List RT) × Int × Unit) :=
  cond (!(decide ((by_.length : Int) = (z.2.1.length : Int)))) (some ([], 20, ()))
    (
      cond (decide (0 ≤ (z.1.length : Int)))
        (
          cond (decide ((z.1.length : Int) * 56 ≤ 140737488351232))
            (
              let z1 := (List.replicate z.1.length ((false, ([], ())), ([], ())) : List RT)
              I0 by_ (z.1.take z1.length ++ z1.drop z.1.length) z.2.1 (z.2.1.length : Int) 0) none) none)

def model_Point (K : Nat) (z : ZR) (by_ : List RT) : Option ((List RT) × Int × Unit) := model_Point_b (model_Point_l0 K K) z by_

def S.model_Point (x : ZR × List RT × Unit) : Option (List RT × Int × Unit) := L.model_Point 100 x.1 x.2.1
/-- A set's state: its middle, and each way times a number. -/
def pnt (q0 : Nat → Rat) (q : Nat → Nat → Rat) (t : Nat → Rat) : Nat → Nat → Rat
  | 0 => q0
  | k + 1 => fun i => pnt q0 q t k i + q k i * t k
theorem pnt_big {n m : Nat} {q0 : Nat → Rat} {q : Nat → Nat → Rat} {t : Nat → Rat} {j l : Nat} (h0 : ∀ i < n, big (q0 i) j) (h : ∀ k < m, ∀ i < n, big (q k i) j) (ht : ∀ k < m, big (t k) l) : ∀ k ≤ m, ∀ i < n, big (pnt q0 q t k i) (j + (j + l + 1) * k)
  | 0, _, i, hi => h0 i hi
  | k + 1, hk, i, hi => by
    have h1 := pnt_big h0 h ht k (by omega) i hi
    have h2 := big_add h1 (big_mul (h k (by omega) i hi) (ht k (by omega)))
    exact h2.mono (by rw [Nat.mul_add, Nat.mul_one]; omega)
theorem ratio_one : S.ratio_Of (1, 1, ()) = some (R 1, ()) := by rw [ratio_Of_R (by decide) (by decide) (by decide) (by decide) (by decide)]; rfl
end Go.L

/-! CB -/
namespace Go.L
open Go.PM
set_option exponentiation.threshold 20000
set_option linter.unusedVariables false
set_option linter.unusedSimpArgs false

end Go.L

/-! CC -/
namespace Go.L
open Go.PM
set_option exponentiation.threshold 20000
set_option linter.unusedVariables false
set_option linter.unusedSimpArgs false

end Go.L
