/-
  the laws of dyads. the laws of dyads: made, rounded. the law of dyads near ratios.
  No condition beyond those that each theorem names.
-/
import Derived.Test.YtblbpaoidlojdaaGreatDoorM

/-! VA -/
namespace Go.L
open Go.PM
set_option exponentiation.threshold 20000
set_option linter.unusedVariables false
set_option linter.unusedSimpArgs false

/-- ratio.Sub -/
def ratio_Sub (a : (Bool × (List Int) × Unit) × (List Int) × Unit) (b : (Bool × (List Int) × Unit) × (List Int) × Unit) : Option (((Bool × (List Int) × Unit) × (List Int) × Unit) × Int × Unit) :=
  (S.ratio_Neg (((b.1.1, b.1.2.1, ()), b.2.1, ()), ())).bind fun z1 =>
  (S.ratio_Add (((a.1.1, a.1.2.1, ()), a.2.1, ()), ((z1.1.1.1, z1.1.1.2.1, ()), z1.1.2.1, ()), ())).bind fun z2 =>
  some (((z2.1.1.1, z2.1.1.2.1, ()), z2.1.2.1, ()), z2.2.1, ())

def S.ratio_Sub (x : RT × RT × Unit) : Option (RT × Int × Unit) := L.ratio_Sub x.1 x.2.1
theorem ratio_Sub_R {a b : Rat} {j k : Nat} (ha : big a j) (hb : big b k) (h : j + k + 1 ≤ 512) : S.ratio_Sub (R a, R b, ()) = some (R (a - b), 0, ()) := by
  have e0 : ∀ x y : RT, S.ratio_Sub (x, y, ()) = (S.ratio_Neg (y, ())).bind fun z1 => (S.ratio_Add (x, z1.1, ())).bind fun z2 => some z2 := fun _ _ => rfl
  rw [e0, ratio_Neg_R hb (by omega), Option.bind_some, ratio_Add_R ha (big_neg hb) h, Option.bind_some, Rat.sub_eq_add_neg]
theorem big_sub {a b : Rat} {j k : Nat} (ha : big a j) (hb : big b k) : big (a - b) (j + k + 1) := by
  rw [Rat.sub_eq_add_neg]; exact big_add ha (big_neg hb)
/-- ratio.Abs -/
def ratio_Abs (a : (Bool × (List Int) × Unit) × (List Int) × Unit) : Option (((Bool × (List Int) × Unit) × (List Int) × Unit) × Unit) :=
  (S.whole_Abs ((a.1.1, a.1.2.1, ()), ())).bind fun z1 =>
  (S.slices_Clone_api_Nat_uint32 (a.2.1, ())).bind fun z2 =>
  some (((z1.1.1, z1.1.2.1, ()), z2.1, ()), ())

def S.ratio_Abs (x : RT × Unit) : Option (RT × Unit) := L.ratio_Abs x.1
/-- ratio.Text -/
def ratio_Text (a : (Bool × (List Int) × Unit) × (List Int) × Unit) : Option (ByteArray × Unit) :=
  (S.limbs_Of (1, ())).bind fun z1 =>
  (S.limbs_Compare (a.2.1, z1.1, ())).bind fun z2 =>
  cond (decide (z2.1 = 0))
    (
      (S.whole_Text ((a.1.1, a.1.2.1, ()), ())).bind fun z3 =>
      some (z3.1, ()))
    (
      (S.whole_Text ((a.1.1, a.1.2.1, ()), ())).bind fun z4 =>
      cond (decide (z4.1.size + (⟨#[47]⟩ : ByteArray).size ≤ 9223372036854775807))
        (
          let z5 := z4.1 ++ (⟨#[47]⟩ : ByteArray)
          (S.digits_Text (a.2.1, ())).bind fun z6 =>
          cond (decide (z5.size + z6.1.size ≤ 9223372036854775807)) (some ((z5 ++ z6.1), ())) none) none)

def S.ratio_Text (x : RT × Unit) : Option (ByteArray × Unit) := L.ratio_Text x.1
end Go.L

/-! VB -/
namespace Go.L
open Go.PM
set_option exponentiation.threshold 20000
set_option linter.unusedVariables false
set_option linter.unusedSimpArgs false

theorem bl_mono {x : Int} {b : Nat} (h : x.natAbs < 2 ^ b) : bl x ≤ b := by
  by_cases h0 : x = 0
  · subst h0; simp [bl]
  · have h1 := bl_lo h0
    have := (Nat.pow_lt_pow_iff_right (show 1 < 2 by decide)).1 (Nat.lt_of_le_of_lt h1.1 h)
    omega
theorem bl_od_le (x : Int) : bl (od x) ≤ bl x := by
  by_cases h : x = 0
  · subst h; rw [od_zero]; exact Nat.le_refl _
  · rw [bl_od h]; omega
theorem few_bl {z : Int} {b : Nat} (hb : 1 ≤ b) (h : few b z) : bl (od z) ≤ b := by
  obtain ⟨m, j, rfl, hm⟩ := h
  rw [od_scale]
  rcases Nat.lt_or_ge m.natAbs (2 ^ b) with h | h
  · exact Nat.le_trans (bl_od_le m) (bl_mono h)
  · have hm' : m.natAbs = 2 ^ b := by omega
    have : m = 1 * 2 ^ b ∨ m = -1 * 2 ^ b := by rw [pow_cast]; omega
    rcases this with e | e <;> rw [e, od_scale]
    · rw [od_odd (by decide)]; exact Nat.le_trans (show bl 1 ≤ 1 by decide) hb
    · rw [od_odd (by decide)]; exact Nat.le_trans (show bl (-1) ≤ 1 by decide) hb
end Go.L

/-! VC -/
namespace Go.L
open Go.PM
set_option exponentiation.threshold 20000
set_option linter.unusedVariables false
set_option linter.unusedSimpArgs false

/-- What a ratio is near, and its exponent. -/
def nz (up : Bool) (q : Rat) (b : Nat) : Int := if q = 0 then 0 else rnd up (nq up q b) b
def ne (q : Rat) (b : Nat) : Int := if q = 0 then 0 else -nsh q b
theorem sgq_le {a b : Rat} (h : a ≤ b) : sgq a b ≤ 0 := by
  unfold sgq
  split
  · decide
  · rw [if_neg (Rat.not_lt.2 h)]; decide
theorem sgq_ge {a b : Rat} (h : b ≤ a) : 0 ≤ sgq a b := by
  unfold sgq
  rw [if_neg (Rat.not_lt.2 h)]
  split <;> decide
end Go.L
