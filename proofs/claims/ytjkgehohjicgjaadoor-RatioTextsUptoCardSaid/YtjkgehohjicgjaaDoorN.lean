/-
  the laws of dyads. the laws of dyads: made, rounded. the law of dyads near ratios.
  No condition beyond those that each theorem names.
-/
import Derived.Test.YtjkgehohjicgjaaDoorM

/-! VA -/
namespace Go.L
open Go.PM
set_option exponentiation.threshold 20000
set_option linter.unusedVariables false
set_option linter.unusedSimpArgs false

/-- ratio.Sub -/
def ratio_Sub (a : (Bool × (List Int) × Unit) × (List Int) × Unit) (b : (Bool × (List Int) × Unit) × (List Int) × Unit) : Option (((Bool × (List Int) × Unit) × (List Int) × Unit) × Int × Unit) :=
  (S.ratio_Neg (((b.1.1, b.1.2.1, ()), b.2.1, ()), ())).bind fun z1 =>
  (S.ratio_Add (((a.1.1, a.1.2.1, ()), a.2.1, ()), ((z1.1.1.1, z1.1.1.2.1, ()), z1.1.2.1, ()), ())).bind fun z2 =>
  some (((z2.1.1.1, z2.1.1.2.1, ()), z2.1.2.1, ()), z2.2.1, ())

def S.ratio_Sub (x : RT × RT × Unit) : Option (RT × Int × Unit) := L.ratio_Sub x.1 x.2.1
theorem ratio_Sub_R {a b : Rat} {j k : Nat} (ha : big a j) (hb : big b k) (h : j + k + 1 ≤ 512) : S.ratio_Sub (R a, R b, ()) = some (R (a - b), 0, ()) := by
  have e0 : ∀ x y : RT, S.ratio_Sub (x, y, ()) = (S.ratio_Neg (y, ())).bind fun z1 => (S.ratio_Add (x, z1.1, ())).bind fun z2 => some z2 := fun _ _ => rfl
  rw [e0, ratio_Neg_R hb (by omega), Option.bind_some, ratio_Add_R ha (big_neg hb) h, Option.bind_some, Rat.sub_eq_add_neg]
theorem big_sub {a b : Rat} {j k : Nat} (ha : big a j) (hb : big b k) : big (a - b) (j + k + 1) := by
  rw [Rat.sub_eq_add_neg]; exact big_add ha (big_neg hb)
/-- ratio.Abs -/
def ratio_Abs (a : (Bool × (List Int) × Unit) × (List Int) × Unit) : Option (((Bool × (List Int) × Unit) × (List Int) × Unit) × Unit) :=
  (S.whole_Abs ((a.1.1, a.1.2.1, ()), ())).bind fun z1 =>
  (S.slices_Clone_api_Nat_uint32 (a.2.1, ())).bind fun z2 =>
  some (((z1.1.1, z1.1.2.1, ()), z2.1, ()), ())

def S.ratio_Abs (x : RT × Unit) : Option (RT × Unit) := L.ratio_Abs x.1
/-- The size of a ratio. -/
def qabs (q : Rat) : Rat := if q < 0 then -q else q
theorem qabs_num (q : Rat) : (qabs q).num = (q.num.natAbs : Int) ∧ (qabs q).den = q.den := by
  unfold qabs
  have h0 : q < 0 ↔ q.num < 0 := by rw [Rat.lt_iff]; simp
  split
  · rename_i h
    rw [Rat.neg_num, Rat.neg_den]
    have := h0.1 h
    exact ⟨by omega, rfl⟩
  · rename_i h
    have : ¬ q.num < 0 := fun h' => h (h0.2 h')
    exact ⟨by omega, rfl⟩
theorem ratio_Abs_R {q : Rat} {k : Nat} (h : big q k) (hk : k ≤ 1000) : S.ratio_Abs (R q, ()) = some (R (qabs q), ()) := by
  obtain ⟨h1, h2⟩ := qabs_num q
  have e1 := whole_Abs_I (P1000 h.1 hk)
  have e2 := Clone_D (P1000 h.2 hk)
  have e0 : ∀ x : RT, S.ratio_Abs (x, ()) = (S.whole_Abs (x.1, ())).bind fun z1 => (S.slices_Clone_api_Nat_uint32 (x.2.1, ())).bind fun z2 => some ((z1.1, z2.1, ()), ()) := fun _ => rfl
  rw [e0, e1, Option.bind_some, e2, Option.bind_some]
  simp only [R, h1, h2]
/-- ratio.Text -/
def ratio_Text (a : (Bool × (List Int) × Unit) × (List Int) × Unit) : Option (ByteArray × Unit) :=
  (S.limbs_Of (1, ())).bind fun z1 =>
  (S.limbs_Compare (a.2.1, z1.1, ())).bind fun z2 =>
  cond (decide (z2.1 = 0))
    (
      (S.whole_Text ((a.1.1, a.1.2.1, ()), ())).bind fun z3 =>
      some (z3.1, ()))
    (
      (S.whole_Text ((a.1.1, a.1.2.1, ()), ())).bind fun z4 =>
      cond (decide (z4.1.size + (⟨#[47]⟩ : ByteArray).size ≤ 9223372036854775807))
        (
          let z5 := z4.1 ++ (⟨#[47]⟩ : ByteArray)
          (S.digits_Text (a.2.1, ())).bind fun z6 =>
          cond (decide (z5.size + z6.1.size ≤ 9223372036854775807)) (some ((z5 ++ z6.1), ())) none) none)

def S.ratio_Text (x : RT × Unit) : Option (ByteArray × Unit) := L.ratio_Text x.1
end Go.L

/-! VB -/
namespace Go.L
open Go.PM
set_option exponentiation.threshold 20000
set_option linter.unusedVariables false
set_option linter.unusedSimpArgs false

end Go.L

/-! VC -/
namespace Go.L
open Go.PM
set_option exponentiation.threshold 20000
set_option linter.unusedVariables false
set_option linter.unusedSimpArgs false

/-- What a ratio is near, and its exponent. -/
def nz (up : Bool) (q : Rat) (b : Nat) : Int := if q = 0 then 0 else rnd up (nq up q b) b
def ne (q : Rat) (b : Nat) : Int := if q = 0 then 0 else -nsh q b
theorem sgq_zero {a b : Rat} : sgq a b = 0 ↔ a = b := by
  unfold sgq
  constructor
  · intro h
    by_cases h1 : a < b
    · rw [if_pos h1] at h; cases h
    · rw [if_neg h1] at h
      by_cases h2 : b < a
      · rw [if_pos h2] at h; cases h
      · exact Rat.le_antisymm (Rat.not_lt.1 h2) (Rat.not_lt.1 h1)
  · intro h; subst h; rw [if_neg Rat.lt_irrefl, if_neg Rat.lt_irrefl]
end Go.L
