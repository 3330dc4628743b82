/-
  the laws of dyads. the laws of dyads: made, rounded. the law of dyads near ratios.
  No condition beyond those that each theorem names.
-/
import Derived.Test.YtdgldaahflpndaaGreatDoorM

/-! VA -/
namespace Go.L
open Go.PM
set_option exponentiation.threshold 20000
set_option linter.unusedVariables false
set_option linter.unusedSimpArgs false

/-- ratio.Abs -/
def ratio_Abs (a : (Bool × (List Int) × Unit) × (List Int) × Unit) : Option (((Bool × (List Int) × Unit) × (List Int) × Unit) × Unit) :=
  (S.whole_Abs ((a.1.1, a.1.2.1, ()), ())).bind fun z1 =>
  (S.slices_Clone_api_Nat_uint32 (a.2.1, ())).bind fun z2 =>
  some (((z1.1.1, z1.1.2.1, ()), z2.1, ()), ())

def S.ratio_Abs (x : RT × Unit) : Option (RT × Unit) := L.ratio_Abs x.1
/-- The size of a ratio. -/
def qabs (q : Rat) : Rat := if q < 0 then -q else q
theorem qabs_num (q : Rat) : (qabs q).num = (q.num.natAbs : Int) ∧ (qabs q).den = q.den := by
  unfold qabs
  have h0 : q < 0 ↔ q.num < 0 := by rw [Rat.lt_iff]; simp
  split
  · rename_i h
    rw [Rat.neg_num, Rat.neg_den]
    have := h0.1 h
    exact ⟨by omega, rfl⟩
  · rename_i h
    have : ¬ q.num < 0 := fun h' => h (h0.2 h')
    exact ⟨by omega, rfl⟩
theorem ratio_Abs_R {q : Rat} {k : Nat} (h : big q k) (hk : k ≤ 1000) : S.ratio_Abs (R q, ()) = some (R (qabs q), ()) := by
  obtain ⟨h1, h2⟩ := qabs_num q
  have e1 := whole_Abs_I (P1000 h.1 hk)
  have e2 := Clone_D (P1000 h.2 hk)
  have e0 : ∀ x : RT, S.ratio_Abs (x, ()) = (S.whole_Abs (x.1, ())).bind fun z1 => (S.slices_Clone_api_Nat_uint32 (x.2.1, ())).bind fun z2 => some ((z1.1, z2.1, ()), ()) := fun _ => rfl
  rw [e0, e1, Option.bind_some, e2, Option.bind_some]
  simp only [R, h1, h2]
theorem dyad_Of_one {e : Int} (h0 : -100 ≤ e) (h1 : e ≤ 100) : S.dyad_Of (1, e, ()) = some (Yd 1 e, ()) := by
  have e1 : S.whole_Of (1, ()) = some (I 1, ()) := whole_Of_I (by decide) (by decide)
  have e2 := dyad_Make_Yd (x := 1) (e := e) (k := 1) (P_one 1 (by decide)) (by decide) (by omega) (by omega)
  have e0 : ∀ n e : Int, S.dyad_Of (n, e, ()) = (S.whole_Of (n, ())).bind fun z1 => (S.dyad_Make (z1.1, (min (max e (-100 : Int)) 100), ())).bind fun z4 => some (z4.1, ()) := fun _ _ => rfl
  rw [e0, e1, Option.bind_some, show min (max e (-100 : Int)) 100 = e by omega, e2, Option.bind_some]
end Go.L

/-! VB -/
namespace Go.L
open Go.PM
set_option exponentiation.threshold 20000
set_option linter.unusedVariables false
set_option linter.unusedSimpArgs false

end Go.L

/-! VC -/
namespace Go.L
open Go.PM
set_option exponentiation.threshold 20000
set_option linter.unusedVariables false
set_option linter.unusedSimpArgs false

theorem nn_bounds {q : Rat} {b : Nat} (h0 : q ≠ 0) : 2 ^ b * (nden q b).natAbs ≤ (nnum q b).natAbs ∧ (nnum q b).natAbs < 2 ^ (b + 2) * (nden q b).natAbs := by
  have hn0 := num0 h0
  have hd0 : (q.den : Int) ≠ 0 := den0 q
  have n1 := bl_lo hn0
  have n2 := bl_hi q.num
  have d1 := bl_lo hd0
  have d2 := bl_hi (q.den : Int)
  rw [den_abs] at d1 d2
  have hs : nsh q b = (b : Int) - bl q.num + bl (q.den : Int) + 1 := rfl
  unfold nnum nden
  generalize bl q.num = n at *
  generalize bl (q.den : Int) = d at *
  by_cases h : 0 ≤ nsh q b
  · rw [if_pos h, if_pos h]
    obtain ⟨s, hs'⟩ : ∃ s : Nat, nsh q b = s := ⟨(nsh q b).toNat, by omega⟩
    rw [hs', Int.toNat_natCast, den_abs, Int.natAbs_mul, pow_cast, Int.natAbs_natCast]
    have hp := Nat.pow_pos (n := s) (show 0 < 2 by decide)
    have e1 : 2 ^ b * 2 ^ d = 2 ^ (n - 1) * 2 ^ s := by rw [← Nat.pow_add, ← Nat.pow_add]; congr 1; omega
    have e2 : 2 ^ n * 2 ^ s = 2 ^ (b + 2) * 2 ^ (d - 1) := by rw [← Nat.pow_add, ← Nat.pow_add]; congr 1; omega
    constructor
    · calc 2 ^ b * q.den ≤ 2 ^ b * 2 ^ d := Nat.mul_le_mul_left _ (Nat.le_of_lt d2)
        _ = 2 ^ (n - 1) * 2 ^ s := e1
        _ ≤ q.num.natAbs * 2 ^ s := Nat.mul_le_mul_right _ n1.1
    · calc q.num.natAbs * 2 ^ s < 2 ^ n * 2 ^ s := Nat.mul_lt_mul_of_pos_right n2 hp
        _ = 2 ^ (b + 2) * 2 ^ (d - 1) := e2
        _ ≤ 2 ^ (b + 2) * q.den := Nat.mul_le_mul_left _ d1.1
  · rw [if_neg h, if_neg h]
    obtain ⟨s, hs'⟩ : ∃ s : Nat, -nsh q b = s := ⟨(-nsh q b).toNat, by omega⟩
    rw [hs', Int.toNat_natCast, Int.natAbs_mul, den_abs, pow_cast, Int.natAbs_natCast]
    have e1 : 2 ^ b * (2 ^ d * 2 ^ s) = 2 ^ (n - 1) := by rw [← Nat.pow_add, ← Nat.pow_add]; congr 1; omega
    have e2 : 2 ^ n = 2 ^ (b + 2) * (2 ^ (d - 1) * 2 ^ s) := by rw [← Nat.pow_add, ← Nat.pow_add]; congr 1; omega
    constructor
    · calc 2 ^ b * (q.den * 2 ^ s) ≤ 2 ^ b * (2 ^ d * 2 ^ s) := Nat.mul_le_mul_left _ (Nat.mul_le_mul_right _ (Nat.le_of_lt d2))
        _ = 2 ^ (n - 1) := e1
        _ ≤ q.num.natAbs := n1.1
    · calc q.num.natAbs < 2 ^ n := n2
        _ = 2 ^ (b + 2) * (2 ^ (d - 1) * 2 ^ s) := e2
        _ ≤ 2 ^ (b + 2) * (q.den * 2 ^ s) := Nat.mul_le_mul_left _ (Nat.mul_le_mul_right _ d1.1)
theorem nq_small {q : Rat} {b : Nat} (up : Bool) (h0 : q ≠ 0) : nq up q b ≤ 2 ^ (b + 2) ∧ -(2 ^ (b + 2) : Int) ≤ nq up q b := by
  have h := (nn_bounds (b := b) h0).2
  have hd := nden_pos q b
  have hN : nnum q b < 2 ^ (b + 2) * nden q b ∧ -(2 ^ (b + 2) * nden q b) < nnum q b := by
    have e : (2 : Int) ^ (b + 2) * nden q b = ((2 ^ (b + 2) * (nden q b).natAbs : Nat) : Int) := by
      rw [pow_cast, Int.natCast_mul, Int.natAbs_of_nonneg (by omega)]
    rw [e]; omega
  have e1 : nnum q b / nden q b < 2 ^ (b + 2) := (Int.ediv_lt_iff_lt_mul hd).2 hN.1
  have e2 : -(2 ^ (b + 2) : Int) ≤ nnum q b / nden q b := (Int.le_ediv_iff_mul_le hd).2 (by rw [Int.neg_mul]; omega)
  unfold nq
  cases up && decide (nnum q b % nden q b ≠ 0)
  · simp only [cond_false]; omega
  · simp only [cond_true]; omega
/-- What a ratio is near, and its exponent. -/
def nz (up : Bool) (q : Rat) (b : Nat) : Int := if q = 0 then 0 else rnd up (nq up q b) b
def ne (q : Rat) (b : Nat) : Int := if q = 0 then 0 else -nsh q b
theorem sgq_le {a b : Rat} (h : a ≤ b) : sgq a b ≤ 0 := by
  unfold sgq
  split
  · decide
  · rw [if_neg (Rat.not_lt.2 h)]; decide
theorem sgq_ge {a b : Rat} (h : b ≤ a) : 0 ≤ sgq a b := by
  unfold sgq
  rw [if_neg (Rat.not_lt.2 h)]
  split <;> decide
end Go.L
