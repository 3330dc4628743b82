/-
  the laws of dyads. the laws of dyads: made, rounded. the law of dyads near ratios.
  No condition beyond those that each theorem names.
-/
import Derived.Test.YtdadepdcllachaaGreatDoorM

/-! VA -/
namespace Go.L
open Go.PM
set_option exponentiation.threshold 20000
set_option linter.unusedVariables false
set_option linter.unusedSimpArgs false

/-- ratio.Abs -/
def ratio_Abs (a : (Bool × (List Int) × Unit) × (List Int) × Unit) : Option (((Bool × (List Int) × Unit) × (List Int) × Unit) × Unit) :=
  (S.whole_Abs ((a.1.1, a.1.2.1, ()), ())).bind fun z1 =>
  (S.slices_Clone_api_Nat_uint32 (a.2.1, ())).bind fun z2 =>
  some (((z1.1.1, z1.1.2.1, ()), z2.1, ()), ())

def S.ratio_Abs (x : RT × Unit) : Option (RT × Unit) := L.ratio_Abs x.1
/-- The size of a ratio. -/
def qabs (q : Rat) : Rat := if q < 0 then -q else q
theorem qabs_num (q : Rat) : (qabs q).num = (q.num.natAbs : Int) ∧ (qabs q).den = q.den := by
  unfold qabs
  have h0 : q < 0 ↔ q.num < 0 := by rw [Rat.lt_iff]; simp
  split
  · rename_i h
    rw [Rat.neg_num, Rat.neg_den]
    have := h0.1 h
    exact ⟨by omega, rfl⟩
  · rename_i h
    have : ¬ q.num < 0 := fun h' => h (h0.2 h')
    exact ⟨by omega, rfl⟩
theorem ratio_Abs_R {q : Rat} {k : Nat} (h : big q k) (hk : k ≤ 1000) : S.ratio_Abs (R q, ()) = some (R (qabs q), ()) := by
  obtain ⟨h1, h2⟩ := qabs_num q
  have e1 := whole_Abs_I (P1000 h.1 hk)
  have e2 := Clone_D (P1000 h.2 hk)
  have e0 : ∀ x : RT, S.ratio_Abs (x, ()) = (S.whole_Abs (x.1, ())).bind fun z1 => (S.slices_Clone_api_Nat_uint32 (x.2.1, ())).bind fun z2 => some ((z1.1, z2.1, ()), ()) := fun _ => rfl
  rw [e0, e1, Option.bind_some, e2, Option.bind_some]
  simp only [R, h1, h2]
/-- ratio.Text -/
def ratio_Text (a : (Bool × (List Int) × Unit) × (List Int) × Unit) : Option (ByteArray × Unit) :=
  (S.limbs_Of (1, ())).bind fun z1 =>
  (S.limbs_Compare (a.2.1, z1.1, ())).bind fun z2 =>
  cond (decide (z2.1 = 0))
   (
   (S.whole_Text ((a.1.1, a.1.2.1, ()), ())).bind fun z3 =>
   some (z3.1, ()))
   (
   (S.whole_Text ((a.1.1, a.1.2.1, ()), ())).bind fun z4 =>
   cond (decide (z4.1.size + (⟨#[47]⟩ : ByteArray).size ≤ 9223372036854775807))
   (
   let z5 := z4.1 ++ (⟨#[47]⟩ : ByteArray)
   (S.digits_Text (a.2.1, ())).bind fun z6 =>
   cond (decide (z5.size + z6.1.size ≤ 9223372036854775807)) (some ((z5 ++ z6.1), ())) none) none)

def S.ratio_Text (x : RT × Unit) : Option (ByteArray × Unit) := L.ratio_Text x.1
end Go.L

/-! VB -/
namespace Go.L
open Go.PM
set_option exponentiation.threshold 20000
set_option linter.unusedVariables false
set_option linter.unusedSimpArgs false

end Go.L

/-! VC -/
namespace Go.L
open Go.PM
set_option exponentiation.threshold 20000
set_option linter.unusedVariables false
set_option linter.unusedSimpArgs false

theorem nn_bounds {q : Rat} {b : Nat} (h0 : q ≠ 0) : 2 ^ b * (nden q b).natAbs ≤ (nnum q b).natAbs ∧ (nnum q b).natAbs < 2 ^ (b + 2) * (nden q b).natAbs := by
  have hn0 := num0 h0
  have hd0 : (q.den : Int) ≠ 0 := den0 q
  have n1 := bl_lo hn0
  have n2 := bl_hi q.num
  have d1 := bl_lo hd0
  have d2 := bl_hi (q.den : Int)
  rw [den_abs] at d1 d2
  have hs : nsh q b = (b : Int) - bl q.num + bl (q.den : Int) + 1 := rfl
  unfold nnum nden
  generalize bl q.num = n at *
  generalize bl (q.den : Int) = d at *
  by_cases h : 0 ≤ nsh q b
  · rw [if_pos h, if_pos h]
    obtain ⟨s, hs'⟩ : ∃ s : Nat, nsh q b = s := ⟨(nsh q b).toNat, by omega⟩
    rw [hs', Int.toNat_natCast, den_abs, Int.natAbs_mul, pow_cast, Int.natAbs_natCast]
    have hp := Nat.pow_pos (n := s) (show 0 < 2 by decide)
    have e1 : 2 ^ b * 2 ^ d = 2 ^ (n - 1) * 2 ^ s := by rw [← Nat.pow_add, ← Nat.pow_add]; congr 1; omega
    have e2 : 2 ^ n * 2 ^ s = 2 ^ (b + 2) * 2 ^ (d - 1) := by rw [← Nat.pow_add, ← Nat.pow_add]; congr 1; omega
    constructor
    · calc 2 ^ b * q.den ≤ 2 ^ b * 2 ^ d := Nat.mul_le_mul_left _ (Nat.le_of_lt d2)
        _ = 2 ^ (n - 1) * 2 ^ s := e1
        _ ≤ q.num.natAbs * 2 ^ s := Nat.mul_le_mul_right _ n1.1
    · calc q.num.natAbs * 2 ^ s < 2 ^ n * 2 ^ s := Nat.mul_lt_mul_of_pos_right n2 hp
        _ = 2 ^ (b + 2) * 2 ^ (d - 1) := e2
        _ ≤ 2 ^ (b + 2) * q.den := Nat.mul_le_mul_left _ d1.1
  · rw [if_neg h, if_neg h]
    obtain ⟨s, hs'⟩ : ∃ s : Nat, -nsh q b = s := ⟨(-nsh q b).toNat, by omega⟩
    rw [hs', Int.toNat_natCast, Int.natAbs_mul, den_abs, pow_cast, Int.natAbs_natCast]
    have e1 : 2 ^ b * (2 ^ d * 2 ^ s) = 2 ^ (n - 1) := by rw [← Nat.pow_add, ← Nat.pow_add]; congr 1; omega
    have e2 : 2 ^ n = 2 ^ (b + 2) * (2 ^ (d - 1) * 2 ^ s) := by rw [← Nat.pow_add, ← Nat.pow_add]; congr 1; omega
    constructor
    · calc 2 ^ b * (q.den * 2 ^ s) ≤ 2 ^ b * (2 ^ d * 2 ^ s) := Nat.mul_le_mul_left _ (Nat.mul_le_mul_right _ (Nat.le_of_lt d2))
        _ = 2 ^ (n - 1) := e1
        _ ≤ q.num.natAbs := n1.1
    · calc q.num.natAbs < 2 ^ n := n2
        _ = 2 ^ (b + 2) * (2 ^ (d - 1) * 2 ^ s) := e2
        _ ≤ 2 ^ (b + 2) * (q.den * 2 ^ s) := Nat.mul_le_mul_left _ (Nat.mul_le_mul_right _ d1.1)
theorem nq_small {q : Rat} {b : Nat} (up : Bool) (h0 : q ≠ 0) : nq up q b ≤ 2 ^ (b + 2) ∧ -(2 ^ (b + 2) : Int) ≤ nq up q b := by
  have h := (nn_bounds (b := b) h0).2
  have hd := nden_pos q b
  have hN : nnum q b < 2 ^ (b + 2) * nden q b ∧ -(2 ^ (b + 2) * nden q b) < nnum q b := by
    have e : (2 : Int) ^ (b + 2) * nden q b = ((2 ^ (b + 2) * (nden q b).natAbs : Nat) : Int) := by
      rw [pow_cast, Int.natCast_mul, Int.natAbs_of_nonneg (by omega)]
    rw [e]; omega
  have e1 : nnum q b / nden q b < 2 ^ (b + 2) := (Int.ediv_lt_iff_lt_mul hd).2 hN.1
  have e2 : -(2 ^ (b + 2) : Int) ≤ nnum q b / nden q b := (Int.le_ediv_iff_mul_le hd).2 (by rw [Int.neg_mul]; omega)
  unfold nq
  cases up && decide (nnum q b % nden q b ≠ 0)
  · simp only [cond_false]; omega
  · simp only [cond_true]; omega
theorem nq_step (q : Rat) (b : Nat) : nq false q b ≤ nq true q b ∧ nq true q b ≤ nq false q b + 1 := by
  unfold nq
  simp only [Bool.false_and, cond_false, Bool.true_and]
  cases decide (nnum q b % nden q b ≠ 0)
  · simp only [cond_false]; omega
  · simp only [cond_true]; omega
theorem near_gap {q : Rat} {b : Nat} (h0 : q ≠ 0) (hb : 1 ≤ b) : rup (nq true q b) b - rdn (nq false q b) b ≤ 4 := by
  have h1 := nq_small (b := b) false h0
  have h2 := nq_small (b := b) true h0
  have h3 := nq_step q b
  have e : (2 : Int) ^ (b + 2) = 2 ^ b * 4 := by rw [Int.pow_add]; rfl
  rw [e] at h1 h2
  have hp := two_pos b
  have l := rdn_max (x := nq false q b) (z := nq false q b / 4 * 2 ^ 2) hb ⟨nq false q b / 4, 2, rfl, by rw [show (2 : Nat) ^ b = ((2 : Int) ^ b).natAbs by rw [pow_cast, Int.natAbs_natCast]]; omega⟩ (by rw [show (2 : Int) ^ 2 = 4 from rfl]; omega)
  have u := rup_min (x := nq true q b) (z := (nq true q b + 3) / 4 * 2 ^ 2) hb ⟨(nq true q b + 3) / 4, 2, rfl, by rw [show (2 : Nat) ^ b = ((2 : Int) ^ b).natAbs by rw [pow_cast, Int.natAbs_natCast]]; omega⟩ (by rw [show (2 : Int) ^ 2 = 4 from rfl]; omega)
  rw [show (2 : Int) ^ 2 = 4 from rfl] at l u
  omega
/-- What a ratio is near, and its exponent. -/
def nz (up : Bool) (q : Rat) (b : Nat) : Int := if q = 0 then 0 else rnd up (nq up q b) b
def ne (q : Rat) (b : Nat) : Int := if q = 0 then 0 else -nsh q b
theorem few_zero (b : Nat) : few b 0 := ⟨0, 0, rfl, by simp⟩
theorem nz_gap {q : Rat} {b : Nat} (hb : 2 ≤ b) : (dv (nz true q b) (ne q b) - dv (nz false q b) (ne q b)) * ((2 ^ (b - 2) : Int) : Rat) ≤ qabs q := by
  unfold nz ne
  by_cases h0 : q = 0
  · subst h0
    rw [if_pos rfl, if_pos rfl, if_pos rfl, dv_zero]
    show _ ≤ qabs 0
    have : qabs 0 = 0 := by unfold qabs; rw [if_neg Rat.lt_irrefl]
    rw [this]
    grind
  · rw [if_neg h0, if_neg h0, if_neg h0, ← dv_sub]
    have hg := near_gap (b := b) h0 (by omega)
    have hn := (nn_bounds (b := b) h0).1
    have hd := nden_pos q b
    have hv := near_val q b
    show dv (rup (nq true q b) b - rdn (nq false q b) b) (-nsh q b) * _ ≤ _
    have e1 : dv (rup (nq true q b) b - rdn (nq false q b) b) (-nsh q b) * ((2 ^ (b - 2) : Int) : Rat) = dv ((rup (nq true q b) b - rdn (nq false q b) b) * 2 ^ (b - 2)) (-nsh q b) := by unfold dv; rw [Rat.intCast_mul]; grind
    rw [e1]
    have hpp := two_pos (b - 2)
    have e2 : (rup (nq true q b) b - rdn (nq false q b) b) * 2 ^ (b - 2) ≤ 2 ^ b := by
      have h4 := Int.mul_le_mul_of_nonneg_right hg (Int.le_of_lt hpp)
      have : (4 : Int) * 2 ^ (b - 2) = 2 ^ b := by rw [show (4 : Int) = 2 ^ 2 from rfl, ← Int.pow_add]; congr 1; omega
      omega
    apply Rat.le_trans (dv_le.2 e2)
    have hdr : (0 : Rat) < (nden q b : Rat) := Rat.intCast_pos.2 hd
    apply Rat.le_of_mul_le_mul_right _ hdr
    have e3 : dv (2 ^ b) (-nsh q b) * (nden q b : Rat) = dv (2 ^ b * nden q b) (-nsh q b) := by unfold dv; rw [Rat.intCast_mul]; grind
    rw [e3]
    have hn' : 2 ^ b * nden q b ≤ (((nnum q b).natAbs : Nat) : Int) := by
      have : (2 : Int) ^ b * nden q b = ((2 ^ b * (nden q b).natAbs : Nat) : Int) := by rw [pow_cast, Int.natCast_mul, Int.natAbs_of_nonneg (by omega)]
      rw [this]; exact Int.ofNat_le.2 hn
    apply Rat.le_trans (dv_le.2 hn')
    unfold qabs
    by_cases hneg : q < 0
    · rw [if_pos hneg]
      have hlt : nnum q b < 0 := by
        have h1 : q * (nden q b : Rat) < 0 := by
          have := Rat.mul_lt_mul_of_pos_right hneg hdr
          rwa [Rat.zero_mul] at this
        rw [hv] at h1
        have := dv_lt (x := nnum q b) (y := 0) (e := -nsh q b)
        rw [dv_zero] at this
        exact this.1 h1
      rw [show (((nnum q b).natAbs : Nat) : Int) = -nnum q b by omega, dv_neg, ← hv]
      grind
    · rw [if_neg hneg]
      have hge : 0 ≤ nnum q b := by
        have h1 : 0 ≤ q * (nden q b : Rat) := Rat.mul_nonneg (Rat.not_lt.1 hneg) (Rat.le_of_lt hdr)
        rw [hv] at h1
        have := dv_le (x := 0) (y := nnum q b) (e := -nsh q b)
        rw [dv_zero] at this
        exact this.1 h1
      rw [show (((nnum q b).natAbs : Nat) : Int) = nnum q b by omega, ← hv]
      exact Rat.le_refl
theorem sgq_le {a b : Rat} (h : a ≤ b) : sgq a b ≤ 0 := by
  unfold sgq
  split
  · decide
  · rw [if_neg (Rat.not_lt.2 h)]; decide
theorem sgq_ge {a b : Rat} (h : b ≤ a) : 0 ≤ sgq a b := by
  unfold sgq
  rw [if_neg (Rat.not_lt.2 h)]
  split <;> decide
end Go.L
