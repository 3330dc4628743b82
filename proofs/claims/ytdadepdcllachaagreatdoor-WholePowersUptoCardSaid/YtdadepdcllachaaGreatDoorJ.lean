/-
  whole numbers: sums, texts; the laws of whole numbers. the laws of whole numbers.
  No condition beyond those that each theorem names.
-/
import Derived.Test.YtdadepdcllachaaGreatDoorI
import Derived.Test.YtdadepdcllachaaGreatDoorH

/-! YA -/
namespace Go.L
open Go.PM
set_option exponentiation.threshold 20000
set_option linter.unusedVariables false
set_option linter.unusedSimpArgs false

theorem sgt (n : Nat) : sg true n = -(n : Int) := rfl
theorem sgf (n : Nat) : sg false n = n := rfl
/-- whole.Abs -/
def whole_Abs (a : Bool × (List Int) × Unit) : Option ((Bool × (List Int) × Unit) × Unit) :=
  (S.slices_Clone_api_Nat_uint32 (a.2.1, ())).bind fun z1 =>
  (S.whole_of (false, z1.1, ())).bind fun z2 =>
  some ((z2.1.1, z2.1.2.1, ()), ())

def S.whole_Abs (x : (Bool × List Int × Unit) × Unit) : Option ((Bool × List Int × Unit) × Unit) := L.whole_Abs x.1
theorem whole_Abs_I {z : Int} (h : z.natAbs < P 1000) : S.whole_Abs (I z, ()) = some (I (z.natAbs : Int), ()) := by
  simp only [S.whole_Abs, L.whole_Abs]
  rw [Clone_D h, Option.bind_some]
  simp only [whole_of_D, Option.bind_some]
  rfl
/-- whole.Add -/
def whole_Add (a : Bool × (List Int) × Unit) (b : Bool × (List Int) × Unit) : Option ((Bool × (List Int) × Unit) × Int × Unit) :=
  cond ((a.1 == b.1))
   (
   (S.limbs_Add (a.2.1, b.2.1, ())).bind fun z1 =>
   (S.whole_of (a.1, z1.1, ())).bind fun z2 =>
   some ((z2.1.1, z2.1.2.1, ()), z1.2.1, ()))
   (
   (S.limbs_Compare (a.2.1, b.2.1, ())).bind fun z3 =>
   cond (decide (z3.1 < 0))
   (
   (S.limbs_Sub (b.2.1, a.2.1, ())).bind fun z4 =>
   (S.whole_of (b.1, z4.1, ())).bind fun z5 =>
   some ((z5.1.1, z5.1.2.1, ()), z4.2.1, ()))
   (
   (S.limbs_Sub (a.2.1, b.2.1, ())).bind fun z6 =>
   (S.whole_of (a.1, z6.1, ())).bind fun z7 =>
   some ((z7.1.1, z7.1.2.1, ()), z6.2.1, ())))

def S.whole_Add (x : (Bool × List Int × Unit) × (Bool × List Int × Unit) × Unit) : Option ((Bool × List Int × Unit) × Int × Unit) := L.whole_Add x.1 x.2.1
theorem sgn_nat (a b : Nat) : (sgn (a : Int) (b : Int) < 0) ↔ a < b := by
  unfold sgn
  by_cases h1 : (a : Int) < b
  · rw [if_pos h1]; constructor <;> intro h <;> omega
  · rw [if_neg h1]; split <;> constructor <;> intro h <;> omega
theorem whole_Add_I {a b : Int} {k : Nat} (ha : a.natAbs < P k) (hb : b.natAbs < P k) (hk : k + 1 ≤ 512) : S.whole_Add (I a, I b, ()) = some (I (a + b), 0, ()) := by
  have a1 := P1000 ha (by omega)
  have b1 := P1000 hb (by omega)
  have hs := P40 (P_sum ha hb) hk
  simp only [S.whole_Add, L.whole_Add]
  by_cases h : (a < 0 ↔ b < 0)
  · rw [show (decide (a < 0) == decide (b < 0)) = true by simp [h], cond_true, Add_D a1 b1, Option.bind_some, res_in hs]
    simp only [whole_of_D, Option.bind_some]
    have : sg (decide (a < 0)) (a.natAbs + b.natAbs) = a + b := by
      by_cases h0 : a < 0
      · rw [decide_eq_true h0, sgt]; have := h.1 h0; omega
      · rw [decide_eq_false h0, sgf]; have : ¬ b < 0 := fun e => h0 (h.2 e); omega
    rw [this]
  · rw [show (decide (a < 0) == decide (b < 0)) = false by
      by_cases h1 : a < 0 <;> by_cases h2 : b < 0 <;> simp_all, cond_false, Cmp_D a1 b1, Option.bind_some]
    simp only
    by_cases hlt : a.natAbs < b.natAbs
    · rw [ct ((sgn_nat _ _).2 hlt), Sub_D b1 a1, if_neg (by omega), res_in (by omega), Option.bind_some]
      simp only [whole_of_D, Option.bind_some]
      have : sg (decide (b < 0)) (b.natAbs - a.natAbs) = a + b := by
        by_cases h0 : b < 0
        · rw [decide_eq_true h0, sgt]; have : ¬ a < 0 := fun e => h ⟨fun _ => h0, fun _ => e⟩; omega
        · rw [decide_eq_false h0, sgf]; omega
      rw [this]
    · rw [cf (fun e => hlt ((sgn_nat _ _).1 e)), Sub_D a1 b1, if_neg (by omega), res_in (by omega), Option.bind_some]
      simp only [whole_of_D, Option.bind_some]
      have : sg (decide (a < 0)) (a.natAbs - b.natAbs) = a + b := by
        by_cases h0 : a < 0
        · rw [decide_eq_true h0, sgt]; have : ¬ b < 0 := fun e => h ⟨fun _ => e, fun _ => h0⟩; omega
        · rw [decide_eq_false h0, sgf]
          by_cases h2 : b < 0
          · omega
          · exact absurd ⟨fun e => absurd e h0, fun e => absurd e h2⟩ h
      rw [this]
theorem whole_Right_I {a : Int} {n : Nat} (ha : a.natAbs < P 511) (hn : n < 9223372036854775808) : S.whole_Right (I a, (n : Int), ()) = some (I (a / 2 ^ n), 0, ()) := by
  have a5 := P40 ha (by decide)
  have hp := Nat.pow_pos (n := n) (show 0 < 2 by decide)
  simp only [S.whole_Right, L.whole_Right]
  rw [Right_D a5 hn, Option.bind_some]
  simp only [decide_true, Bool.not_true, cond_false, whole_of_D, Option.bind_some]
  have hc : ((2 : Int) ^ n) = ((2 ^ n : Nat) : Int) := pow_cast n
  rw [hc]
  by_cases h0 : a < 0
  · rw [decide_eq_true h0, Bool.not_true, cond_false]
    have hA0 : a.natAbs ≠ 0 := by omega
    obtain ⟨t, ht, htail⟩ := Tail_D (P1000 ha (by decide)) hA0
    rw [ht, Option.bind_some]
    have hdm := Nat.div_add_mod a.natAbs (2 ^ n)
    have hlt := Nat.mod_lt a.natAbs hp
    obtain ⟨q, hq⟩ : ∃ q, a.natAbs / 2 ^ n = q := ⟨_, rfl⟩
    obtain ⟨r, hr⟩ : ∃ r, a.natAbs % 2 ^ n = r := ⟨_, rfl⟩
    rw [hq, hr] at hdm
    rw [hr] at hlt
    rw [hq]
    have hdmi : ((2 ^ n : Nat) : Int) * q + r = a.natAbs := by have := congrArg (Nat.cast (R := Int)) hdm; simpa using this
    have key : ∀ (Q R : Int), R + ((2 ^ n : Nat) : Int) * Q = a → 0 ≤ R → R < ((2 ^ n : Nat) : Int) → a / ((2 ^ n : Nat) : Int) = Q := fun Q R e1 e2 e3 =>
      ((Int.ediv_emod_unique (a := a) (b := ((2 ^ n : Nat) : Int)) (r := R) (q := Q) (by omega)).2 ⟨e1, e2, e3⟩).1
    by_cases hnt : n ≤ t
    · rw [ct (by omega)]
      have hdvd : 2 ^ n ∣ a.natAbs := Nat.dvd_trans (Nat.pow_dvd_pow 2 hnt) (Nat.dvd_of_mod_eq_zero htail.1)
      have hr0 : r = 0 := by rw [← hr]; exact Nat.mod_eq_zero_of_dvd hdvd
      rw [key (-(q : Int)) 0 (by rw [Int.mul_neg]; omega) (by omega) (by omega)]
      rfl
    · rw [cf (by omega), Of_one, Option.bind_some]
      have hq5 : q < P 511 := by rw [← hq]; exact Nat.lt_of_le_of_lt (Nat.div_le_self _ _) ha
      have hs : q + 1 < P 512 := P_sum hq5 (P_one 511 (by decide))
      have hr0 : r ≠ 0 := by
        intro e
        have hdvd : 2 ^ n ∣ a.natAbs := Nat.dvd_of_mod_eq_zero (hr.trans e)
        have hdvd : 2 ^ (t + 1) ∣ a.natAbs := Nat.dvd_trans (Nat.pow_dvd_pow 2 (by omega)) hdvd
        exact htail.2 (Nat.mod_eq_zero_of_dvd hdvd)
      simp only
      rw [Add_D (P1000 hq5 (by decide)) (P_one 1000 (by decide)), Option.bind_some, res_in hs]
      simp only [whole_of_D, Option.bind_some]
      rw [key (-(q : Int) - 1) (((2 ^ n : Nat) : Int) - r) (by rw [Int.mul_sub, Int.mul_neg, Int.mul_one]; omega) (by omega) (by omega)]
      have : sg true (q + 1) = -(q : Int) - 1 := by show -((q + 1 : Nat) : Int) = _; omega
      rw [this]
  · rw [decide_eq_false h0, Bool.not_false, cond_true]
    have : sg false (a.natAbs / 2 ^ n) = a / ((2 ^ n : Nat) : Int) := by
      show ((a.natAbs / 2 ^ n : Nat) : Int) = _
      rw [Int.natCast_ediv, Int.natAbs_of_nonneg (by omega)]
    rw [this]
/-- whole.Text -/
def whole_Text (a : Bool × (List Int) × Unit) : Option (ByteArray × Unit) :=
  cond (a.1)
   (
   (S.digits_Text (a.2.1, ())).bind fun z1 =>
   cond (decide ((⟨#[45]⟩ : ByteArray).size + z1.1.size ≤ 9223372036854775807)) (some (((⟨#[45]⟩ : ByteArray) ++ z1.1), ())) none)
   (
   (S.digits_Text (a.2.1, ())).bind fun z3 =>
   some (z3.1, ()))

def S.whole_Text (x : (Bool × List Int × Unit) × Unit) : Option (ByteArray × Unit) := L.whole_Text x.1
end Go.L

/-! YB -/
namespace Go.L
open Go.PM
set_option exponentiation.threshold 20000
set_option linter.unusedVariables false
set_option linter.unusedSimpArgs false

theorem nA_add {a b : Int} {k : Nat} (ha : a.natAbs < P k) (hb : b.natAbs < P k) : (a + b).natAbs < P (k + 1) := Nat.lt_of_le_of_lt (Int.natAbs_add_le a b) (P_sum ha hb)
theorem nA_mul {a b : Int} {j k : Nat} (ha : a.natAbs < P j) (hb : b.natAbs < P k) : (a * b).natAbs < P (j + k) := by rw [Int.natAbs_mul]; exact P_mul ha hb
theorem nA_up {a : Int} {j k : Nat} (ha : a.natAbs < P j) (h : j ≤ k) : a.natAbs < P k := Nat.lt_of_lt_of_le ha (P_mono h)

end Go.L
