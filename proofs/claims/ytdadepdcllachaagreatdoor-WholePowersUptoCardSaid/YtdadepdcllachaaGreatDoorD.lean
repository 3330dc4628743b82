/-
  the reference numbers: digits to the base 256. the reference numbers: sums, differences. the reference numbers: order, powers of 2. the reference numbers: powers of 2. the reference numbers: back to limbs. the reference numbers: products. the reference numbers: quotients (under way). the laws' own helpers: is and reckons. what the functions answer at numbers of the right form. the laws of sums, products, quotients and rings. the laws of shifts and orders. the laws of small numbers and of bounds.
  No condition beyond those that each theorem names.
-/
import Derived.Test.YtdadepdcllachaaGreatDoorC

/-! RA -/
namespace Go.L
open Go.PM
set_option linter.unusedVariables false
set_option linter.unusedSimpArgs false

/-- The base of the reference. -/
abbrev V8 : Int := 256
/-- A reference number as it should be. -/
def can8 (a : List Int) : Prop := ok V8 a ∧ trimL a = a
instance (a : List Int) : Decidable (can8 a) := inferInstanceAs (Decidable (_ ∧ _))
end Go.L

/-! RB -/
namespace Go.L
open Go.PM
set_option linter.unusedVariables false
set_option linter.unusedSimpArgs false

end Go.L

/-! RC -/
namespace Go.L
open Go.PM
set_option linter.unusedVariables false
set_option linter.unusedSimpArgs false

def sgn (a b : Int) : Int := if a < b then -1 else if b < a then 1 else 0
end Go.L

/-! RD -/
namespace Go.L
open Go.PM
set_option linter.unusedVariables false
set_option linter.unusedSimpArgs false

end Go.L

/-! RE -/
namespace Go.L
open Go.PM
set_option linter.unusedVariables false
set_option linter.unusedSimpArgs false

end Go.L

/-! RF -/
namespace Go.L
open Go.PM
set_option linter.unusedVariables false
set_option linter.unusedSimpArgs false


end Go.L

/-! RG -/
namespace Go.L
open Go.PM
set_option linter.unusedVariables false
set_option linter.unusedSimpArgs false


end Go.L

/-! LP -/
namespace Go.L
open Go.PM
set_option linter.unusedVariables false
set_option linter.unusedSimpArgs false

end Go.L

/-! LQ -/
namespace Go.L
open Go.PM
set_option linter.unusedVariables false
set_option linter.unusedSimpArgs false

/-- The number n as limbs; as the reference's digits. -/
def D (n : Nat) : List Int := dig 4294967296 n
def E (n : Nat) : List Int := dig 256 n
def P (k : Nat) : Nat := 4294967296 ^ k
theorem can_D (n : Nat) : can (D n) := can_dig n
theorem val_D (n : Nat) : val W (D n) = n := val_dig n
theorem P_mono {j k : Nat} (h : j ≤ k) : P j ≤ P k := Nat.pow_le_pow_right (by decide) h
theorem P_pos (k : Nat) : 0 < P k := Nat.pow_pos (by decide)
theorem P_add (j k : Nat) : P (j + k) = P j * P k := Nat.pow_add _ _ _
theorem P_mul {a b j k : Nat} (ha : a < P j) (hb : b < P k) : a * b < P (j + k) := by
  rw [P_add]; exact Nat.mul_lt_mul'' ha hb
theorem P_two (k : Nat) : P k = 2 ^ (32 * k) := by
  unfold P; rw [show (4294967296 : Nat) = 2 ^ 32 from rfl, ← Nat.pow_mul]
theorem P_succ (k : Nat) : P (k + 1) = P k * 4294967296 := Nat.pow_succ _ _
theorem P_int (k : Nat) : ((P k : Nat) : Int) = W ^ k := by unfold P; simp [W]
theorem can_len {a : List Int} (h : can a) {k : Nat} (hv : val W a < W ^ k) : a.length ≤ k := by
  by_cases h0 : a = []
  · subst h0; exact Nat.zero_le _
  rcases Nat.lt_or_ge k a.length with hl | hl
  · have h1 := can_low h h0
    have h2 : W ^ k ≤ W ^ (a.length - 1) := by
      rw [← P_int, ← P_int]; exact Int.ofNat_le.2 (P_mono (by omega))
    omega
  · exact hl
theorem dlen {n k : Nat} (h : n < P k) : (D n).length ≤ k := can_len (can_D n) (by rw [val_D, ← P_int]; exact Int.ofNat_lt.2 h)
theorem dlen_lt (n : Nat) : n < P (D n).length := by
  have := val_lt (B := W) (by decide) (can_D n).1
  rw [val_D, ← P_int] at this
  exact Int.ofNat_lt.1 this
theorem D_nil {n : Nat} : D n = [] ↔ n = 0 := by
  constructor
  · intro h; have := val_D n; rw [h] at this; simp at this; omega
  · rintro rfl; rfl
theorem D_len0 {n : Nat} : (D n).length = 0 ↔ n = 0 := by rw [List.length_eq_zero_iff, D_nil]
theorem fine_D {n : Nat} (h : n < P 1000) : fine (D n) := by have := dlen h; unfold fine; omega
theorem res_in {n : Nat} (h : n < P 512) : res n = (D n, 0, ()) := by
  have : (dig 4294967296 n).length ≤ 512 := dlen h
  unfold res
  rw [if_pos this]; rfl
theorem Add_D {a b : Nat} (ha : a < P 1000) (hb : b < P 1000) : S.limbs_Add (D a, D b, ()) = some (res (a + b)) := by
  have h1 := dlen ha
  have h2 := dlen hb
  simp only [S.limbs_Add]
  rw [if_pos ⟨by omega, by omega, (can_D a).1, (can_D b).1⟩, val_D, val_D]
  congr 2
theorem Sub_D {a b : Nat} (ha : a < P 1000) (hb : b < P 1000) : S.limbs_Sub (D a, D b, ()) = some (if a < b then ([], 12, ()) else res (a - b)) := by
  simp only [S.limbs_Sub]
  rw [if_pos ⟨fine_D ha, fine_D hb, can_D a, can_D b⟩, val_D, val_D]
  congr 1
  by_cases h : a < b
  · rw [if_pos h, if_pos (by omega)]
  · rw [if_neg h, if_neg (by omega)]; congr 1; omega
theorem Mul_D {a b j k : Nat} (ha : a < P j) (hb : b < P k) (hjk : j + k ≤ 513) : S.limbs_Mul (D a, D b, ()) = some (res (a * b)) := by
  have h1 := dlen ha
  have h2 := dlen hb
  simp only [S.limbs_Mul]
  rw [if_pos ⟨by unfold fine; omega, by unfold fine; omega, (can_D a).1, (can_D b).1⟩, if_neg (by omega), val_D, val_D]
  congr 2
theorem Div_D {a b : Nat} (ha : a < P 1000) (hb : b < P 512) (h0 : 0 < b) : S.limbs_Div (D a, D b, ()) = some (D (a / b), D (a % b), 0, ()) := by
  have h1 := dlen ha
  rw [Div_eq (by omega) (can_D a) (can_D b) (by rw [ne_eq, D_nil]; omega) (dlen hb), val_D, val_D]
  rfl
theorem pow_cast (n : Nat) : (2 : Int) ^ n = ((2 ^ n : Nat) : Int) := by simp
theorem Left_D {a n : Nat} (ha : a < P 1000) : S.limbs_Left (D a, (n : Int), ()) = some (if a = 0 then ([], 0, ()) else if 16384 < n then ([], 11, ()) else res (a * 2 ^ n)) := by
  have h1 := dlen ha
  simp only [S.limbs_Left]
  rw [if_pos ⟨by omega, (can_D a).1⟩, if_neg (by omega), val_D]
  congr 1
  by_cases h : a = 0
  · rw [if_pos h, if_pos (D_nil.2 h)]
  · rw [if_neg h, if_neg (fun e => h (D_nil.1 e))]
    by_cases h' : 16384 < n
    · rw [if_pos h', if_pos (by omega)]
    · rw [if_neg h', if_neg (by omega)]
      congr 1
theorem Right_D {a n : Nat} (ha : a < P 512) (hn : n < 9223372036854775808) : S.limbs_Right (D a, (n : Int), ()) = some (D (a / 2 ^ n), 0, ()) := by
  have h1 := dlen ha
  simp only [S.limbs_Right]
  rw [if_pos ⟨by unfold fine; omega, (can_D a).1, by omega⟩, if_neg (by omega), val_D]
  congr 1
  by_cases h : ((D a).length : Int) ≤ (n : Int) / 32
  · rw [if_pos h]
    have h2 := dlen_lt a
    have h3 : P (D a).length ≤ 2 ^ n := by rw [P_two]; exact Nat.pow_le_pow_right (by decide) (by omega)
    rw [Nat.div_eq_of_lt (by omega)]; rfl
  · rw [if_neg h, Int.toNat_natCast, pow_cast, show ((a : Int) / ((2 ^ n : Nat) : Int)).toNat = a / 2 ^ n by rw [← Int.natCast_ediv]; rfl]
    exact res_in (Nat.lt_of_le_of_lt (Nat.div_le_self _ _) ha)
theorem Check_D {a : Nat} (ha : a < P 512) : S.limbs_Check (D a, ()) = some (0, ()) := Check_can (can_D a) (dlen ha)
theorem Cmp_D {a b : Nat} (ha : a < P 1000) (hb : b < P 1000) : S.limbs_Compare (D a, D b, ()) = some (sgn a b, ()) := by
  simp only [S.limbs_Compare]
  rw [if_pos ⟨fine_D ha, fine_D hb⟩]
  have := cmpL_spec (can_D a) (can_D b)
  rw [val_D, val_D] at this
  congr 2
  unfold sgn
  rcases this with ⟨h1, h2⟩ | ⟨h1, h2⟩ | ⟨h1, h2⟩
  · rw [h1, if_pos h2]
  · rw [h1, if_neg (by omega), if_neg (by omega)]
  · rw [h1, if_neg (by omega), if_pos h2]
end Go.L

/-! LR -/
namespace Go.L
open Go.PM
set_option linter.unusedVariables false
set_option linter.unusedSimpArgs false

theorem P40 {n k : Nat} (h : n < P k) (hk : k ≤ 512) : n < P 512 := Nat.lt_of_lt_of_le h (P_mono hk)
theorem P1000 {n k : Nat} (h : n < P k) (hk : k ≤ 1000) : n < P 1000 := Nat.lt_of_lt_of_le h (P_mono hk)
theorem P_sum {a b k : Nat} (ha : a < P k) (hb : b < P k) : a + b < P (k + 1) := by rw [P_succ]; omega
/-- A number that a law is given. -/
def inW (a : List Int) : Prop := ok W a ∧ fine a

end Go.L

/-! LS -/
namespace Go.L
open Go.PM
set_option exponentiation.threshold 20000
set_option linter.unusedVariables false
set_option linter.unusedSimpArgs false

theorem Bits_D {A : Nat} (h : A < P 1000) : S.limbs_Bits (D A, ()) = some (blen A, ()) := by rw [Bits_eq (fine_D h) (can_D A), val_D]
theorem blen_nat {A : Nat} (h : A ≠ 0) : blen (A : Int) = ((A.log2 + 1 : Nat) : Int) := by
  unfold blen; rw [if_neg (by omega), Int.toNat_natCast]; omega
theorem log2_low {A : Nat} (h : A ≠ 0) : 2 ^ A.log2 ≤ A := ((Nat.log2_eq_iff h).1 rfl).1
theorem log2_high {A : Nat} (h : A ≠ 0) : A < 2 ^ (A.log2 + 1) := ((Nat.log2_eq_iff h).1 rfl).2
theorem log2_shift {A n : Nat} (h : A ≠ 0) : (A * 2 ^ n).log2 = A.log2 + n := by
  have hp : 0 < 2 ^ n := Nat.pow_pos (by decide)
  refine (Nat.log2_eq_iff (by have := Nat.mul_pos (Nat.pos_of_ne_zero h) hp; omega)).2 ⟨?_, ?_⟩
  · rw [Nat.pow_add]; exact Nat.mul_le_mul_right _ (log2_low h)
  · rw [show A.log2 + n + 1 = (A.log2 + 1) + n by omega, Nat.pow_add]; exact Nat.mul_lt_mul_of_pos_right (log2_high h) hp
theorem log2_lt_P {A k : Nat} (h0 : A ≠ 0) (h : A < P k) : A.log2 < 32 * k := by rw [P_two] at h; exact (Nat.log2_lt h0).2 h

def tailOf (A t : Nat) : Prop := A % 2 ^ t = 0 ∧ A % 2 ^ (t + 1) ≠ 0
theorem tailOf_unique {A s t : Nat} (h : tailOf A s) (k : tailOf A t) : s = t := by
  have aux : ∀ {s t : Nat}, tailOf A s → tailOf A t → ¬ s < t := by
    intro s t h k hlt
    apply h.2
    have h1 : 2 ^ (s + 1) ∣ 2 ^ t := Nat.pow_dvd_pow 2 (by omega)
    exact Nat.mod_eq_zero_of_dvd (Nat.dvd_trans h1 (Nat.dvd_of_mod_eq_zero k.1))
  have h1 := aux h k
  have h2 := aux k h
  omega
theorem tailOf_shift {A t n : Nat} (h : tailOf A t) : tailOf (A * 2 ^ n) (t + n) := by
  have hp : 0 < 2 ^ n := Nat.pow_pos (by decide)
  constructor
  · rw [Nat.pow_add, Nat.mul_mod_mul_right, h.1, Nat.zero_mul]
  · rw [show t + n + 1 = (t + 1) + n by omega, Nat.pow_add, Nat.mul_mod_mul_right]
    have := Nat.mul_pos (Nat.pos_of_ne_zero h.2) hp
    omega
theorem tailF_spec : ∀ (a : List Int) (i : Nat), ok W a → val W a ≠ 0 → ∃ t : Nat, tailF i a = 32 * (i : Int) + t ∧ tailOf (val W a).toNat t := by
  intro a
  induction a with
  | nil => intro i _ h; exact absurd rfl h
  | cons x a ih =>
    intro i ho h
    have hx := (ok_cons.1 ho).1
    have hv := val_nonneg (B := W) (by decide) (ok_cons.1 ho).2
    obtain ⟨X, rfl⟩ : ∃ X : Nat, x = X := ⟨x.toNat, by omega⟩
    obtain ⟨V, hV⟩ : ∃ V : Nat, val W a = V := ⟨(val W a).toNat, by omega⟩
    simp only [W] at hx
    have hN : (val W ((X : Int) :: a)).toNat = X + 4294967296 * V := by simp only [val_cons, hV, W]; omega
    rw [hN]
    simp only [tailF]
    by_cases h0 : X = 0
    · subst h0
      rw [if_neg (by simp)]
      have hv0 : val W a ≠ 0 := by intro e; apply h; simp only [val_cons, e]; simp
      obtain ⟨t, h1, h2⟩ := ih (i + 1) (ok_cons.1 ho).2 hv0
      refine ⟨32 + t, by rw [h1]; omega, ?_⟩
      rw [hV, Int.toNat_natCast] at h2
      have := tailOf_shift (n := 32) h2
      rw [show 0 + 4294967296 * V = V * 2 ^ 32 by omega, Nat.add_comm 32 t]
      exact this
    · rw [if_pos (by omega), Int.toNat_natCast]
      obtain ⟨h1, h2, h3⟩ := tz_spec h0 (by omega)
      refine ⟨tz X, rfl, ?_⟩
      have hd : ∀ k, k ≤ 32 → (X + 4294967296 * V) % 2 ^ k = X % 2 ^ k := by
        intro k hk
        have hdv : 2 ^ k ∣ 4294967296 * V := Nat.dvd_trans (show 2 ^ k ∣ 2 ^ 32 from Nat.pow_dvd_pow 2 hk) (Nat.dvd_mul_right _ _)
        rw [Nat.add_mod, Nat.mod_eq_zero_of_dvd hdv, Nat.add_zero, Nat.mod_mod]
      exact ⟨by rw [hd _ (by omega)]; exact h2, by rw [hd _ (by omega)]; exact h3⟩
theorem Tail_D {A : Nat} (h : A < P 1000) (h0 : A ≠ 0) : ∃ t : Nat, S.limbs_Tail (D A, ()) = some ((t : Int), ()) ∧ tailOf A t := by
  obtain ⟨t, h1, h2⟩ := tailF_spec (D A) 0 (can_D A).1 (by rw [val_D]; omega)
  rw [val_D, Int.toNat_natCast] at h2
  refine ⟨t, ?_, h2⟩
  simp only [S.limbs_Tail]
  rw [if_pos ⟨fine_D h, (can_D A).1⟩, h1]
  simp
theorem two_P {n k : Nat} (h : n < 32 * k) : 2 ^ n < P k := by rw [P_two]; exact Nat.pow_lt_pow_right (by decide) h

end Go.L

/-! LT -/
namespace Go.L
open Go.PM
set_option linter.unusedVariables false
set_option linter.unusedSimpArgs false

theorem limbs_Of_D {n : Nat} (h : n < 18446744073709551616) : S.limbs_Of ((n : Int), ()) = some (D n, ()) := by
  rw [Of_eq (by omega) (by omega), Int.toNat_natCast]; rfl
theorem P_2 : P 2 = 18446744073709551616 := by decide
theorem Small_D {n : Nat} (h : n < P 1000) : S.limbs_Small (D n, ()) = some (if 2 < (D n).length then (0, 11, ()) else ((n : Int), 0, ())) := by
  simp only [S.limbs_Small]
  rw [if_pos ⟨(can_D n).1, fine_D h⟩, val_D]

end Go.L
