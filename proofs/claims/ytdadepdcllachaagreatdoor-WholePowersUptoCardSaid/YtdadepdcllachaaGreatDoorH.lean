/-
  whole numbers. the greatest common divisor; whole numbers divided; ratios. ratios: the rest. dyads and claims: what the laws of claims ask.
  No condition beyond those that each theorem names.
-/
import Derived.Test.YtdadepdcllachaaGreatDoorD

/-! WA -/
namespace Go.L
open Go.PM
set_option exponentiation.threshold 20000
set_option linter.unusedVariables false
set_option linter.unusedSimpArgs false

/-- A whole number as the functions have it. -/
abbrev I (z : Int) : Bool × List Int × Unit := (decide (z < 0), D z.natAbs, ())
abbrev sg (m : Bool) (n : Nat) : Int := cond m (-(n : Int)) n
theorem Of_one : S.limbs_Of (1, ()) = some (D 1, ()) := limbs_Of_D (n := 1) (by decide)
theorem P_one (k : Nat) (h : 1 ≤ k) : 1 < P k := Nat.lt_of_lt_of_le (show 1 < P 1 by decide) (P_mono h)
theorem Clone_D {n : Nat} (h : n < P 1000) : S.slices_Clone_api_Nat_uint32 (D n, ()) = some (D n, ()) := by
  simp only [S.slices_Clone_api_Nat_uint32]; rw [if_pos (fine_D h)]
theorem D_len_pos (n : Nat) : decide (0 < ((D n).length : Int)) = decide (0 < n) := by
  have := @D_len0 n
  by_cases h : n = 0
  · subst h; rfl
  · rw [decide_eq_true (show 0 < n by omega), decide_eq_true (by omega)]
theorem D_len_zero (n : Nat) : decide (((D n).length : Int) = 0) = decide (n = 0) := by
  have := @D_len0 n
  by_cases h : n = 0
  · subst h; rfl
  · rw [decide_eq_false h, decide_eq_false (by omega)]

/-- whole.of -/
def whole_of (minus : Bool) (size : List Int) : Option ((Bool × (List Int) × Unit) × Unit) :=
  cond (minus) (some ((decide (0 < (size.length : Int)), size, ()), ())) (some ((false, size, ()), ()))

def S.whole_of (x : Bool × List Int × Unit) : Option ((Bool × List Int × Unit) × Unit) := L.whole_of x.1 x.2.1
theorem whole_of_D (m : Bool) (n : Nat) : S.whole_of (m, D n, ()) = some (I (sg m n), ()) := by
  simp only [S.whole_of, L.whole_of, D_len_pos, I, sg]
  cases m
  · simp only [cond_false]
    rw [decide_eq_false (show ¬ ((n : Int) < 0) by omega), Int.natAbs_natCast]
  · simp only [cond_true]
    rw [Int.natAbs_neg, Int.natAbs_natCast]
    congr 3
    by_cases h : n = 0
    · subst h; rfl
    · rw [decide_eq_true (show 0 < n by omega), decide_eq_true (show -(n : Int) < 0 by omega)]

theorem whole_of_nil (m : Bool) : S.whole_of (m, [], ()) = some ((false, [], ()), ()) := by cases m <;> rfl
/-- whole.Of -/
def whole_Of (n : Int) : Option ((Bool × (List Int) × Unit) × Unit) :=
  cond (decide (n < 0))
   (
   (S.limbs_Of ((IntKind.u64.wrap (0 - (IntKind.u64.wrap n))), ())).bind fun z3 =>
   (S.whole_of (true, z3.1, ())).bind fun z4 =>
   some ((z4.1.1, z4.1.2.1, ()), ()))
   (
   (S.limbs_Of ((IntKind.u64.wrap n), ())).bind fun z6 =>
   (S.whole_of (false, z6.1, ())).bind fun z7 =>
   some ((z7.1.1, z7.1.2.1, ()), ()))

def S.whole_Of (x : Int × Unit) : Option ((Bool × List Int × Unit) × Unit) := L.whole_Of x.1
theorem whole_Of_I {z : Int} (h0 : -9223372036854775808 ≤ z) (h1 : z < 9223372036854775808) : S.whole_Of (z, ()) = some (I z, ()) := by
  simp only [S.whole_Of, L.whole_Of, wu64m]
  by_cases h : z < 0
  · rw [ct h]
    obtain ⟨N, rfl⟩ : ∃ N : Nat, z = -(N : Int) := ⟨z.natAbs, by omega⟩
    rw [show (0 - -(N : Int) % 18446744073709551616) % 18446744073709551616 = (N : Int) by omega, limbs_Of_D (by omega)]
    simp only [Option.bind_some, whole_of_D, sg, cond_true, I]
  · rw [cf h]
    obtain ⟨N, rfl⟩ : ∃ N : Nat, z = N := ⟨z.toNat, by omega⟩
    rw [show (N : Int) % 18446744073709551616 = (N : Int) by omega, limbs_Of_D (by omega)]
    simp only [Option.bind_some, whole_of_D, sg, cond_false, I]

/-- whole.Nat -/
def whole_Nat (a : List Int) : Option ((Bool × (List Int) × Unit) × Unit) :=
  (S.slices_Clone_api_Nat_uint32 (a, ())).bind fun z1 =>
  (S.whole_of (false, z1.1, ())).bind fun z2 =>
  some ((z2.1.1, z2.1.2.1, ()), ())

def S.whole_Nat (x : List Int × Unit) : Option ((Bool × List Int × Unit) × Unit) := L.whole_Nat x.1
theorem whole_Nat_D {n : Nat} (h : n < P 1000) : S.whole_Nat (D n, ()) = some (I n, ()) := by
  simp only [S.whole_Nat, L.whole_Nat, Clone_D h, Option.bind_some, whole_of_D, sg, cond_false, I]

/-- whole.Sign -/
def whole_Sign (a : Bool × (List Int) × Unit) : Option (Int × Unit) :=
  cond (decide ((a.2.1.length : Int) = 0)) (some (0, ()))
   (
   cond (a.1) (some ((-1 : Int), ())) (some (1, ())))

def S.whole_Sign (x : (Bool × List Int × Unit) × Unit) : Option (Int × Unit) := L.whole_Sign x.1
theorem whole_Sign_I (z : Int) : S.whole_Sign (I z, ()) = some (sgn z 0, ()) := by
  simp only [S.whole_Sign, L.whole_Sign, I, D_len_zero]
  unfold sgn
  by_cases h : z = 0
  · subst h; rfl
  · rw [cf (by omega)]
    by_cases h2 : z < 0
    · rw [ct h2, if_pos h2]
    · rw [cf h2, if_neg h2, if_pos (by omega)]

/-- whole.Neg -/
def whole_Neg (a : Bool × (List Int) × Unit) : Option ((Bool × (List Int) × Unit) × Unit) :=
  (S.slices_Clone_api_Nat_uint32 (a.2.1, ())).bind fun z1 =>
  (S.whole_of (!a.1, z1.1, ())).bind fun z2 =>
  some ((z2.1.1, z2.1.2.1, ()), ())

def S.whole_Neg (x : (Bool × List Int × Unit) × Unit) : Option ((Bool × List Int × Unit) × Unit) := L.whole_Neg x.1
theorem sg_neg (z : Int) : sg (!decide (z < 0)) z.natAbs = -z := by
  unfold sg
  by_cases h : z < 0
  · rw [decide_eq_true h]; simp only [Bool.not_true, cond_false]; omega
  · rw [decide_eq_false h]; simp only [Bool.not_false, cond_true]; omega
theorem whole_Neg_I {z : Int} (h : z.natAbs < P 1000) : S.whole_Neg (I z, ()) = some (I (-z), ()) := by
  simp only [S.whole_Neg, L.whole_Neg, I, Clone_D h, Option.bind_some, whole_of_D, sg_neg]

theorem sgn0 (z : Int) : (sgn z 0 = -1 ∧ z < 0) ∨ (sgn z 0 = 0 ∧ z = 0) ∨ (sgn z 0 = 1 ∧ 0 < z) := by
  unfold sgn
  rcases Int.lt_trichotomy z 0 with h | h | h
  · left; rw [if_pos h]; exact ⟨rfl, h⟩
  · right; left; subst h; exact ⟨rfl, rfl⟩
  · right; right; rw [if_neg (by omega), if_pos h]; exact ⟨rfl, h⟩
/-- whole.Compare -/
def whole_Compare (a : Bool × (List Int) × Unit) (b : Bool × (List Int) × Unit) : Option (Int × Unit) :=
  (S.whole_Sign ((a.1, a.2.1, ()), ())).bind fun z1 =>
  (S.whole_Sign ((b.1, b.2.1, ()), ())).bind fun z2 =>
  cond (!(decide (z1.1 = z2.1)))
   (
   cond (decide (z1.1 < z2.1)) (some ((-1 : Int), ()))
   (
   cond (!(decide (z1.1 = z2.1))) (some (1, ()))
   (
   cond (decide (z1.1 < 0))
   (
   (S.limbs_Compare (b.2.1, a.2.1, ())).bind fun z3 =>
   some (z3.1, ()))
   (
   (S.limbs_Compare (a.2.1, b.2.1, ())).bind fun z4 =>
   some (z4.1, ())))))
   (
   cond (!(decide (z1.1 = z2.1))) (some (1, ()))
   (
   cond (decide (z1.1 < 0))
   (
   (S.limbs_Compare (b.2.1, a.2.1, ())).bind fun z5 =>
   some (z5.1, ()))
   (
   (S.limbs_Compare (a.2.1, b.2.1, ())).bind fun z6 =>
   some (z6.1, ()))))

def S.whole_Compare (x : (Bool × List Int × Unit) × (Bool × List Int × Unit) × Unit) : Option (Int × Unit) := L.whole_Compare x.1 x.2.1
theorem whole_Compare_I {a b : Int} (ha : a.natAbs < P 1000) (hb : b.natAbs < P 1000) : S.whole_Compare (I a, I b, ()) = some (sgn a b, ()) := by
  simp only [S.whole_Compare, L.whole_Compare, I, whole_Sign_I, Option.bind_some, Cmp_D ha hb, Cmp_D hb ha]
  rcases sgn0 a with ⟨e1, h1⟩ | ⟨e1, h1⟩ | ⟨e1, h1⟩ <;> rcases sgn0 b with ⟨e2, h2⟩ | ⟨e2, h2⟩ | ⟨e2, h2⟩ <;> rw [e1, e2]
  all_goals
    simp only [Int.reduceEq, Int.reduceLT, decide_true, decide_false, Bool.not_true, Bool.not_false, cond_true, cond_false, Int.reduceNeg]
    congr 2
    unfold sgn
    repeat' split
    all_goals omega

/-- whole.Mul -/
def whole_Mul (a : Bool × (List Int) × Unit) (b : Bool × (List Int) × Unit) : Option ((Bool × (List Int) × Unit) × Int × Unit) :=
  (S.limbs_Mul (a.2.1, b.2.1, ())).bind fun z1 =>
  (S.whole_of (!(a.1 == b.1), z1.1, ())).bind fun z2 =>
  some ((z2.1.1, z2.1.2.1, ()), z1.2.1, ())

def S.whole_Mul (x : (Bool × List Int × Unit) × (Bool × List Int × Unit) × Unit) : Option ((Bool × List Int × Unit) × Int × Unit) := L.whole_Mul x.1 x.2.1
theorem sg_mul (a b : Int) : sg (!(decide (a < 0) == decide (b < 0))) (a.natAbs * b.natAbs) = a * b := by
  rw [← Int.natAbs_mul]
  unfold sg
  by_cases h1 : a < 0 <;> by_cases h2 : b < 0
  · rw [decide_eq_true h1, decide_eq_true h2]
    have := Int.mul_pos_of_neg_of_neg h1 h2
    simp only [beq_self_eq_true, Bool.not_true, cond_false]; omega
  · rw [decide_eq_true h1, decide_eq_false h2]
    have := Int.mul_nonpos_of_nonpos_of_nonneg (Int.le_of_lt h1) (Int.not_lt.1 h2)
    show -((a * b).natAbs : Int) = _
    omega
  · rw [decide_eq_false h1, decide_eq_true h2]
    have := Int.mul_nonpos_of_nonneg_of_nonpos (Int.not_lt.1 h1) (Int.le_of_lt h2)
    show -((a * b).natAbs : Int) = _
    omega
  · rw [decide_eq_false h1, decide_eq_false h2]
    have := Int.mul_nonneg (Int.not_lt.1 h1) (Int.not_lt.1 h2)
    show ((a * b).natAbs : Int) = _
    omega
theorem whole_Mul_I {a b : Int} {j k : Nat} (ha : a.natAbs < P j) (hb : b.natAbs < P k) (hjk : j + k ≤ 512) : S.whole_Mul (I a, I b, ()) = some (I (a * b), 0, ()) := by
  simp only [S.whole_Mul, L.whole_Mul, I, Mul_D ha hb (by omega), Option.bind_some, res_in (P40 (P_mul ha hb) hjk), whole_of_D, sg_mul]

/-- whole.Left -/
def whole_Left (a : Bool × (List Int) × Unit) (n : Int) : Option ((Bool × (List Int) × Unit) × Int × Unit) :=
  (S.limbs_Left (a.2.1, n, ())).bind fun z1 =>
  (S.whole_of (a.1, z1.1, ())).bind fun z2 =>
  some ((z2.1.1, z2.1.2.1, ()), z1.2.1, ())

def S.whole_Left (x : (Bool × List Int × Unit) × Int × Unit) : Option ((Bool × List Int × Unit) × Int × Unit) := L.whole_Left x.1 x.2.1
theorem whole_Left_I {a : Int} {n k : Nat} (ha : a.natAbs < P k) (hn : n < 16384) (hk : 32 * k + n ≤ 16384) : S.whole_Left (I a, (n : Int), ()) = some (I (a * 2 ^ n), 0, ()) := by
  have hk' : k ≤ 512 := by omega
  have hm : a.natAbs * 2 ^ n < P 512 := by
    rw [P_two] at ha ⊢
    have : a.natAbs * 2 ^ n < 2 ^ (32 * k) * 2 ^ n := Nat.mul_lt_mul_of_pos_right ha (Nat.pow_pos (by decide))
    rw [← Nat.pow_add] at this
    exact Nat.lt_of_lt_of_le this (Nat.pow_le_pow_right (by decide) hk)
  have e : sg (decide (a < 0)) (a.natAbs * 2 ^ n) = a * 2 ^ n := by
    have := sg_mul a ((2 ^ n : Nat) : Int)
    have hp : ¬ (((2 ^ n : Nat) : Int) < 0) := Int.not_lt.2 (Int.natCast_nonneg _)
    rw [decide_eq_false hp, Int.natAbs_natCast] at this
    rw [pow_cast, ← this]
    cases decide (a < 0) <;> rfl
  by_cases h0 : a = 0
  · subst h0
    have e0 : S.limbs_Left (D 0, (n : Int), ()) = some ([], 0, ()) := by rw [Left_D (P_pos _), if_pos rfl]
    simp only [S.whole_Left, L.whole_Left, I, Int.natAbs_zero, e0, Option.bind_some, whole_of_nil, Int.zero_mul]
    rfl
  · have e1 : S.limbs_Left (D a.natAbs, (n : Int), ()) = some (D (a.natAbs * 2 ^ n), 0, ()) := by rw [Left_D (P1000 ha (by omega)), if_neg (by omega), if_neg (by omega), res_in hm]
    simp only [S.whole_Left, L.whole_Left, I, e1, Option.bind_some, whole_of_D]
    rw [e]

/-- whole.Check -/
def whole_Check (a : Bool × (List Int) × Unit) : Option (Int × Unit) :=
  (S.limbs_Check (a.2.1, ())).bind fun z1 =>
  cond (!(decide (z1.1 = 0))) (some (z1.1, ()))
   (
   cond (a.1)
   (
   cond (decide ((a.2.1.length : Int) = 0)) (some (2, ())) (some (0, ()))) (some (0, ())))

def S.whole_Check (x : (Bool × List Int × Unit) × Unit) : Option (Int × Unit) := L.whole_Check x.1
theorem whole_Check_I {a : Int} (ha : a.natAbs < P 512) : S.whole_Check (I a, ()) = some (0, ()) := by
  simp only [S.whole_Check, L.whole_Check, I, Check_D ha, Option.bind_some, decide_true, Bool.not_true, cond_false, D_len_zero]
  by_cases h : a < 0
  · rw [ct h, cf (by omega)]
  · rw [cf h]
/-- What a check lets in. -/
theorem whole_Check_in {x : Bool × List Int × Unit} (hf : fine x.2.1) (ho : ok W x.2.1) (h : S.whole_Check (x, ()) = some (0, ())) : ∃ z : Int, x = I z ∧ z.natAbs < P 512 := by
  obtain ⟨m, a, _⟩ := x
  simp only at hf ho
  simp only [S.whole_Check, L.whole_Check, Check_eq hf, Option.bind_some] at h
  by_cases h1 : 512 < a.length
  · rw [if_pos h1] at h; simp at h
  rw [if_neg h1] at h
  by_cases h2 : a ≠ [] ∧ a.getD (a.length - 1) 0 = 0
  · rw [if_pos h2] at h; simp at h
  rw [if_neg h2] at h
  have hc : can a := can_of_top ho (by
    by_cases h0 : a = []
    · exact .inl h0
    · exact .inr (fun e => h2 ⟨h0, e⟩))
  have hv := val_nonneg (B := W) (by decide) ho
  have hl := val_lt (B := W) (by decide) ho
  obtain ⟨N, hN⟩ : ∃ N : Nat, val W a = N := ⟨(val W a).toNat, by omega⟩
  have ha : a = D N := by have := can_eq hc; rw [hN, Int.toNat_natCast] at this; exact this
  have hNP : N < P 512 := by
    have : P a.length ≤ P 512 := P_mono (by omega)
    rw [hN, ← P_int] at hl
    omega
  subst ha
  simp only [decide_true, Bool.not_true, cond_false, D_len_zero] at h
  cases m with
  | false =>
    refine ⟨N, ?_, by simpa using hNP⟩
    simp only [I, Int.natAbs_natCast]
    rw [decide_eq_false (by omega)]
  | true =>
    have h0 : N ≠ 0 := by
      rintro rfl
      simp at h
    refine ⟨-(N : Int), ?_, by simpa using hNP⟩
    simp only [I, Int.natAbs_neg, Int.natAbs_natCast]
    rw [decide_eq_true (by omega)]
end Go.L

/-! WB -/
namespace Go.L
open Go.PM
set_option exponentiation.threshold 20000
set_option linter.unusedVariables false
set_option linter.unusedSimpArgs false

/-- digits_Gcd: one round of loop 0. -/
def digits_Gcd_s0 (κ0 : (List Int) → (List Int) → Option ((List Int) × Unit)) (a : List Int) (b : List Int) : Option ((List Int) × Unit) :=
  cond (decide (0 < (b.length : Int)))
   (
   (S.limbs_Div (a, b, ())).bind fun z1 =>
   κ0 b z1.2.1)
   (
   (S.slices_Clone_api_Nat_uint32 (a, ())).bind fun z2 =>
   some (z2.1, ()))

def digits_Gcd_l0 (K : Nat) : Nat → (List Int) → (List Int) → Option ((List Int) × Unit)
  | 0, _, _ => none
  | n + 1, a, b => digits_Gcd_s0 (digits_Gcd_l0 K n) a b

/-- digits.Gcd -/
def digits_Gcd_b (I0 : (List Int) → (List Int) → Option ((List Int) × Unit)) (a : List Int) (b : List Int) : Option ((List Int) × Unit) :=
  I0 a b

def digits_Gcd (K : Nat) (a : List Int) (b : List Int) : Option ((List Int) × Unit) := digits_Gcd_b (digits_Gcd_l0 K K) a b

def S.digits_Gcd (x : List Int × List Int × Unit) : Option (List Int × Unit) := if can x.1 ∧ can x.2.1 ∧ x.1.length ≤ 512 ∧ x.2.1.length ≤ 512 then some (D (Nat.gcd (val W x.1).toNat (val W x.2.1).toNat), ()) else none
theorem can_D_of {a : List Int} (h : can a) : ∃ n : Nat, a = D n := ⟨_, can_eq h⟩
theorem D_lt {n : Nat} (h : (D n).length ≤ 512) : n < P 512 := Nat.lt_of_lt_of_le (dlen_lt n) (P_mono h)
theorem gcd_loop (K : Nat) : ∀ (n a b : Nat), b < n → a < P 512 → b < P 512 → digits_Gcd_l0 K n (D a) (D b) = some (D (Nat.gcd a b), ()) := by
  intro n
  induction n with
  | zero => intro a b h; omega
  | succ n ih =>
    intro a b h ha hb
    simp only [digits_Gcd_l0, digits_Gcd_s0, D_len_pos]
    by_cases h0 : b = 0
    · subst h0
      rw [cf (by omega), Clone_D (P1000 ha (by decide)), Nat.gcd_zero_right]
      rfl
    · have hlt := Nat.mod_lt a (Nat.pos_of_ne_zero h0)
      rw [ct (by omega), Div_D (P1000 ha (by decide)) hb (by omega)]
      simp only [Option.bind_some]
      rw [ih b (a % b) (by omega) hb (by omega), Nat.gcd_comm b, ← Nat.gcd_rec, Nat.gcd_comm]
theorem digits_Gcd_ok (x : List Int × List Int × Unit) (y : List Int × Unit) (h : S.digits_Gcd x = some y) : ∃ K, digits_Gcd K x.1 x.2.1 = some y := by
  unfold S.digits_Gcd at h
  split at h <;> cases h
  rename_i hh
  obtain ⟨a, b, _⟩ := x
  obtain ⟨ca, cb, la, lb⟩ := hh
  simp only at ca cb la lb ⊢
  obtain ⟨A, rfl⟩ := can_D_of ca
  obtain ⟨B, rfl⟩ := can_D_of cb
  refine ⟨B + 1, ?_⟩
  rw [val_D, val_D, Int.toNat_natCast, Int.toNat_natCast]
  exact gcd_loop _ _ A B (by omega) (D_lt la) (D_lt lb)
theorem Gcd_D {a b : Nat} (ha : a < P 512) (hb : b < P 512) : S.digits_Gcd (D a, D b, ()) = some (D (Nat.gcd a b), ()) := by
  simp only [S.digits_Gcd]
  rw [if_pos ⟨can_D a, can_D b, dlen ha, dlen hb⟩, val_D, val_D]; rfl

/-- whole.Div -/
def whole_Div (a : Bool × (List Int) × Unit) (b : Bool × (List Int) × Unit) : Option ((Bool × (List Int) × Unit) × (Bool × (List Int) × Unit) × Int × Unit) :=
  (S.limbs_Div (a.2.1, b.2.1, ())).bind fun z1 =>
  cond (!(decide (z1.2.2.1 = 0))) (some ((false, [], ()), (false, [], ()), z1.2.2.1, ()))
   (
   cond (!a.1)
   (
   (S.whole_of (!(a.1 == b.1), z1.1, ())).bind fun z2 =>
   (S.whole_of (false, z1.2.1, ())).bind fun z3 =>
   some ((z2.1.1, z2.1.2.1, ()), (z3.1.1, z3.1.2.1, ()), 0, ()))
   (
   cond (decide ((z1.2.1.length : Int) = 0))
   (
   (S.whole_of (!(a.1 == b.1), z1.1, ())).bind fun z4 =>
   (S.whole_of (false, z1.2.1, ())).bind fun z5 =>
   some ((z4.1.1, z4.1.2.1, ()), (z5.1.1, z5.1.2.1, ()), 0, ()))
   (
   (S.limbs_Sub (b.2.1, z1.2.1, ())).bind fun z6 =>
   (S.limbs_Of (1, ())).bind fun z7 =>
   (S.limbs_Add (z1.1, z7.1, ())).bind fun z8 =>
   cond (!(decide (z8.2.1 = 0))) (some ((false, [], ()), (false, [], ()), z8.2.1, ()))
   (
   (S.whole_of (!b.1, z8.1, ())).bind fun z9 =>
   (S.whole_of (false, z6.1, ())).bind fun z10 =>
   some ((z9.1.1, z9.1.2.1, ()), (z10.1.1, z10.1.2.1, ()), 0, ())))))

def S.whole_Div (x : (Bool × List Int × Unit) × (Bool × List Int × Unit) × Unit) : Option ((Bool × List Int × Unit) × (Bool × List Int × Unit) × Int × Unit) := L.whole_Div x.1 x.2.1
theorem bnot_beq {p q : Prop} [Decidable p] [Decidable q] : (!(decide p == decide q)) = decide (¬ (p ↔ q)) := by
  by_cases hp : p <;> by_cases hq : q <;> simp [hp, hq]
theorem div_cases (a b : Int) (h0 : b ≠ 0) :
    (0 ≤ a ∧ sg (!(decide (a < 0) == decide (b < 0))) (a.natAbs / b.natAbs) = a / b ∧ ((a.natAbs % b.natAbs : Nat) : Int) = a % b) ∨
    (a < 0 ∧ a.natAbs % b.natAbs = 0 ∧ sg (!(decide (a < 0) == decide (b < 0))) (a.natAbs / b.natAbs) = a / b ∧ a % b = 0) ∨
    (a < 0 ∧ a.natAbs % b.natAbs ≠ 0 ∧ sg (!decide (b < 0)) (a.natAbs / b.natAbs + 1) = a / b ∧ ((b.natAbs - a.natAbs % b.natAbs : Nat) : Int) = a % b) := by
  obtain ⟨m, hm⟩ : ∃ m : Nat, a.natAbs = m := ⟨_, rfl⟩
  obtain ⟨n, hn⟩ : ∃ n : Nat, b.natAbs = n := ⟨_, rfl⟩
  have hn0 : 0 < n := by omega
  have hdm := Nat.div_add_mod m n
  have hlt := Nat.mod_lt m hn0
  rw [hm, hn]
  obtain ⟨q, hq⟩ : ∃ q, m / n = q := ⟨_, rfl⟩
  obtain ⟨r, hr⟩ : ∃ r, m % n = r := ⟨_, rfl⟩
  rw [hq, hr] at hdm
  rw [hr] at hlt
  rw [hq, hr]
  have hdmi : (n : Int) * q + r = m := by have := congrArg (Nat.cast (R := Int)) hdm; simpa using this
  -- the quotient and what is left, by the sign of b
  have key : ∀ (Q R : Int), R + n * Q = a → 0 ≤ R → R < n → a / b = (if b < 0 then -Q else Q) ∧ a % b = R := by
    intro Q R h1 h2 h3
    have u := (Int.ediv_emod_unique (a := a) (b := (n : Int)) (r := R) (q := Q) (by omega)).2 ⟨h1, h2, h3⟩
    by_cases hb : b < 0
    · have e : b = -(n : Int) := by omega
      rw [if_pos hb, e, Int.ediv_neg, Int.emod_neg, u.1, u.2]; exact ⟨rfl, rfl⟩
    · have e : b = (n : Int) := by omega
      rw [if_neg hb, e, u.1, u.2]; exact ⟨rfl, rfl⟩
  by_cases ha : a < 0
  · by_cases hr0 : r = 0
    · right; left
      obtain ⟨k1, k2⟩ := key (-(q : Int)) 0 (by rw [Int.mul_neg]; omega) (by omega) (by omega)
      refine ⟨ha, hr0, ?_, k2⟩
      rw [k1]
      by_cases hb : b < 0
      · rw [decide_eq_true ha, decide_eq_true hb, if_pos hb]; simp [sg]
      · rw [decide_eq_true ha, decide_eq_false hb, if_neg hb]; simp [sg]
    · right; right
      obtain ⟨k1, k2⟩ := key (-(q : Int) - 1) ((n : Int) - r) (by rw [Int.mul_sub, Int.mul_neg, Int.mul_one]; omega) (by omega) (by omega)
      refine ⟨ha, hr0, ?_, by rw [k2]; omega⟩
      rw [k1]
      by_cases hb : b < 0
      · rw [decide_eq_true hb, if_pos hb]; simp [sg]; omega
      · rw [decide_eq_false hb, if_neg hb]; simp [sg]; omega
  · left
    obtain ⟨k1, k2⟩ := key (q : Int) (r : Int) (by omega) (by omega) (by omega)
    refine ⟨by omega, ?_, k2.symm⟩
    rw [k1]
    by_cases hb : b < 0
    · rw [decide_eq_false ha, decide_eq_true hb, if_pos hb]; simp [sg]
    · rw [decide_eq_false ha, decide_eq_false hb, if_neg hb]; simp [sg]
theorem I_nat (n : Nat) : I (n : Int) = (false, D n, ()) := by
  simp only [I, Int.natAbs_natCast]; rw [decide_eq_false (by omega)]
theorem whole_Div_I {a b : Int} (ha : a.natAbs < P 511) (hb : b.natAbs < P 511) (h0 : b ≠ 0) : S.whole_Div (I a, I b, ()) = some (I (a / b), I (a % b), 0, ()) := by
  have a1 := P1000 ha (by decide)
  have b5 := P40 hb (by decide)
  have hq : a.natAbs / b.natAbs < P 511 := Nat.lt_of_le_of_lt (Nat.div_le_self _ _) ha
  have hr : a.natAbs % b.natAbs < b.natAbs := Nat.mod_lt _ (by omega)
  have hs : a.natAbs / b.natAbs + 1 < P 512 := P_sum hq (P_one 511 (by decide))
  have hd : b.natAbs - a.natAbs % b.natAbs < P 512 := by omega
  have e1 : S.limbs_Div (D a.natAbs, D b.natAbs, ()) = some (D (a.natAbs / b.natAbs), D (a.natAbs % b.natAbs), 0, ()) := Div_D a1 b5 (by omega)
  have e2 : S.limbs_Sub (D b.natAbs, D (a.natAbs % b.natAbs), ()) = some (D (b.natAbs - a.natAbs % b.natAbs), 0, ()) := by
    rw [Sub_D (P1000 hb (by decide)) (P1000 (show a.natAbs % b.natAbs < P 511 by omega) (by decide)), if_neg (by omega), res_in hd]
  have e3 : S.limbs_Add (D (a.natAbs / b.natAbs), D 1, ()) = some (D (a.natAbs / b.natAbs + 1), 0, ()) := by
    rw [Add_D (P1000 hq (by decide)) (P_one 1000 (by decide)), res_in hs]
  rcases div_cases a b h0 with ⟨h1, h2, h3⟩ | ⟨h1, h2, h3, h4⟩ | ⟨h1, h2, h3, h4⟩
  · have hn : ¬ a < 0 := by omega
    have := whole_of_D (!(decide (a < 0) == decide (b < 0))) (a.natAbs / b.natAbs)
    have f := whole_of_D false (a.natAbs % b.natAbs)
    rw [h2] at this
    simp only [sg, cond_false] at f
    rw [h3] at f
    simp only [S.whole_Div, L.whole_Div, e1, Option.bind_some, decide_true, Bool.not_true, cond_false]
    rw [decide_eq_false hn] at this ⊢
    simp only [Bool.not_false, cond_true, this, f, Option.bind_some]
  · have := whole_of_D (!(decide (a < 0) == decide (b < 0))) (a.natAbs / b.natAbs)
    have f := whole_of_D false 0
    rw [h3] at this
    simp only [sg, cond_false] at f
    simp only [S.whole_Div, L.whole_Div, e1, Option.bind_some, decide_true, Bool.not_true, cond_false, D_len_zero]
    rw [decide_eq_true h1] at this ⊢
    rw [decide_eq_true h2, h2, h4]
    simp only [Bool.not_true, cond_true, cond_false, this, f, Option.bind_some]
    rfl
  · have := whole_of_D (!decide (b < 0)) (a.natAbs / b.natAbs + 1)
    have f := whole_of_D false (b.natAbs - a.natAbs % b.natAbs)
    rw [h3] at this
    simp only [sg, cond_false] at f
    rw [h4] at f
    simp only [S.whole_Div, L.whole_Div, e1, Option.bind_some, decide_true, Bool.not_true, cond_false, D_len_zero]
    rw [decide_eq_true h1, decide_eq_false h2]
    simp only [Bool.not_true, cond_true, cond_false, e2, Of_one, e3, this, f, Option.bind_some, decide_true]

/-- ratio_first: one round of loop 0. -/
def ratio_first_s0 (κ0 : (List Int) → Int → Int → Option (Int × Unit)) (t5 : List Int) (t6 : Int) (t7 : Int) : Option (Int × Unit) :=
  cond (decide (t7 < t6))
   (
   cond (decide (0 ≤ t7))
   (
   cond (decide (t7 < (t5.length : Int)))
   (
   let z1 := t5.getD t7.toNat 0
   cond (!(decide (z1 = 0))) (some (z1, ())) (κ0 t5 t6 (IntKind.i64.wrap (t7 + 1)))) none) none) (some (0, ()))

def ratio_first_l0 (K : Nat) : Nat → (List Int) → Int → Int → Option (Int × Unit)
  | 0, _, _, _ => none
  | n + 1, t5, t6, t7 => ratio_first_s0 (ratio_first_l0 K n) t5 t6 t7

/-- ratio.first -/
def ratio_first_b (I0 : (List Int) → Int → Int → Option (Int × Unit)) (list : List Int) : Option (Int × Unit) :=
  I0 list (list.length : Int) 0

def ratio_first (K : Nat) (list : List Int) : Option (Int × Unit) := ratio_first_b (ratio_first_l0 K K) list

def firstF : List Int → Int
  | [] => 0
  | x :: l => if x = 0 then firstF l else x
def S.ratio_first (x : List Int × Unit) : Option (Int × Unit) := if x.1.length ≤ 100 then some (firstF x.1, ()) else none
theorem first_loop (K : Nat) (l : List Int) (hl : l.length ≤ 100) : ∀ (r i n : Nat), i + r = l.length → r < n → ratio_first_l0 K n l (l.length : Int) (i : Int) = some (firstF (l.drop i), ()) := by
  intro r
  induction r with
  | zero =>
    intro i n hi hn
    obtain ⟨n, rfl⟩ : ∃ n', n = n' + 1 := ⟨n - 1, by omega⟩
    simp only [ratio_first_l0, ratio_first_s0]
    rw [cf (by omega), List.drop_eq_nil_of_le (by omega)]
    rfl
  | succ r ih =>
    intro i n hi hn
    obtain ⟨n, rfl⟩ : ∃ n', n = n' + 1 := ⟨n - 1, by omega⟩
    have hd : l.drop i = l.getD i 0 :: l.drop (i + 1) := by
      rw [List.drop_eq_getElem_cons (show i < l.length by omega)]
      simp [List.getD, List.getElem?_eq_getElem (show i < l.length by omega)]
    simp only [ratio_first_l0, ratio_first_s0, Int.toNat_natCast]
    rw [ct (by omega), ct (by omega), ct (by omega), hd]
    by_cases h0 : l.getD i 0 = 0
    · rw [decide_eq_true h0]
      simp only [Bool.not_true, cond_false, firstF]
      rw [if_pos h0, wi64 (by omega) (by omega), show ((i : Int) + 1) = ((i + 1 : Nat) : Int) by omega]
      exact ih (i + 1) n (by omega) (by omega)
    · rw [decide_eq_false h0]
      simp only [Bool.not_false, cond_true, firstF]
      rw [if_neg h0]
theorem ratio_first_ok (x : List Int × Unit) (y : Int × Unit) (h : S.ratio_first x = some y) : ∃ K, ratio_first K x.1 = some y := by
  unfold S.ratio_first at h
  split at h <;> cases h
  rename_i hh
  exact ⟨x.1.length + 1, by simp only [ratio_first, ratio_first_b]; exact first_loop _ x.1 hh x.1.length 0 _ (by omega) (by omega)⟩
theorem first2 : S.ratio_first ([0, 0], ()) = some (0, ()) := rfl

/-- A ratio as the functions have it. -/
abbrev R (q : Rat) : (Bool × List Int × Unit) × List Int × Unit := (I q.num, D q.den, ())
/-- ratio.den -/
def ratio_den (a : (Bool × (List Int) × Unit) × (List Int) × Unit) : Option ((Bool × (List Int) × Unit) × Unit) :=
  (S.whole_Nat (a.2.1, ())).bind fun z1 =>
  some ((z1.1.1, z1.1.2.1, ()), ())

def S.ratio_den (x : ((Bool × List Int × Unit) × List Int × Unit) × Unit) : Option ((Bool × List Int × Unit) × Unit) := L.ratio_den x.1
theorem ratio_den_R {q : Rat} (h : q.den < P 1000) : S.ratio_den (R q, ()) = some (I q.den, ()) := by
  simp only [S.ratio_den, L.ratio_den, whole_Nat_D h, Option.bind_some]
/-- ratio.Zero -/
def ratio_Zero  : Option (((Bool × (List Int) × Unit) × (List Int) × Unit) × Unit) :=
  (S.limbs_Of (1, ())).bind fun z1 =>
  some (((false, [], ()), z1.1, ()), ())

def S.ratio_Zero (x : Unit) : Option (((Bool × List Int × Unit) × List Int × Unit) × Unit) := L.ratio_Zero
theorem ratio_Zero_R : S.ratio_Zero () = some (R 0, ()) := by
  simp only [S.ratio_Zero, L.ratio_Zero, Of_one, Option.bind_some]; rfl
/-- ratio.Make -/
def ratio_Make (num : Bool × (List Int) × Unit) (den : Bool × (List Int) × Unit) : Option (((Bool × (List Int) × Unit) × (List Int) × Unit) × Int × Unit) :=
  (S.whole_Sign ((den.1, den.2.1, ()), ())).bind fun z1 =>
  cond (decide (z1.1 = 0))
   (
   (S.ratio_Zero (())).bind fun z2 =>
   some (((z2.1.1.1, z2.1.1.2.1, ()), z2.1.2.1, ()), 10, ()))
   (
   (S.digits_Gcd (num.2.1, den.2.1, ())).bind fun z3 =>
   (S.limbs_Div (num.2.1, z3.1, ())).bind fun z4 =>
   (S.limbs_Div (den.2.1, z3.1, ())).bind fun z5 =>
   cond (!(num.1 == den.1)) (some (((decide (0 < (z4.1.length : Int)), z4.1, ()), z5.1, ()), 0, ())) (some (((false, z4.1, ()), z5.1, ()), 0, ())))

def S.ratio_Make (x : (Bool × List Int × Unit) × (Bool × List Int × Unit) × Unit) : Option (((Bool × List Int × Unit) × List Int × Unit) × Int × Unit) := L.ratio_Make x.1 x.2.1
theorem divInt_parts (n d : Int) (h0 : d ≠ 0) : (Rat.divInt n d).num.natAbs = n.natAbs / Nat.gcd n.natAbs d.natAbs ∧ (Rat.divInt n d).den = d.natAbs / Nat.gcd n.natAbs d.natAbs ∧ ((Rat.divInt n d).num < 0 ↔ (¬ (n < 0 ↔ d < 0) ∧ 0 < n.natAbs / Nat.gcd n.natAbs d.natAbs)) := by
  have hg : d.gcd n = Nat.gcd n.natAbs d.natAbs := by rw [Int.gcd, Nat.gcd_comm]
  obtain ⟨g, hgd⟩ : ∃ g, Nat.gcd n.natAbs d.natAbs = g := ⟨_, rfl⟩
  have hgpos : 0 < g := by rw [← hgd]; exact Nat.gcd_pos_of_pos_right _ (by omega)
  have hdv : (g : Int) ∣ n := by rw [← Int.natAbs_dvd_natAbs, Int.natAbs_natCast, ← hgd]; exact Nat.gcd_dvd_left _ _
  obtain ⟨m, hm⟩ := hdv
  have hnum : (Rat.divInt n d).num = d.sign * m := by
    rw [Rat.num_divInt, hg, hgd, hm, Int.mul_comm (g : Int) m, ← Int.mul_assoc, Int.mul_ediv_cancel _ (by omega)]
  have hmabs : n.natAbs / g = m.natAbs := by rw [hm, Int.natAbs_mul, Int.natAbs_natCast, Nat.mul_div_cancel_left _ hgpos]
  rw [hgd, hmabs]
  refine ⟨?_, ?_, ?_⟩
  · rw [hnum, Int.natAbs_mul]
    rcases Int.lt_or_gt_of_ne h0 with h | h
    · rw [Int.sign_eq_neg_one_of_neg h]; simp
    · rw [Int.sign_eq_one_of_pos h]; simp
  · rw [Rat.den_divInt, if_neg h0, hg, hgd]
  · rw [hnum]
    have hmn : (n < 0 ↔ m < 0) ∧ (n = 0 ↔ m = 0) := by
      have hgi : (0 : Int) < g := by omega
      constructor
      · rw [hm]
        constructor
        · intro h
          rcases Int.lt_or_le m 0 with h' | h'
          · exact h'
          · have := Int.mul_nonneg (Int.le_of_lt hgi) h'; omega
        · intro h; exact Int.mul_neg_of_pos_of_neg hgi h
      · rw [hm]
        constructor
        · intro h
          rcases Int.mul_eq_zero.1 h with h | h
          · omega
          · exact h
        · rintro rfl; simp
    rcases Int.lt_or_gt_of_ne h0 with h | h
    · rw [Int.sign_eq_neg_one_of_neg h]; omega
    · rw [Int.sign_eq_one_of_pos h]; omega
theorem Make_R {n d : Int} (hn : n.natAbs < P 512) (hd : d.natAbs < P 512) (h0 : d ≠ 0) : S.ratio_Make (I n, I d, ()) = some (R (Rat.divInt n d), 0, ()) := by
  obtain ⟨p1, p2, p3⟩ := divInt_parts n d h0
  have hgpos : 0 < Nat.gcd n.natAbs d.natAbs := Nat.gcd_pos_of_pos_right _ (by omega)
  have hg : Nat.gcd n.natAbs d.natAbs < P 512 := Nat.lt_of_le_of_lt (Nat.le_of_dvd (by omega) (Nat.gcd_dvd_right _ _)) hd
  have hs : S.whole_Sign (I d, ()) = some (sgn d 0, ()) := whole_Sign_I d
  have hs0 : ¬ sgn d 0 = 0 := by rcases sgn0 d with h | h | h <;> omega
  simp only [I] at hs
  simp only [S.ratio_Make, L.ratio_Make, I, hs, Option.bind_some]
  rw [cf hs0]
  simp only [Gcd_D hn hd, Option.bind_some, Div_D (P1000 hn (by decide)) hg hgpos, Div_D (P1000 hd (by decide)) hg hgpos, D_len_pos]
  rw [← p1, ← p2, bnot_beq]
  by_cases hc : ¬ (n < 0 ↔ d < 0)
  · rw [decide_eq_true hc]
    simp only [cond_true]
    congr 5
    rw [← p1] at p3
    by_cases hp : 0 < (Rat.divInt n d).num.natAbs
    · exact propext ⟨fun _ => p3.2 ⟨hc, hp⟩, fun _ => hp⟩
    · exact propext ⟨fun h => absurd h hp, fun h => absurd (p3.1 h).2 hp⟩
  · rw [decide_eq_false hc]
    simp only [cond_false, R, I]
    rw [decide_eq_false (fun h => hc (p3.1 h).1)]
end Go.L

/-! WC -/
namespace Go.L
open Go.PM
set_option exponentiation.threshold 20000
set_option linter.unusedVariables false
set_option linter.unusedSimpArgs false

theorem den0 (q : Rat) : (q.den : Int) ≠ 0 := by have := q.den_pos; omega
theorem divInt_self (q : Rat) : Rat.divInt q.num q.den = q := by
  rw [← Rat.mk_eq_divInt (nz := q.den_nz) (c := q.reduced)]
theorem nat_abs (n : Nat) : (n : Int).natAbs = n := Int.natAbs_natCast n
theorem mul_abs (a b : Int) : (a * b).natAbs = a.natAbs * b.natAbs := Int.natAbs_mul a b
/-- How big a ratio's numbers are. -/
def big (q : Rat) (k : Nat) : Prop := q.num.natAbs < P k ∧ q.den < P k
theorem big.mono {q : Rat} {j k : Nat} (h : big q j) (hjk : j ≤ k) : big q k := ⟨Nat.lt_of_lt_of_le h.1 (P_mono hjk), Nat.lt_of_lt_of_le h.2 (P_mono hjk)⟩
/-- Which of two ratios is the greater. -/
def sgq (a b : Rat) : Int := if a < b then -1 else if b < a then 1 else 0
theorem sgq_eq (a b : Rat) : sgn (a.num * b.den) (b.num * a.den) = sgq a b := by
  unfold sgn sgq
  by_cases h : a < b
  · rw [if_pos h, if_pos ((Rat.lt_iff a b).1 h)]
  · rw [if_neg h, if_neg (fun h' => h ((Rat.lt_iff a b).2 h'))]
    by_cases h2 : b < a
    · rw [if_pos h2, if_pos ((Rat.lt_iff b a).1 h2)]
    · rw [if_neg h2, if_neg (fun h' => h2 ((Rat.lt_iff b a).2 h'))]

/-- ratio.Compare -/
def ratio_Compare (a : (Bool × (List Int) × Unit) × (List Int) × Unit) (b : (Bool × (List Int) × Unit) × (List Int) × Unit) : Option (Int × Int × Unit) :=
  (S.ratio_den (((b.1.1, b.1.2.1, ()), b.2.1, ()), ())).bind fun z1 =>
  (S.whole_Mul ((a.1.1, a.1.2.1, ()), (z1.1.1, z1.1.2.1, ()), ())).bind fun z2 =>
  (S.ratio_den (((a.1.1, a.1.2.1, ()), a.2.1, ()), ())).bind fun z3 =>
  (S.whole_Mul ((b.1.1, b.1.2.1, ()), (z3.1.1, z3.1.2.1, ()), ())).bind fun z4 =>
  (S.ratio_first ([z2.2.1, z4.2.1], ())).bind fun z5 =>
  cond (!(decide (z5.1 = 0))) (some (0, z5.1, ()))
   (
   (S.whole_Compare ((z2.1.1, z2.1.2.1, ()), (z4.1.1, z4.1.2.1, ()), ())).bind fun z6 =>
   some (z6.1, 0, ()))

def S.ratio_Compare (x : ((Bool × List Int × Unit) × List Int × Unit) × ((Bool × List Int × Unit) × List Int × Unit) × Unit) : Option (Int × Int × Unit) := L.ratio_Compare x.1 x.2.1
theorem ratio_Compare_R {a b : Rat} {j k : Nat} (ha : big a j) (hb : big b k) (h : j + k ≤ 512) : S.ratio_Compare (R a, R b, ()) = some (sgq a b, 0, ()) := by
  have e1 : S.whole_Mul (I a.num, I b.den, ()) = some (I (a.num * b.den), 0, ()) := whole_Mul_I (j := j) (k := k) ha.1 (by rw [nat_abs]; exact hb.2) h
  have e2 : S.whole_Mul (I b.num, I a.den, ()) = some (I (b.num * a.den), 0, ()) := whole_Mul_I (j := k) (k := j) hb.1 (by rw [nat_abs]; exact ha.2) (by omega)
  have m1 : (a.num * b.den).natAbs < P 512 := by rw [mul_abs, nat_abs]; exact P40 (P_mul ha.1 hb.2) h
  have m2 : (b.num * a.den).natAbs < P 512 := by rw [mul_abs, nat_abs]; exact P40 (P_mul hb.1 ha.2) (by omega)
  have e3 := whole_Compare_I (P1000 m1 (by decide)) (P1000 m2 (by decide))
  rw [sgq_eq] at e3
  have e4 := ratio_den_R (P1000 ha.2 (by omega))
  have e5 := ratio_den_R (P1000 hb.2 (by omega))
  simp only [R, I] at e1 e2 e3 e4 e5
  simp only [S.ratio_Compare, L.ratio_Compare, R, I, e1, e2, e4, e5, Option.bind_some, first2, decide_true, Bool.not_true, cond_false, e3]

/-- ratio.Mul -/
def ratio_Mul (a : (Bool × (List Int) × Unit) × (List Int) × Unit) (b : (Bool × (List Int) × Unit) × (List Int) × Unit) : Option (((Bool × (List Int) × Unit) × (List Int) × Unit) × Int × Unit) :=
  (S.whole_Mul ((a.1.1, a.1.2.1, ()), (b.1.1, b.1.2.1, ()), ())).bind fun z1 =>
  (S.ratio_den (((a.1.1, a.1.2.1, ()), a.2.1, ()), ())).bind fun z2 =>
  (S.ratio_den (((b.1.1, b.1.2.1, ()), b.2.1, ()), ())).bind fun z3 =>
  (S.whole_Mul ((z2.1.1, z2.1.2.1, ()), (z3.1.1, z3.1.2.1, ()), ())).bind fun z4 =>
  (S.ratio_first ([z1.2.1, z4.2.1], ())).bind fun z5 =>
  cond (!(decide (z5.1 = 0)))
   (
   (S.ratio_Zero (())).bind fun z6 =>
   some (((z6.1.1.1, z6.1.1.2.1, ()), z6.1.2.1, ()), z5.1, ()))
   (
   (S.ratio_Make ((z1.1.1, z1.1.2.1, ()), (z4.1.1, z4.1.2.1, ()), ())).bind fun z7 =>
   some (((z7.1.1.1, z7.1.1.2.1, ()), z7.1.2.1, ()), z7.2.1, ()))

def S.ratio_Mul (x : ((Bool × List Int × Unit) × List Int × Unit) × ((Bool × List Int × Unit) × List Int × Unit) × Unit) : Option (((Bool × List Int × Unit) × List Int × Unit) × Int × Unit) := L.ratio_Mul x.1 x.2.1
theorem rat_mul (a b : Rat) : Rat.divInt (a.num * b.num) ((a.den : Int) * b.den) = a * b := by
  rw [← Rat.divInt_mul_divInt, divInt_self, divInt_self]
theorem big_mul {a b : Rat} {j k : Nat} (ha : big a j) (hb : big b k) : big (a * b) (j + k) := by
  have h0 : ((a.den : Int) * b.den) ≠ 0 := Int.mul_ne_zero (den0 a) (den0 b)
  obtain ⟨p1, p2, _⟩ := divInt_parts (a.num * b.num) ((a.den : Int) * b.den) h0
  rw [rat_mul] at p1 p2
  refine ⟨?_, ?_⟩
  · rw [p1, mul_abs]; exact Nat.lt_of_le_of_lt (Nat.div_le_self _ _) (P_mul ha.1 hb.1)
  · rw [p2, mul_abs, nat_abs, nat_abs]; exact Nat.lt_of_le_of_lt (Nat.div_le_self _ _) (P_mul ha.2 hb.2)
theorem ratio_Mul_R {a b : Rat} {j k : Nat} (ha : big a j) (hb : big b k) (h : j + k ≤ 512) : S.ratio_Mul (R a, R b, ()) = some (R (a * b), 0, ()) := by
  have e1 : S.whole_Mul (I a.num, I b.num, ()) = some (I (a.num * b.num), 0, ()) := whole_Mul_I (j := j) (k := k) ha.1 hb.1 h
  have e2 : S.whole_Mul (I a.den, I b.den, ()) = some (I ((a.den : Int) * b.den), 0, ()) := whole_Mul_I (j := j) (k := k) (by rw [nat_abs]; exact ha.2) (by rw [nat_abs]; exact hb.2) h
  have m1 : (a.num * b.num).natAbs < P 512 := by rw [mul_abs]; exact P40 (P_mul ha.1 hb.1) h
  have m2 : ((a.den : Int) * b.den).natAbs < P 512 := by rw [mul_abs, nat_abs, nat_abs]; exact P40 (P_mul ha.2 hb.2) h
  have e3 := Make_R m1 m2 (Int.mul_ne_zero (den0 a) (den0 b))
  rw [rat_mul] at e3
  have e4 := ratio_den_R (P1000 ha.2 (by omega))
  have e5 := ratio_den_R (P1000 hb.2 (by omega))
  simp only [R, I] at e1 e2 e3 e4 e5
  simp only [S.ratio_Mul, L.ratio_Mul, R, I, e1, e2, e4, e5, Option.bind_some, first2, decide_true, Bool.not_true, cond_false, e3]

theorem num0 {q : Rat} (h : q ≠ 0) : q.num ≠ 0 := fun e => h (Rat.num_eq_zero.1 e)
/-- ratio.Of -/
def ratio_Of (num : Int) (den : Int) : Option (((Bool × (List Int) × Unit) × (List Int) × Unit) × Unit) :=
  (S.whole_Of (num, ())).bind fun z1 =>
  (S.whole_Of (den, ())).bind fun z2 =>
  (S.ratio_Make ((z1.1.1, z1.1.2.1, ()), (z2.1.1, z2.1.2.1, ()), ())).bind fun z3 =>
  some (((z3.1.1.1, z3.1.1.2.1, ()), z3.1.2.1, ()), ())

def S.ratio_Of (x : Int × Int × Unit) : Option (((Bool × List Int × Unit) × List Int × Unit) × Unit) := L.ratio_Of x.1 x.2.1
theorem i64_P {z : Int} (h0 : -9223372036854775808 ≤ z) (h1 : z < 9223372036854775808) : z.natAbs < P 2 := by rw [P_2]; omega
theorem ratio_Of_R {n d : Int} (h0 : -9223372036854775808 ≤ n) (h1 : n < 9223372036854775808) (k0 : -9223372036854775808 ≤ d) (k1 : d < 9223372036854775808) (hd : d ≠ 0) : S.ratio_Of (n, d, ()) = some (R (Rat.divInt n d), ()) := by
  have e3 := Make_R (P40 (i64_P h0 h1) (by decide)) (P40 (i64_P k0 k1) (by decide)) hd
  have e1 := whole_Of_I h0 h1
  have e2 := whole_Of_I k0 k1
  simp only [R, I] at e1 e2 e3
  simp only [S.ratio_Of, L.ratio_Of, R, I, e1, e2, e3, Option.bind_some]
/-- ratio.Whole -/
def ratio_Whole (a : Bool × (List Int) × Unit) : Option (((Bool × (List Int) × Unit) × (List Int) × Unit) × Unit) :=
  (S.slices_Clone_api_Nat_uint32 (a.2.1, ())).bind fun z1 =>
  (S.limbs_Of (1, ())).bind fun z2 =>
  some (((a.1, z1.1, ()), z2.1, ()), ())

def S.ratio_Whole (x : (Bool × List Int × Unit) × Unit) : Option (((Bool × List Int × Unit) × List Int × Unit) × Unit) := L.ratio_Whole x.1
theorem ratio_Whole_R {z : Int} (h : z.natAbs < P 1000) : S.ratio_Whole (I z, ()) = some (R z, ()) := by
  simp only [S.ratio_Whole, L.ratio_Whole, I, Clone_D h, Of_one, Option.bind_some]
  rfl
/-- ratio.Sign -/
def ratio_Sign (a : (Bool × (List Int) × Unit) × (List Int) × Unit) : Option (Int × Unit) :=
  (S.whole_Sign ((a.1.1, a.1.2.1, ()), ())).bind fun z1 =>
  some (z1.1, ())

def S.ratio_Sign (x : ((Bool × List Int × Unit) × List Int × Unit) × Unit) : Option (Int × Unit) := L.ratio_Sign x.1
theorem ratio_Sign_R (q : Rat) : S.ratio_Sign (R q, ()) = some (sgn q.num 0, ()) := by
  have e := whole_Sign_I q.num
  simp only [I] at e
  simp only [S.ratio_Sign, L.ratio_Sign, R, I, e, Option.bind_some]
/-- ratio.Check -/
def ratio_Check (a : (Bool × (List Int) × Unit) × (List Int) × Unit) : Option (Int × Unit) :=
  (S.whole_Check ((a.1.1, a.1.2.1, ()), ())).bind fun z1 =>
  cond (!(decide (z1.1 = 0))) (some (z1.1, ()))
   (
   (S.limbs_Check (a.2.1, ())).bind fun z2 =>
   cond (!(decide (z2.1 = 0))) (some (z2.1, ()))
   (
   cond (decide ((a.2.1.length : Int) = 0)) (some (2, ()))
   (
   (S.digits_Gcd (a.1.2.1, a.2.1, ())).bind fun z3 =>
   (S.limbs_Of (1, ())).bind fun z4 =>
   (S.limbs_Compare (z3.1, z4.1, ())).bind fun z5 =>
   cond (!(decide (z5.1 = 0))) (some (2, ())) (some (0, ())))))

def S.ratio_Check (x : ((Bool × List Int × Unit) × List Int × Unit) × Unit) : Option (Int × Unit) := L.ratio_Check x.1
theorem sgn_one {n : Nat} : sgn (n : Int) ((1 : Nat) : Int) = 0 ↔ n = 1 := by
  unfold sgn
  constructor
  · intro h
    split at h
    · omega
    · split at h <;> omega
  · rintro rfl; rfl
theorem D_of_check {a : List Int} (hf : fine a) (ho : ok W a) (h : S.limbs_Check (a, ()) = some (0, ())) : ∃ n : Nat, a = D n ∧ n < P 512 := by
  rw [Check_eq hf] at h
  by_cases h1 : 512 < a.length
  · rw [if_pos h1] at h; simp at h
  rw [if_neg h1] at h
  by_cases h2 : a ≠ [] ∧ a.getD (a.length - 1) 0 = 0
  · rw [if_pos h2] at h; simp at h
  have hc : can a := can_of_top ho (by
    by_cases h0 : a = []
    · exact .inl h0
    · exact .inr (fun e => h2 ⟨h0, e⟩))
  obtain ⟨n, rfl⟩ := can_D_of hc
  exact ⟨n, rfl, D_lt (by omega)⟩
/-- Digits as arguments bring them. -/
def inI (x : Bool × List Int × Unit) : Prop := inW x.2.1
def inR (x : (Bool × List Int × Unit) × List Int × Unit) : Prop := inW x.1.2.1 ∧ inW x.2.1
theorem Check_some {a : List Int} (hf : fine a) : ∃ c : Int, S.limbs_Check (a, ()) = some (c, ()) := by rw [Check_eq hf]; exact ⟨_, rfl⟩
theorem whole_Check_some {x : Bool × List Int × Unit} (h : inI x) : ∃ c : Int, S.whole_Check (x, ()) = some (c, ()) := by
  obtain ⟨c, hc⟩ := Check_some h.2
  simp only [S.whole_Check, L.whole_Check, hc, Option.bind_some]
  cases decide (c = 0) <;> simp only [Bool.not_true, Bool.not_false, cond_true, cond_false]
  · exact ⟨_, rfl⟩
  · cases x.1 <;> simp only [cond_true, cond_false]
    · exact ⟨_, rfl⟩
    · cases decide ((x.2.1.length : Int) = 0) <;> exact ⟨_, rfl⟩
/-- What a check says of a ratio: it is none; or it is one. -/
theorem ratio_Check_in {x : (Bool × List Int × Unit) × List Int × Unit} (h : inR x) : (∃ c, c ≠ 0 ∧ S.ratio_Check (x, ()) = some (c, ())) ∨ (S.ratio_Check (x, ()) = some (0, ()) ∧ ∃ q : Rat, x = R q ∧ big q 512) := by
  obtain ⟨xn, xd, _⟩ := x
  obtain ⟨hn, hd⟩ := h
  simp only at hn hd
  obtain ⟨c, hc⟩ := whole_Check_some (x := xn) hn
  simp only [S.ratio_Check, L.ratio_Check]
  have hc' : S.whole_Check ((xn.1, xn.2.1, ()), ()) = some (c, ()) := hc
  simp only [hc', Option.bind_some]
  by_cases c0 : c = 0
  · subst c0
    obtain ⟨z, rfl, hz⟩ := whole_Check_in hn.2 hn.1 hc
    obtain ⟨c2, hc2⟩ := Check_some hd.2
    simp only [decide_true, Bool.not_true, cond_false, hc2, Option.bind_some]
    by_cases c20 : c2 = 0
    · subst c20
      obtain ⟨d, rfl, hd5⟩ := D_of_check hd.2 hd.1 hc2
      simp only [decide_true, Bool.not_true, cond_false, D_len_zero]
      by_cases d0 : d = 0
      · left; rw [ct d0]; exact ⟨2, by decide, rfl⟩
      rw [cf d0]
      have hg5 : Nat.gcd z.natAbs d < P 512 := Nat.lt_of_le_of_lt (Nat.le_of_dvd (by omega) (Nat.gcd_dvd_right _ _)) hd5
      have eg := Gcd_D hz hd5
      have ec := Cmp_D (P1000 hg5 (by decide)) (P_one 1000 (by decide))
      simp only [I, eg, Of_one, Option.bind_some, ec]
      by_cases hg1 : Nat.gcd z.natAbs d = 1
      · right
        rw [decide_eq_true (sgn_one.2 hg1)]
        refine ⟨rfl, ⟨z, d, d0, hg1⟩, rfl, hz, hd5⟩
      · left
        rw [decide_eq_false (fun h => hg1 (sgn_one.1 h))]
        exact ⟨2, by decide, rfl⟩
    · left
      rw [decide_eq_false c20]
      exact ⟨c2, c20, rfl⟩
  · left
    rw [decide_eq_false c0]
    exact ⟨c, c0, rfl⟩
end Go.L

/-! WD -/
namespace Go.L
open Go.PM
set_option exponentiation.threshold 20000
set_option linter.unusedVariables false
set_option linter.unusedSimpArgs false

/-- whole.Right -/
def whole_Right (a : Bool × (List Int) × Unit) (n : Int) : Option ((Bool × (List Int) × Unit) × Int × Unit) :=
  (S.limbs_Right (a.2.1, n, ())).bind fun z1 =>
  cond (!(decide (z1.2.1 = 0)))
   (
   (S.whole_of (a.1, z1.1, ())).bind fun z2 =>
   some ((z2.1.1, z2.1.2.1, ()), z1.2.1, ()))
   (
   cond (!a.1)
   (
   (S.whole_of (a.1, z1.1, ())).bind fun z3 =>
   some ((z3.1.1, z3.1.2.1, ()), z1.2.1, ()))
   (
   (S.limbs_Tail (a.2.1, ())).bind fun z4 =>
   cond (decide (n ≤ z4.1))
   (
   (S.whole_of (a.1, z1.1, ())).bind fun z5 =>
   some ((z5.1.1, z5.1.2.1, ()), z1.2.1, ()))
   (
   (S.limbs_Of (1, ())).bind fun z6 =>
   (S.limbs_Add (z1.1, z6.1, ())).bind fun z7 =>
   (S.whole_of (true, z7.1, ())).bind fun z8 =>
   some ((z8.1.1, z8.1.2.1, ()), z7.2.1, ()))))

def S.whole_Right (x : (Bool × List Int × Unit) × Int × Unit) : Option ((Bool × List Int × Unit) × Int × Unit) := L.whole_Right x.1 x.2.1
/-- dyad.Make -/
def dyad_Make (man : Bool × (List Int) × Unit) (exp : Int) : Option (((Bool × (List Int) × Unit) × Int × Unit) × Int × Unit) :=
  (S.limbs_Tail (man.2.1, ())).bind fun z1 =>
  (S.whole_Right ((man.1, man.2.1, ()), z1.1, ())).bind fun z2 =>
  (S.whole_Sign ((z2.1.1, z2.1.2.1, ()), ())).bind fun z3 =>
  cond (decide (z3.1 = 0)) (some (((false, [], ()), 0, ()), 0, ()))
   (
   cond (decide (65536 < exp)) (some (((false, [], ()), 0, ()), 1, ()))
   (
   cond (decide (exp < (-65536 : Int))) (some (((false, [], ()), 0, ()), 1, ()))
   (
   cond (decide (65536 < (IntKind.i64.wrap (exp + z1.1)))) (some (((false, [], ()), 0, ()), 1, ())) (some (((z2.1.1, z2.1.2.1, ()), (IntKind.i64.wrap (exp + z1.1)), ()), 0, ())))))

def S.dyad_Make (x : (Bool × List Int × Unit) × Int × Unit) : Option (((Bool × List Int × Unit) × Int × Unit) × Int × Unit) := L.dyad_Make x.1 x.2.1
/-- dyad.Ratio -/
def dyad_Ratio (a : (Bool × (List Int) × Unit) × Int × Unit) : Option (((Bool × (List Int) × Unit) × (List Int) × Unit) × Int × Unit) :=
  cond (decide (0 ≤ a.2.1))
   (
   (S.whole_Left ((a.1.1, a.1.2.1, ()), a.2.1, ())).bind fun z1 =>
   cond (!(decide (z1.2.1 = 0)))
   (
   (S.ratio_Zero (())).bind fun z2 =>
   some (((z2.1.1.1, z2.1.1.2.1, ()), z2.1.2.1, ()), z1.2.1, ()))
   (
   (S.ratio_Whole ((z1.1.1, z1.1.2.1, ()), ())).bind fun z3 =>
   some (((z3.1.1.1, z3.1.1.2.1, ()), z3.1.2.1, ()), 0, ())))
   (
   (S.limbs_Of (1, ())).bind fun z5 =>
   (S.limbs_Left (z5.1, (IntKind.i64.wrap (0 - a.2.1)), ())).bind fun z6 =>
   cond (!(decide (z6.2.1 = 0)))
   (
   (S.ratio_Zero (())).bind fun z7 =>
   some (((z7.1.1.1, z7.1.1.2.1, ()), z7.1.2.1, ()), z6.2.1, ()))
   (
   (S.whole_Nat (z6.1, ())).bind fun z8 =>
   (S.ratio_Make ((a.1.1, a.1.2.1, ()), (z8.1.1, z8.1.2.1, ()), ())).bind fun z9 =>
   some (((z9.1.1.1, z9.1.1.2.1, ()), z9.1.2.1, ()), z9.2.1, ())))

def S.dyad_Ratio (x : ((Bool × List Int × Unit) × Int × Unit) × Unit) : Option (((Bool × List Int × Unit) × List Int × Unit) × Int × Unit) := L.dyad_Ratio x.1
theorem two_pow_lt {n k : Nat} (h : n < 32 * k) : 2 ^ n < P k := two_P h
theorem rat_int_big {z : Int} {k : Nat} (h : z.natAbs < P k) (hk : 1 ≤ k) : big (z : Rat) k := by
  refine ⟨?_, ?_⟩
  · rw [Rat.num_intCast]; exact h
  · rw [Rat.den_intCast]; exact P_one k hk
/-- dyad.Cmp -/
def dyad_Cmp (a : (Bool × (List Int) × Unit) × Int × Unit) (b : (Bool × (List Int) × Unit) × (List Int) × Unit) : Option (Int × Int × Unit) :=
  (S.dyad_Ratio (((a.1.1, a.1.2.1, ()), a.2.1, ()), ())).bind fun z1 =>
  cond (!(decide (z1.2.1 = 0))) (some (0, z1.2.1, ()))
   (
   (S.ratio_Compare (((z1.1.1.1, z1.1.1.2.1, ()), z1.1.2.1, ()), ((b.1.1, b.1.2.1, ()), b.2.1, ()), ())).bind fun z2 =>
   some (z2.1, z2.2.1, ()))

def S.dyad_Cmp (x : ((Bool × List Int × Unit) × Int × Unit) × ((Bool × List Int × Unit) × List Int × Unit) × Unit) : Option (Int × Int × Unit) := L.dyad_Cmp x.1 x.2.1
end Go.L
