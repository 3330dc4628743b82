/-
  dyads: canonical numbers times powers of 2. dyads: order, sums, products, rounding. dyads: rounding; spans. dyads as ratios; spans of dyads. dyads and spans that may be.
  No condition beyond those that each theorem names.
-/
import Derived.Test.YtdadepdcllachaaGreatDoorJ

/-! ZA -/
namespace Go.L
open Go.PM
set_option exponentiation.threshold 20000
set_option linter.unusedVariables false
set_option linter.unusedSimpArgs false

/-- How many noughts stand at a number's end. -/
def tzN (n : Nat) : Nat := if n = 0 then 0 else if n % 2 = 1 then 0 else tzN (n / 2) + 1
termination_by n
decreasing_by omega
theorem tzN_spec : ∀ (n : Nat), n ≠ 0 → 2 ^ tzN n ∣ n ∧ n / 2 ^ tzN n % 2 = 1 := by
  intro n
  induction n using Nat.strongRecOn with
  | ind n ih =>
    intro h0
    rw [tzN, if_neg h0]
    by_cases h : n % 2 = 1
    · rw [if_pos h]; simp [h]
    · rw [if_neg h]
      obtain ⟨h1, h2⟩ := ih (n / 2) (by omega) (by omega)
      rw [Nat.pow_succ]
      refine ⟨?_, ?_⟩
      · have := Nat.mul_dvd_mul_right h1 2
        rwa [Nat.div_mul_cancel (by omega)] at this
      · rw [Nat.mul_comm, ← Nat.div_div_eq_div_mul]; exact h2
theorem tzN_mul (n k : Nat) (h0 : n ≠ 0) : tzN (n * 2 ^ k) = tzN n + k := by
  induction k with
  | zero => simp
  | succ k ih =>
    have hp := Nat.pow_pos (n := k) (show 0 < 2 by decide)
    have h1 : n * 2 ^ (k + 1) = n * 2 ^ k * 2 := by rw [Nat.pow_succ, Nat.mul_assoc]
    have h2 : n * 2 ^ k ≠ 0 := Nat.mul_ne_zero h0 (by omega)
    rw [h1, tzN, if_neg (by omega), if_neg (by omega), Nat.mul_div_cancel _ (by decide), ih]; omega
theorem tzN_odd {n : Nat} (h : n % 2 = 1) : tzN n = 0 := by rw [tzN, if_neg (by omega), if_pos h]
theorem tzN_tail {A t : Nat} (h0 : A ≠ 0) (h : tailOf A t) : tzN A = t := by
  obtain ⟨h1, h2⟩ := h
  obtain ⟨q, hq⟩ := Nat.dvd_of_mod_eq_zero h1
  have hp := Nat.pow_pos (n := t) (show 0 < 2 by decide)
  have hodd : q % 2 = 1 := by
    rcases Nat.mod_two_eq_zero_or_one q with h | h
    · exfalso; apply h2
      rw [hq, Nat.pow_succ, Nat.mul_mod_mul_left, h, Nat.mul_zero]
    · exact h
  rw [hq, Nat.mul_comm, tzN_mul q t (by omega), tzN_odd hodd, Nat.zero_add]
theorem tzN_lt {n k : Nat} (h : n < P k) : tzN n ≤ 32 * k := by
  by_cases h0 : n = 0
  · subst h0; rw [tzN, if_pos rfl]; omega
  · have h1 := Nat.le_of_dvd (by omega) (tzN_spec n h0).1
    rw [P_two] at h
    have := (Nat.pow_lt_pow_iff_right (show 1 < 2 by decide)).1 (Nat.lt_of_le_of_lt h1 h)
    omega
/-- What is left of a number without the noughts at its end. -/
def od (x : Int) : Int := x / 2 ^ tzN x.natAbs
theorem od_zero : od 0 = 0 := by unfold od; rw [Int.zero_ediv]
theorem od_mul (x : Int) : od x * 2 ^ tzN x.natAbs = x := by
  by_cases h0 : x = 0
  · subst h0; rw [od_zero, Int.zero_mul]
  · have h1 := (tzN_spec x.natAbs (by omega)).1
    have h2 : (2 : Int) ^ tzN x.natAbs ∣ x := by
      rw [pow_cast, ← Int.dvd_natAbs]; exact Int.ofNat_dvd.2 h1
    exact Int.ediv_mul_cancel h2
theorem two_pos (n : Nat) : (0 : Int) < 2 ^ n := Int.pow_pos (by decide)
theorem od_eq {x : Int} : od x = 0 ↔ x = 0 := by
  refine ⟨fun h => ?_, fun h => by rw [h, od_zero]⟩
  have := od_mul x
  rw [h, Int.zero_mul] at this; exact this.symm
theorem od_abs (x : Int) : (od x).natAbs ≤ x.natAbs := by
  have := congrArg Int.natAbs (od_mul x)
  rw [Int.natAbs_mul, pow_cast, Int.natAbs_natCast] at this
  have hp : 0 < 2 ^ tzN x.natAbs := Nat.pow_pos (by decide)
  calc (od x).natAbs = (od x).natAbs * 1 := (Nat.mul_one _).symm
    _ ≤ (od x).natAbs * 2 ^ tzN x.natAbs := Nat.mul_le_mul_left _ hp
    _ = x.natAbs := this
theorem od_neg (x : Int) : od (-x) = -od x := by
  have h1 := od_mul x
  have h2 := od_mul (-x)
  rw [Int.natAbs_neg] at h2
  have : od (-x) * 2 ^ tzN x.natAbs = -od x * 2 ^ tzN x.natAbs := by rw [h2, Int.neg_mul, h1]
  exact Int.eq_of_mul_eq_mul_right (Int.ne_of_gt (two_pos _)) this
theorem od_scale (x : Int) (n : Nat) : od (x * 2 ^ n) = od x := by
  by_cases h0 : x = 0
  · subst h0; rw [Int.zero_mul]
  · have h1 := od_mul x
    have h2 := od_mul (x * 2 ^ n)
    have h3 : (x * 2 ^ n).natAbs = x.natAbs * 2 ^ n := by rw [Int.natAbs_mul, pow_cast, Int.natAbs_natCast]
    rw [h3, tzN_mul _ _ (by omega), Int.pow_add, ← Int.mul_assoc] at h2
    have h4 := Int.eq_of_mul_eq_mul_right (Int.ne_of_gt (two_pos n)) h2
    exact Int.eq_of_mul_eq_mul_right (Int.ne_of_gt (two_pos _)) (h4.trans h1.symm)
/-- A dyad as it is kept: x times 2 to e. -/
def Yd (x e : Int) : (Bool × List Int × Unit) × Int × Unit := (I (od x), (if x = 0 then 0 else e + tzN x.natAbs), ())
theorem Yd_zero (e : Int) : Yd 0 e = (I 0, 0, ()) := by unfold Yd; rw [od_zero, if_pos rfl]
theorem Yd_ne {x : Int} (h : x ≠ 0) (e : Int) : Yd x e = (I (od x), e + tzN x.natAbs, ()) := by unfold Yd; rw [if_neg h]
theorem Yd_scale (x : Int) (n : Nat) (e : Int) : Yd (x * 2 ^ n) e = Yd x (e + n) := by
  by_cases h0 : x = 0
  · subst h0; rw [Int.zero_mul, Yd_zero, Yd_zero]
  · have hp := two_pos n
    have h3 : (x * 2 ^ n).natAbs = x.natAbs * 2 ^ n := by rw [Int.natAbs_mul, pow_cast, Int.natAbs_natCast]
    rw [Yd_ne h0, Yd_ne (Int.mul_ne_zero h0 (Int.ne_of_gt hp)), od_scale, h3, tzN_mul _ _ (by omega)]
    congr 2; omega
/-- A dyad in its form. -/
def cn (a e : Int) : Prop := a % 2 = 1 ∨ (a = 0 ∧ e = 0)
end Go.L

/-! ZB -/
namespace Go.L
open Go.PM
set_option exponentiation.threshold 20000
set_option linter.unusedVariables false
set_option linter.unusedSimpArgs false

abbrev DY := (Bool × List Int × Unit) × Int × Unit
/-- How many bits a number has. -/
def bl (x : Int) : Nat := if x = 0 then 0 else x.natAbs.log2 + 1
theorem bl_blen (x : Int) : blen (x.natAbs : Int) = (bl x : Int) := by
  unfold bl
  by_cases h : x = 0
  · subst h; rfl
  · rw [if_neg h, blen_nat (by omega)]
theorem bl_hi (x : Int) : x.natAbs < 2 ^ bl x := by
  unfold bl
  by_cases h : x = 0
  · subst h; decide
  · rw [if_neg h]; exact log2_high (by omega)
theorem bl_lo {x : Int} (h : x ≠ 0) : 2 ^ (bl x - 1) ≤ x.natAbs ∧ 1 ≤ bl x := by
  unfold bl; rw [if_neg h]; exact ⟨log2_low (by omega), by omega⟩
theorem bl_scale {x : Int} (h : x ≠ 0) (n : Nat) : bl (x * 2 ^ n) = bl x + n := by
  unfold bl
  rw [if_neg h, if_neg (Int.mul_ne_zero h (Int.ne_of_gt (two_pos n))), Int.natAbs_mul, pow_cast, Int.natAbs_natCast, log2_shift (by omega)]; omega
theorem bl_P {x : Int} {k : Nat} (h : x.natAbs < P k) : bl x ≤ 32 * k := by
  by_cases h0 : x = 0
  · subst h0; simp [bl]
  · have h1 := bl_lo h0
    rw [P_two] at h
    have := (Nat.pow_lt_pow_iff_right (show 1 < 2 by decide)).1 (Nat.lt_of_le_of_lt h1.1 h)
    omega
theorem two_lt {a b n m : Nat} (h : a < 2 ^ n) (h' : 2 ^ m ≤ b) (hm : n ≤ m) : a < b := Nat.lt_of_lt_of_le h (Nat.le_trans (Nat.pow_le_pow_right (by decide) hm) h')
theorem Bits_I {x : Int} (h : x.natAbs < P 1000) : S.limbs_Bits (D x.natAbs, ()) = some ((bl x : Int), ()) := by rw [Bits_D h, bl_blen]
theorem whole_Left_J {a : Int} {n : Nat} (ha : a.natAbs < P 512) (hm : a.natAbs * 2 ^ n < P 512) (hn : n ≤ 16384) : S.whole_Left (I a, (n : Int), ()) = some (I (a * 2 ^ n), 0, ()) := by
  have e : sg (decide (a < 0)) (a.natAbs * 2 ^ n) = a * 2 ^ n := by
    have := sg_mul a ((2 ^ n : Nat) : Int)
    have hp : ¬ (((2 ^ n : Nat) : Int) < 0) := Int.not_lt.2 (Int.natCast_nonneg _)
    rw [decide_eq_false hp, Int.natAbs_natCast] at this
    rw [pow_cast, ← this]
    cases decide (a < 0) <;> rfl
  by_cases h0 : a = 0
  · subst h0
    have e0 : S.limbs_Left (D 0, (n : Int), ()) = some ([], 0, ()) := by rw [Left_D (P_pos _), if_pos rfl]
    simp only [S.whole_Left, L.whole_Left, I, Int.natAbs_zero, e0, Option.bind_some, whole_of_nil, Int.zero_mul]
    rfl
  · have e1 : S.limbs_Left (D a.natAbs, (n : Int), ()) = some (D (a.natAbs * 2 ^ n), 0, ()) := by rw [Left_D (P1000 ha (by omega)), if_neg (by omega), if_neg (by omega), res_in hm]
    simp only [S.whole_Left, L.whole_Left, I, e1, Option.bind_some, whole_of_D]
    rw [e]
theorem sgn_lt {a b : Int} (h : a < b) : sgn a b = -1 := by unfold sgn; rw [if_pos h]
theorem sgn_gt {a b : Int} (h : b < a) : sgn a b = 1 := by unfold sgn; rw [if_neg (by omega), if_pos h]
theorem sgn_self (a : Int) : sgn a a = 0 := by unfold sgn; rw [if_neg (by omega), if_neg (by omega)]
theorem sgn_mul {a b p : Int} (hp : 0 < p) : sgn (a * p) (b * p) = sgn a b := by
  unfold sgn
  by_cases h1 : a < b
  · rw [if_pos h1, if_pos (Int.mul_lt_mul_of_pos_right h1 hp)]
  · rw [if_neg h1, if_neg (fun h => h1 (Int.lt_of_mul_lt_mul_right h (Int.le_of_lt hp)))]
    by_cases h2 : b < a
    · rw [if_pos h2, if_pos (Int.mul_lt_mul_of_pos_right h2 hp)]
    · rw [if_neg h2, if_neg (fun h => h2 (Int.lt_of_mul_lt_mul_right h (Int.le_of_lt hp)))]
theorem sgn_neg0 (a b : Int) : sgn a b < 0 ↔ a < b := by
  unfold sgn; split
  · simp [*]
  · split <;> simp <;> omega

/-- dyad.Sign -/
def dyad_Sign (a : (Bool × (List Int) × Unit) × Int × Unit) : Option (Int × Unit) :=
  (S.whole_Sign ((a.1.1, a.1.2.1, ()), ())).bind fun z1 =>
  some (z1.1, ())

def S.dyad_Sign (x : DY × Unit) : Option (Int × Unit) := L.dyad_Sign x.1
theorem dyad_Sign_Y (z e : Int) : S.dyad_Sign ((I z, e, ()), ()) = some (sgn z 0, ()) := by
  have := whole_Sign_I z
  simp only [I] at this
  simp only [S.dyad_Sign, L.dyad_Sign, I, this, Option.bind_some]
/-- dyad.Neg -/
def dyad_Neg (a : (Bool × (List Int) × Unit) × Int × Unit) : Option (((Bool × (List Int) × Unit) × Int × Unit) × Unit) :=
  (S.whole_Neg ((a.1.1, a.1.2.1, ()), ())).bind fun z1 =>
  some (((z1.1.1, z1.1.2.1, ()), a.2.1, ()), ())

def S.dyad_Neg (x : DY × Unit) : Option (DY × Unit) := L.dyad_Neg x.1
/-- dyad.Abs -/
def dyad_Abs (a : (Bool × (List Int) × Unit) × Int × Unit) : Option (((Bool × (List Int) × Unit) × Int × Unit) × Unit) :=
  (S.whole_Abs ((a.1.1, a.1.2.1, ()), ())).bind fun z1 =>
  some (((z1.1.1, z1.1.2.1, ()), a.2.1, ()), ())

def S.dyad_Abs (x : DY × Unit) : Option (DY × Unit) := L.dyad_Abs x.1
/-- dyad.level -/
def dyad_level (a : (Bool × (List Int) × Unit) × Int × Unit) (b : (Bool × (List Int) × Unit) × Int × Unit) : Option ((Bool × (List Int) × Unit) × (Bool × (List Int) × Unit) × Int × Int × Unit) :=
  (S.dyad_Sign (((a.1.1, a.1.2.1, ()), a.2.1, ()), ())).bind fun z1 =>
  cond (decide (z1.1 = 0)) (some ((false, [], ()), (b.1.1, b.1.2.1, ()), b.2.1, 0, ()))
   (
   (S.dyad_Sign (((b.1.1, b.1.2.1, ()), b.2.1, ()), ())).bind fun z2 =>
   cond (decide (z2.1 = 0)) (some ((a.1.1, a.1.2.1, ()), (false, [], ()), a.2.1, 0, ()))
   (
   let z3 := min a.2.1 b.2.1
   (S.whole_Left ((a.1.1, a.1.2.1, ()), (IntKind.i64.wrap (a.2.1 - z3)), ())).bind fun z5 =>
   (S.whole_Left ((b.1.1, b.1.2.1, ()), (IntKind.i64.wrap (b.2.1 - z3)), ())).bind fun z7 =>
   cond (!(decide (z5.2.1 = 0))) (some ((z5.1.1, z5.1.2.1, ()), (z7.1.1, z7.1.2.1, ()), z3, z5.2.1, ())) (some ((z5.1.1, z5.1.2.1, ()), (z7.1.1, z7.1.2.1, ()), z3, z7.2.1, ()))))

def S.dyad_level (x : DY × DY × Unit) : Option ((Bool × List Int × Unit) × (Bool × List Int × Unit) × Int × Int × Unit) := L.dyad_level x.1 x.2.1
/-- dyad.top -/
def dyad_top (a : (Bool × (List Int) × Unit) × Int × Unit) : Option (Int × Unit) :=
  (S.limbs_Bits (a.1.2.1, ())).bind fun z1 =>
  some ((IntKind.i64.wrap (a.2.1 + z1.1)), ())

def S.dyad_top (x : DY × Unit) : Option (Int × Unit) := L.dyad_top x.1
/-- dyad.Compare -/
def dyad_Compare (a : (Bool × (List Int) × Unit) × Int × Unit) (b : (Bool × (List Int) × Unit) × Int × Unit) : Option (Int × Unit) :=
  (S.dyad_Sign (((a.1.1, a.1.2.1, ()), a.2.1, ()), ())).bind fun z1 =>
  (S.dyad_Sign (((b.1.1, b.1.2.1, ()), b.2.1, ()), ())).bind fun z2 =>
  cond (!(decide (z1.1 = z2.1)))
   (
   cond (decide (z1.1 < z2.1)) (some ((-1 : Int), ()))
   (
   cond (!(decide (z1.1 = z2.1))) (some (1, ()))
   (
   cond (decide (z1.1 = 0)) (some (0, ()))
   (
   (S.dyad_top (((a.1.1, a.1.2.1, ()), a.2.1, ()), ())).bind fun z3 =>
   (S.dyad_top (((b.1.1, b.1.2.1, ()), b.2.1, ()), ())).bind fun z4 =>
   cond (!(decide (z3.1 = z4.1)))
   (
   cond ((decide (z3.1 < z4.1) == decide (0 < z1.1))) (some ((-1 : Int), ())) (some (1, ())))
   (
   (S.dyad_level (((a.1.1, a.1.2.1, ()), a.2.1, ()), ((b.1.1, b.1.2.1, ()), b.2.1, ()), ())).bind fun z5 =>
   (S.whole_Compare ((z5.1.1, z5.1.2.1, ()), (z5.2.1.1, z5.2.1.2.1, ()), ())).bind fun z6 =>
   some (z6.1, ()))))))
   (
   cond (!(decide (z1.1 = z2.1))) (some (1, ()))
   (
   cond (decide (z1.1 = 0)) (some (0, ()))
   (
   (S.dyad_top (((a.1.1, a.1.2.1, ()), a.2.1, ()), ())).bind fun z7 =>
   (S.dyad_top (((b.1.1, b.1.2.1, ()), b.2.1, ()), ())).bind fun z8 =>
   cond (!(decide (z7.1 = z8.1)))
   (
   cond ((decide (z7.1 < z8.1) == decide (0 < z1.1))) (some ((-1 : Int), ())) (some (1, ())))
   (
   (S.dyad_level (((a.1.1, a.1.2.1, ()), a.2.1, ()), ((b.1.1, b.1.2.1, ()), b.2.1, ()), ())).bind fun z9 =>
   (S.whole_Compare ((z9.1.1, z9.1.2.1, ()), (z9.2.1.1, z9.2.1.2.1, ()), ())).bind fun z10 =>
   some (z10.1, ())))))

def S.dyad_Compare (x : DY × DY × Unit) : Option (Int × Unit) := L.dyad_Compare x.1 x.2.1
theorem dyad_top_Y {z e : Int} (hz : z.natAbs < P 1000) (h0 : -1000000 ≤ e) (h1 : e ≤ 1000000) : S.dyad_top ((I z, e, ()), ()) = some (e + bl z, ()) := by
  have h := Bits_I hz
  have := bl_P hz
  simp only [S.dyad_top, L.dyad_top, I, h, Option.bind_some]
  rw [wi64 (by omega) (by omega)]
theorem level0 {b e f : Int} : S.dyad_level ((I 0, e, ()), (I b, f, ()), ()) = some (I 0, I b, f, 0, ()) := by
  have e1 := dyad_Sign_Y 0 e
  simp only [I] at e1
  simp only [S.dyad_level, L.dyad_level, I, e1, Option.bind_some]
  rfl
theorem level1 {a e f : Int} (h : a ≠ 0) : S.dyad_level ((I a, e, ()), (I 0, f, ()), ()) = some (I a, I 0, e, 0, ()) := by
  have e1 := dyad_Sign_Y a e
  have e2 := dyad_Sign_Y 0 f
  have h1 := sgn0 a
  simp only [I] at e1 e2
  simp only [S.dyad_level, L.dyad_level, I, e1, e2, Option.bind_some]
  rw [cf (by omega)]
  rfl
theorem level2 {a b e f : Int} {n m : Nat} (h : a ≠ 0) (h' : b ≠ 0) (he : e = min e f + n) (hf : f = min e f + m) (ha : a.natAbs < P 512) (hb : b.natAbs < P 512) (ha' : a.natAbs * 2 ^ n < P 512) (hb' : b.natAbs * 2 ^ m < P 512) (hn : n ≤ 16384) (hm : m ≤ 16384) (g0 : -1000000 ≤ e) (g1 : e ≤ 1000000) (g2 : -1000000 ≤ f) (g3 : f ≤ 1000000) :
    S.dyad_level ((I a, e, ()), (I b, f, ()), ()) = some (I (a * 2 ^ n), I (b * 2 ^ m), min e f, 0, ()) := by
  have e1 := dyad_Sign_Y a e
  have e2 := dyad_Sign_Y b f
  have h1 := sgn0 a
  have h2 := sgn0 b
  have e3 := whole_Left_J ha ha' hn
  have e4 := whole_Left_J hb hb' hm
  simp only [I] at e1 e2 e3 e4
  simp only [S.dyad_level, L.dyad_level, I, e1, e2, Option.bind_some]
  rw [cf (by omega), cf (by omega), wi64 (x := e - min e f) (by omega) (by omega), wi64 (x := f - min e f) (by omega) (by omega), show e - min e f = n by omega, show f - min e f = m by omega, e3, e4]
  rfl
/-- Which of two dyads is the greater, however far apart they are. -/
theorem dyad_Compare_gen {a b e f : Int} {n m : Nat} (ha : a.natAbs < P 512) (hb : b.natAbs < P 512) (g0 : -500000 ≤ e) (g1 : e ≤ 500000) (g2 : -500000 ≤ f) (g3 : f ≤ 500000) (he : e = min e f + n) (hf : f = min e f + m) :
    S.dyad_Compare ((I a, e, ()), (I b, f, ()), ()) = some (sgn (a * 2 ^ n) (b * 2 ^ m), ()) := by
  have e1 := dyad_Sign_Y a e
  have e2 := dyad_Sign_Y b f
  have s1 := sgn0 a
  have s2 := sgn0 b
  have pn := two_pos n
  have pm := two_pos m
  have t1 := dyad_top_Y (z := a) (e := e) (P1000 ha (by decide)) (by omega) (by omega)
  have t2 := dyad_top_Y (z := b) (e := f) (P1000 hb (by decide)) (by omega) (by omega)
  simp only [I] at e1 e2 t1 t2
  simp only [S.dyad_Compare, L.dyad_Compare, I, e1, e2, Option.bind_some]
  have na : a < 0 → a * 2 ^ n < 0 := fun h => Int.mul_neg_of_neg_of_pos h pn
  have nb : b < 0 → b * 2 ^ m < 0 := fun h => Int.mul_neg_of_neg_of_pos h pm
  have qa : 0 < a → 0 < a * 2 ^ n := fun h => Int.mul_pos h pn
  have qb : 0 < b → 0 < b * 2 ^ m := fun h => Int.mul_pos h pm
  have za : a = 0 → a * 2 ^ n = 0 := fun h => by rw [h, Int.zero_mul]
  have zb : b = 0 → b * 2 ^ m = 0 := fun h => by rw [h, Int.zero_mul]
  by_cases hs : sgn a 0 = sgn b 0
  · rw [decide_eq_true hs]
    simp only [Bool.not_true, cond_false]
    by_cases h0 : a = 0
    · have h0' : b = 0 := by omega
      rw [ct (by omega), za h0, zb h0', sgn_self]
    · have h0' : b ≠ 0 := by omega
      rw [cf (by omega), t1, t2]
      simp only [Option.bind_some]
      have la := bl_lo h0
      have lb := bl_lo h0'
      have ua := bl_hi a
      have ub := bl_hi b
      have Aa : (a * 2 ^ n).natAbs = a.natAbs * 2 ^ n := by rw [Int.natAbs_mul, pow_cast, Int.natAbs_natCast]
      have Ab : (b * 2 ^ m).natAbs = b.natAbs * 2 ^ m := by rw [Int.natAbs_mul, pow_cast, Int.natAbs_natCast]
      have ua' : a.natAbs * 2 ^ n < 2 ^ (bl a + n) := by rw [Nat.pow_add]; exact Nat.mul_lt_mul_of_pos_right ua (Nat.pow_pos (by decide))
      have ub' : b.natAbs * 2 ^ m < 2 ^ (bl b + m) := by rw [Nat.pow_add]; exact Nat.mul_lt_mul_of_pos_right ub (Nat.pow_pos (by decide))
      have la' : 2 ^ (bl a - 1 + n) ≤ a.natAbs * 2 ^ n := by rw [Nat.pow_add]; exact Nat.mul_le_mul_right _ la.1
      have lb' : 2 ^ (bl b - 1 + m) ≤ b.natAbs * 2 ^ m := by rw [Nat.pow_add]; exact Nat.mul_le_mul_right _ lb.1
      by_cases ht : e + bl a = f + bl b
      · rw [decide_eq_true ht]
        simp only [Bool.not_true, cond_false]
        have hl : ∀ (x : Int), x.natAbs < P 512 → bl x ≤ 16384 := fun x h => by have := bl_P h; omega
        have ka := hl a ha
        have kb := hl b hb
        have Pe : P 512 = 2 ^ 16384 := P_two 512
        have ha' : a.natAbs * 2 ^ n < P 512 := by rw [Pe]; exact Nat.lt_of_lt_of_le ua' (Nat.pow_le_pow_right (by decide) (by omega))
        have hb' : b.natAbs * 2 ^ m < P 512 := by rw [Pe]; exact Nat.lt_of_lt_of_le ub' (Nat.pow_le_pow_right (by decide) (by omega))
        have e5 := level2 h0 h0' he hf ha hb ha' hb' (by omega) (by omega) (by omega) (by omega) (by omega) (by omega)
        have e6 := whole_Compare_I (a := a * 2 ^ n) (b := b * 2 ^ m) (by rw [Aa]; exact P1000 ha' (by decide)) (by rw [Ab]; exact P1000 hb' (by decide))
        simp only [I] at e5 e6
        rw [e5, Option.bind_some]
        simp only
        rw [e6, Option.bind_some]
      · rw [decide_eq_false ht]
        simp only [Bool.not_false, cond_true]
        by_cases hlt : e + bl a < f + bl b
        · have hx : a.natAbs * 2 ^ n < b.natAbs * 2 ^ m := two_lt ua' lb' (by omega)
          by_cases hp : 0 < a
          · have : 0 < b := by omega
            rw [decide_eq_true hlt, decide_eq_true (show 0 < sgn a 0 by omega)]
            have := qa hp; have := qb ‹0 < b›
            rw [sgn_lt (by omega)]; rfl
          · have : b < 0 := by omega
            rw [decide_eq_true hlt, decide_eq_false (show ¬ 0 < sgn a 0 by omega)]
            have := na (by omega); have := nb ‹b < 0›
            rw [sgn_gt (by omega)]; rfl
        · have hx : b.natAbs * 2 ^ m < a.natAbs * 2 ^ n := two_lt ub' la' (by omega)
          by_cases hp : 0 < a
          · have : 0 < b := by omega
            rw [decide_eq_false hlt, decide_eq_true (show 0 < sgn a 0 by omega)]
            have := qa hp; have := qb ‹0 < b›
            rw [sgn_gt (by omega)]; rfl
          · have : b < 0 := by omega
            rw [decide_eq_false hlt, decide_eq_false (show ¬ 0 < sgn a 0 by omega)]
            have := na (by omega); have := nb ‹b < 0›
            rw [sgn_lt (by omega)]; rfl
  · rw [decide_eq_false hs]
    simp only [Bool.not_false, cond_true]
    by_cases hlt : sgn a 0 < sgn b 0
    · rw [ct hlt, sgn_lt]
      rcases s1 with ⟨h, h1⟩ | ⟨h, h1⟩ | ⟨h, h1⟩ <;> rcases s2 with ⟨h', h2⟩ | ⟨h', h2⟩ | ⟨h', h2⟩ <;> first | omega | (have := na h1; rw [zb h2]; exact this) | (rw [za h1]; exact qb h2)
    · rw [cf hlt, sgn_gt]
      rcases s1 with ⟨h, h1⟩ | ⟨h, h1⟩ | ⟨h, h1⟩ <;> rcases s2 with ⟨h', h2⟩ | ⟨h', h2⟩ | ⟨h', h2⟩ <;> first | omega | (rw [za h1]; exact nb h2) | (have := qa h1; rw [zb h2]; exact this)

/-- Dyads of one exponent, x times 2 to e: how they are reckoned with. -/
theorem Yd_abs {x : Int} {k : Nat} (h : x.natAbs < P k) : (od x).natAbs < P k := Nat.lt_of_le_of_lt (od_abs x) h
theorem dyad_Neg_Yd {x e : Int} (h : x.natAbs < P 1000) : S.dyad_Neg (Yd x e, ()) = some (Yd (-x) e, ()) := by
  have e1 := whole_Neg_I (Yd_abs h)
  unfold Yd
  rw [od_neg, Int.natAbs_neg]
  simp only [I] at e1
  simp only [S.dyad_Neg, L.dyad_Neg, I, e1, Option.bind_some]
  by_cases h0 : x = 0
  · subst h0; rfl
  · rw [if_neg h0, if_neg (show -x ≠ 0 by omega)]
theorem od_nat (x : Int) : od (x.natAbs : Int) = ((od x).natAbs : Int) := by
  rcases Int.le_total 0 x with h | h
  · rw [show (x.natAbs : Int) = x by omega]
    have h1 := od_mul x
    have hp := two_pos (tzN x.natAbs)
    rcases Int.lt_or_le (od x) 0 with hn | hn
    · have := Int.mul_neg_of_neg_of_pos hn hp; omega
    · omega
  · rw [show (x.natAbs : Int) = -x by omega, od_neg]
    have h1 := od_mul x
    have hp := two_pos (tzN x.natAbs)
    rcases Int.lt_or_le 0 (od x) with hn | hn
    · have := Int.mul_pos hn hp; omega
    · omega
theorem dyad_Abs_Yd {x e : Int} (h : x.natAbs < P 1000) : S.dyad_Abs (Yd x e, ()) = some (Yd (x.natAbs : Int) e, ()) := by
  have e1 := whole_Abs_I (Yd_abs h)
  unfold Yd
  rw [od_nat, Int.natAbs_natCast]
  simp only [I] at e1
  simp only [S.dyad_Abs, L.dyad_Abs, I, e1, Option.bind_some]
  by_cases h0 : x = 0
  · subst h0; rfl
  · rw [if_neg h0, if_neg (show (x.natAbs : Int) ≠ 0 by omega)]
/-- What a dyad is made of. -/
theorem dyad_Make_Yd {x e : Int} {k : Nat} (hx : x.natAbs < P k) (hk : k ≤ 511) (h0 : -60000 ≤ e) (h1 : e ≤ 40000) : S.dyad_Make (I x, e, ()) = some (Yd x e, 0, ()) := by
  simp only [S.dyad_Make, L.dyad_Make]
  have hxk : x.natAbs < P 1000 := P1000 hx (by omega)
  have hx5 : x.natAbs < P 511 := Nat.lt_of_lt_of_le hx (P_mono hk)
  by_cases hz : x = 0
  · subst hz
    have e1 : S.limbs_Tail (D (Int.natAbs 0), ()) = some (0, ()) := rfl
    have e2 : S.whole_Right (I 0, ((0 : Nat) : Int), ()) = some (I (0 / 2 ^ 0), 0, ()) := whole_Right_I hx5 (by decide)
    have e3 := whole_Sign_I 0
    rw [Int.zero_ediv] at e2
    rw [Yd_zero]
    simp only [I] at e1 e2 e3 ⊢
    rw [e1, Option.bind_some]
    simp only
    rw [show (0 : Int) = ((0 : Nat) : Int) from rfl] at *
    rw [e2, Option.bind_some]
    simp only
    rw [e3, Option.bind_some]
    rfl
  · obtain ⟨t, ht, htail⟩ := Tail_D hxk (show x.natAbs ≠ 0 by omega)
    have htz := tzN_tail (show x.natAbs ≠ 0 by omega) htail
    have htl := tzN_lt hx
    have e2 := whole_Right_I (n := t) hx5 (by omega)
    have e3 := whole_Sign_I (od x)
    have hod : x / 2 ^ t = od x := by unfold od; rw [htz]
    have s1 := sgn0 (od x)
    have hne : od x ≠ 0 := fun h => hz (od_eq.1 h)
    rw [hod] at e2
    rw [Yd_ne hz, htz]
    simp only [I] at e2 e3 ⊢
    rw [ht, Option.bind_some]
    simp only
    rw [e2, Option.bind_some]
    simp only
    rw [e3, Option.bind_some]
    simp only
    rw [cf (by omega), cf (by omega), cf (by omega), wi64 (by omega) (by omega), cf (by omega)]
theorem level_Yd {x y e : Int} {k : Nat} (hx : x.natAbs < P k) (hy : y.natAbs < P k) (hk : k ≤ 510) (h0 : -60000 ≤ e) (h1 : e ≤ 40000) :
    ∃ x' y' f, S.dyad_level (Yd x e, Yd y e, ()) = some (I x', I y', f, 0, ()) ∧ x'.natAbs < P k ∧ y'.natAbs < P k ∧ ((∃ n : Nat, n ≤ 32 * k ∧ x = x' * 2 ^ n ∧ y = y' * 2 ^ n ∧ f = e + n) ∨ (x = 0 ∧ y = 0 ∧ x' = 0 ∧ y' = 0 ∧ f = 0)) := by
  by_cases hx0 : x = 0
  · subst hx0
    rw [Yd_zero]
    by_cases hy0 : y = 0
    · subst hy0
      rw [Yd_zero]
      exact ⟨0, 0, 0, level0, P_pos k, P_pos k, Or.inr ⟨rfl, rfl, rfl, rfl, rfl⟩⟩
    · rw [Yd_ne hy0]
      exact ⟨0, od y, _, level0, P_pos k, Yd_abs hy, Or.inl ⟨tzN y.natAbs, tzN_lt hy, by rw [Int.zero_mul], (od_mul y).symm, rfl⟩⟩
  · rw [Yd_ne hx0]
    have ox : od x ≠ 0 := fun h => hx0 (od_eq.1 h)
    by_cases hy0 : y = 0
    · subst hy0
      rw [Yd_zero]
      exact ⟨od x, 0, _, level1 ox, Yd_abs hx, P_pos k, Or.inl ⟨tzN x.natAbs, tzN_lt hx, (od_mul x).symm, by rw [Int.zero_mul], rfl⟩⟩
    · rw [Yd_ne hy0]
      have oy : od y ≠ 0 := fun h => hy0 (od_eq.1 h)
      have tx := tzN_lt hx
      have ty := tzN_lt hy
      have mx := od_mul x
      have my := od_mul y
      obtain ⟨n, hn⟩ : ∃ n : Nat, n = tzN x.natAbs - tzN y.natAbs := ⟨_, rfl⟩
      obtain ⟨m, hm⟩ : ∃ m : Nat, m = tzN y.natAbs - tzN x.natAbs := ⟨_, rfl⟩
      have key : ∀ (z : Int) (a b : Nat), a ≤ tzN z.natAbs → b = tzN z.natAbs - a → od z * 2 ^ a * 2 ^ b = z := by
        intro z a b h h'
        rw [Int.mul_assoc, ← Int.pow_add, show a + b = tzN z.natAbs by omega, od_mul]
      have size : ∀ (z : Int) (a : Nat), a ≤ tzN z.natAbs → (od z).natAbs * 2 ^ a ≤ z.natAbs := by
        intro z a h
        have := congrArg Int.natAbs (od_mul z)
        rw [Int.natAbs_mul, pow_cast, Int.natAbs_natCast] at this
        calc (od z).natAbs * 2 ^ a ≤ (od z).natAbs * 2 ^ tzN z.natAbs := Nat.mul_le_mul_left _ (Nat.pow_le_pow_right (by decide) h)
          _ = z.natAbs := this
      have sx := Nat.lt_of_le_of_lt (size x n (by omega)) hx
      have sy := Nat.lt_of_le_of_lt (size y m (by omega)) hy
      have k5 : P k ≤ P 512 := P_mono (by omega)
      refine ⟨od x * 2 ^ n, od y * 2 ^ m, _, level2 (n := n) (m := m) ox oy (by omega) (by omega) (Nat.lt_of_lt_of_le (Yd_abs hx) k5) (Nat.lt_of_lt_of_le (Yd_abs hy) k5) (Nat.lt_of_lt_of_le sx k5) (Nat.lt_of_lt_of_le sy k5) (by omega) (by omega) (by omega) (by omega) (by omega) (by omega), ?_, ?_, Or.inl ⟨min (tzN x.natAbs) (tzN y.natAbs), by omega, (key x n _ (by omega) (by omega)).symm, (key y m _ (by omega) (by omega)).symm, by omega⟩⟩
      · rw [Int.natAbs_mul, pow_cast, Int.natAbs_natCast]; exact sx
      · rw [Int.natAbs_mul, pow_cast, Int.natAbs_natCast]; exact sy
theorem dyad_Compare_Yd {x y e : Int} {k : Nat} (hx : x.natAbs < P k) (hy : y.natAbs < P k) (hk : k ≤ 510) (h0 : -60000 ≤ e) (h1 : e ≤ 40000) : S.dyad_Compare (Yd x e, Yd y e, ()) = some (sgn x y, ()) := by
  have k5 : P k ≤ P 512 := P_mono (by omega)
  have tx := tzN_lt hx
  have ty := tzN_lt hy
  have ax := Nat.lt_of_lt_of_le (Yd_abs hx) k5
  have ay := Nat.lt_of_lt_of_le (Yd_abs hy) k5
  obtain ⟨p, hp⟩ : ∃ p, (if x = 0 then 0 else e + tzN x.natAbs : Int) = p := ⟨_, rfl⟩
  obtain ⟨q, hq⟩ : ∃ q, (if y = 0 then 0 else e + tzN y.natAbs : Int) = q := ⟨_, rfl⟩
  unfold Yd
  rw [hp, hq]
  have bp : -500000 ≤ p ∧ p ≤ 500000 := by rw [← hp]; split <;> omega
  have bq : -500000 ≤ q ∧ q ≤ 500000 := by rw [← hq]; split <;> omega
  obtain ⟨n, hn⟩ : ∃ n : Nat, p = min p q + n := ⟨(p - min p q).toNat, by omega⟩
  obtain ⟨m, hm⟩ : ∃ m : Nat, q = min p q + m := ⟨(q - min p q).toNat, by omega⟩
  rw [dyad_Compare_gen ax ay (by omega) (by omega) (by omega) (by omega) hn hm]
  have mx := od_mul x
  have my := od_mul y
  have pn := two_pos n
  have pm := two_pos m
  by_cases hx0 : x = 0
  · subst hx0
    rw [od_zero, Int.zero_mul]
    have h1 : sgn (0 * 2 ^ m) (od y * 2 ^ m) = sgn 0 (od y) := sgn_mul pm
    have h2 : sgn (0 * 2 ^ tzN y.natAbs) (od y * 2 ^ tzN y.natAbs) = sgn 0 (od y) := sgn_mul (two_pos _)
    rw [Int.zero_mul] at h1 h2
    rw [h1, ← h2, my]
  · by_cases hy0 : y = 0
    · subst hy0
      rw [od_zero, Int.zero_mul]
      have h1 : sgn (od x * 2 ^ n) (0 * 2 ^ n) = sgn (od x) 0 := sgn_mul pn
      have h2 : sgn (od x * 2 ^ tzN x.natAbs) (0 * 2 ^ tzN x.natAbs) = sgn (od x) 0 := sgn_mul (two_pos _)
      rw [Int.zero_mul] at h1 h2
      rw [h1, ← h2, mx]
    · rw [if_neg hx0] at hp
      rw [if_neg hy0] at hq
      obtain ⟨r, hr⟩ : ∃ r : Nat, r = min (tzN x.natAbs) (tzN y.natAbs) := ⟨_, rfl⟩
      have hx' : od x * 2 ^ n * 2 ^ r = x := by rw [Int.mul_assoc, ← Int.pow_add, show n + r = tzN x.natAbs by omega, mx]
      have hy' : od y * 2 ^ m * 2 ^ r = y := by rw [Int.mul_assoc, ← Int.pow_add, show m + r = tzN y.natAbs by omega, my]
      rw [← sgn_mul (two_pos r), hx', hy']
/-- dyad.Less -/
def dyad_Less (a : (Bool × (List Int) × Unit) × Int × Unit) (b : (Bool × (List Int) × Unit) × Int × Unit) : Option (Bool × Unit) :=
  (S.dyad_Compare (((a.1.1, a.1.2.1, ()), a.2.1, ()), ((b.1.1, b.1.2.1, ()), b.2.1, ()), ())).bind fun z1 =>
  some (decide (z1.1 < 0), ())

def S.dyad_Less (x : DY × DY × Unit) : Option (Bool × Unit) := L.dyad_Less x.1 x.2.1
/-- dyad.own -/
def dyad_own (a : (Bool × (List Int) × Unit) × Int × Unit) : Option (((Bool × (List Int) × Unit) × Int × Unit) × Unit) :=
  (S.slices_Clone_api_Nat_uint32 (a.1.2.1, ())).bind fun z1 =>
  some (((a.1.1, z1.1, ()), a.2.1, ()), ())

def S.dyad_own (x : DY × Unit) : Option (DY × Unit) := L.dyad_own x.1
/-- dyad.Max -/
def dyad_Max (a : (Bool × (List Int) × Unit) × Int × Unit) (b : (Bool × (List Int) × Unit) × Int × Unit) : Option (((Bool × (List Int) × Unit) × Int × Unit) × Unit) :=
  (S.dyad_Less (((a.1.1, a.1.2.1, ()), a.2.1, ()), ((b.1.1, b.1.2.1, ()), b.2.1, ()), ())).bind fun z1 =>
  cond (z1.1)
   (
   (S.dyad_own (((b.1.1, b.1.2.1, ()), b.2.1, ()), ())).bind fun z2 =>
   some (((z2.1.1.1, z2.1.1.2.1, ()), z2.1.2.1, ()), ()))
   (
   (S.dyad_own (((a.1.1, a.1.2.1, ()), a.2.1, ()), ())).bind fun z3 =>
   some (((z3.1.1.1, z3.1.1.2.1, ()), z3.1.2.1, ()), ()))

def S.dyad_Max (x : DY × DY × Unit) : Option (DY × Unit) := L.dyad_Max x.1 x.2.1
/-- dyad.Min -/
def dyad_Min (a : (Bool × (List Int) × Unit) × Int × Unit) (b : (Bool × (List Int) × Unit) × Int × Unit) : Option (((Bool × (List Int) × Unit) × Int × Unit) × Unit) :=
  (S.dyad_Less (((b.1.1, b.1.2.1, ()), b.2.1, ()), ((a.1.1, a.1.2.1, ()), a.2.1, ()), ())).bind fun z1 =>
  cond (z1.1)
   (
   (S.dyad_own (((b.1.1, b.1.2.1, ()), b.2.1, ()), ())).bind fun z2 =>
   some (((z2.1.1.1, z2.1.1.2.1, ()), z2.1.2.1, ()), ()))
   (
   (S.dyad_own (((a.1.1, a.1.2.1, ()), a.2.1, ()), ())).bind fun z3 =>
   some (((z3.1.1.1, z3.1.1.2.1, ()), z3.1.2.1, ()), ()))

def S.dyad_Min (x : DY × DY × Unit) : Option (DY × Unit) := L.dyad_Min x.1 x.2.1
/-- dyad.Add -/
def dyad_Add (a : (Bool × (List Int) × Unit) × Int × Unit) (b : (Bool × (List Int) × Unit) × Int × Unit) : Option (((Bool × (List Int) × Unit) × Int × Unit) × Int × Unit) :=
  (S.dyad_level (((a.1.1, a.1.2.1, ()), a.2.1, ()), ((b.1.1, b.1.2.1, ()), b.2.1, ()), ())).bind fun z1 =>
  cond (!(decide (z1.2.2.2.1 = 0))) (some (((false, [], ()), 0, ()), z1.2.2.2.1, ()))
   (
   (S.whole_Add ((z1.1.1, z1.1.2.1, ()), (z1.2.1.1, z1.2.1.2.1, ()), ())).bind fun z2 =>
   cond (!(decide (z2.2.1 = 0))) (some (((false, [], ()), 0, ()), z2.2.1, ()))
   (
   (S.dyad_Make ((z2.1.1, z2.1.2.1, ()), z1.2.2.1, ())).bind fun z3 =>
   some (((z3.1.1.1, z3.1.1.2.1, ()), z3.1.2.1, ()), z3.2.1, ())))

def S.dyad_Add (x : DY × DY × Unit) : Option (DY × Int × Unit) := L.dyad_Add x.1 x.2.1
/-- dyad.Mul -/
def dyad_Mul (a : (Bool × (List Int) × Unit) × Int × Unit) (b : (Bool × (List Int) × Unit) × Int × Unit) : Option (((Bool × (List Int) × Unit) × Int × Unit) × Int × Unit) :=
  (S.whole_Mul ((a.1.1, a.1.2.1, ()), (b.1.1, b.1.2.1, ()), ())).bind fun z1 =>
  cond (!(decide (z1.2.1 = 0))) (some (((false, [], ()), 0, ()), z1.2.1, ()))
   (
   (S.dyad_Make ((z1.1.1, z1.1.2.1, ()), (IntKind.i64.wrap (a.2.1 + b.2.1)), ())).bind fun z3 =>
   some (((z3.1.1.1, z3.1.1.2.1, ()), z3.1.2.1, ()), z3.2.1, ()))

def S.dyad_Mul (x : DY × DY × Unit) : Option (DY × Int × Unit) := L.dyad_Mul x.1 x.2.1
theorem Yd_eta (x e : Int) : Yd x e = (((Yd x e).1.1, (Yd x e).1.2.1, ()), (Yd x e).2.1, ()) := rfl
theorem dyad_Less_Yd {x y e : Int} {k : Nat} (hx : x.natAbs < P k) (hy : y.natAbs < P k) (hk : k ≤ 510) (h0 : -60000 ≤ e) (h1 : e ≤ 40000) : S.dyad_Less (Yd x e, Yd y e, ()) = some (decide (x < y), ()) := by
  have h := dyad_Compare_Yd hx hy hk h0 h1
  rw [Yd_eta x, Yd_eta y] at h
  simp only [S.dyad_Less, L.dyad_Less]
  rw [h, Option.bind_some]
  simp only
  congr 2
  exact decide_eq_decide.2 (sgn_neg0 x y)
theorem dyad_own_Yd {x e : Int} (hx : x.natAbs < P 1000) : S.dyad_own (Yd x e, ()) = some (Yd x e, ()) := by
  have h := Clone_D (Yd_abs hx)
  simp only [S.dyad_own, L.dyad_own, Yd, I, h, Option.bind_some]
theorem dyad_Max_Yd {x y e : Int} {k : Nat} (hx : x.natAbs < P k) (hy : y.natAbs < P k) (hk : k ≤ 510) (h0 : -60000 ≤ e) (h1 : e ≤ 40000) : S.dyad_Max (Yd x e, Yd y e, ()) = some (Yd (max x y) e, ()) := by
  have h := dyad_Less_Yd hx hy hk h0 h1
  have h2 := dyad_own_Yd (e := e) (P1000 hx (by omega))
  have h3 := dyad_own_Yd (e := e) (P1000 hy (by omega))
  rw [Yd_eta x, Yd_eta y] at h
  rw [Yd_eta x] at h2
  rw [Yd_eta y] at h3
  simp only [S.dyad_Max, L.dyad_Max]
  rw [h, Option.bind_some]
  simp only
  by_cases hc : x < y
  · rw [ct hc, h3, Option.bind_some, show max x y = y by omega]
  · rw [cf hc, h2, Option.bind_some, show max x y = x by omega]
theorem dyad_Min_Yd {x y e : Int} {k : Nat} (hx : x.natAbs < P k) (hy : y.natAbs < P k) (hk : k ≤ 510) (h0 : -60000 ≤ e) (h1 : e ≤ 40000) : S.dyad_Min (Yd x e, Yd y e, ()) = some (Yd (min x y) e, ()) := by
  have h := dyad_Less_Yd hy hx hk h0 h1
  have h2 := dyad_own_Yd (e := e) (P1000 hx (by omega))
  have h3 := dyad_own_Yd (e := e) (P1000 hy (by omega))
  rw [Yd_eta x, Yd_eta y] at h
  rw [Yd_eta x] at h2
  rw [Yd_eta y] at h3
  simp only [S.dyad_Min, L.dyad_Min]
  rw [h, Option.bind_some]
  simp only
  by_cases hc : y < x
  · rw [ct hc, h3, Option.bind_some, show min x y = y by omega]
  · rw [cf hc, h2, Option.bind_some, show min x y = x by omega]
theorem Yd_Make {x e : Int} {k : Nat} (hx : x.natAbs < P k) (hk : k ≤ 511) (h0 : -60000 ≤ e) (h1 : e ≤ 40000) : S.dyad_Make ((decide (x < 0), D x.natAbs, ()), e, ()) = some (((Yd x e).1, (Yd x e).2.1, ()), 0, ()) := dyad_Make_Yd hx hk h0 h1
theorem dyad_Add_Yd {x y e : Int} {k : Nat} (hx : x.natAbs < P k) (hy : y.natAbs < P k) (hk : k ≤ 500) (h0 : -60000 ≤ e) (h1 : e ≤ 20000) : S.dyad_Add (Yd x e, Yd y e, ()) = some (Yd (x + y) e, 0, ()) := by
  obtain ⟨x', y', f, hl, bx, by', hc⟩ := level_Yd hx hy (by omega) h0 (by omega)
  rw [Yd_eta x, Yd_eta y] at hl
  have e2 := whole_Add_I bx by' (by omega)
  have hs : (x' + y').natAbs < P (k + 1) := nA_add bx by'
  have e3 : S.dyad_Make (I (x' + y'), f, ()) = some (Yd (x' + y') f, 0, ()) := by
    apply dyad_Make_Yd hs (by omega) <;> rcases hc with ⟨n, _, _, _, h⟩ | ⟨_, _, _, _, h⟩ <;> omega
  have e4 : Yd (x' + y') f = Yd (x + y) e := by
    rcases hc with ⟨n, _, h1, h2, h3⟩ | ⟨h1, h2, h3, h4, _⟩
    · rw [h1, h2, ← Int.add_mul, Yd_scale, h3]
    · rw [h1, h2, h3, h4, Int.add_zero, Yd_zero, Yd_zero]
  rw [e4] at e3
  simp only [I] at hl e2 e3
  simp only [S.dyad_Add, L.dyad_Add]
  rw [hl, Option.bind_some]
  simp only [decide_true, Bool.not_true, cond_false]
  rw [e2, Option.bind_some]
  simp only [decide_true, Bool.not_true, cond_false]
  rw [e3, Option.bind_some]
theorem dyad_Mul_Yd {x y e f : Int} {j k : Nat} (hx : x.natAbs < P j) (hy : y.natAbs < P k) (hk : j + k ≤ 500) (h0 : -30000 ≤ e) (h1 : e ≤ 10000) (h2 : -30000 ≤ f) (h3 : f ≤ 10000) : S.dyad_Mul (Yd x e, Yd y f, ()) = some (Yd (x * y) (e + f), 0, ()) := by
  have e1 := whole_Mul_I (Yd_abs hx) (Yd_abs hy) (by omega)
  have hm : (od x * od y).natAbs < P (j + k) := nA_mul (Yd_abs hx) (Yd_abs hy)
  have tx := tzN_lt hx
  have ty := tzN_lt hy
  obtain ⟨p, hp⟩ : ∃ p, (if x = 0 then 0 else e + tzN x.natAbs : Int) = p := ⟨_, rfl⟩
  obtain ⟨q, hq⟩ : ∃ q, (if y = 0 then 0 else f + tzN y.natAbs : Int) = q := ⟨_, rfl⟩
  have bp : -30000 ≤ p ∧ p ≤ 26100 := by rw [← hp]; split <;> omega
  have bq : -30000 ≤ q ∧ q ≤ 26100 := by rw [← hq]; split <;> omega
  have bpq : p + q ≤ 40000 := by rw [← hp, ← hq]; split <;> split <;> omega
  have e2 := dyad_Make_Yd (e := p + q) hm (by omega) (by omega) (by omega)
  have e4 : Yd (od x * od y) (p + q) = Yd (x * y) (e + f) := by
    by_cases hx0 : x = 0
    · subst hx0; rw [od_zero, Int.zero_mul, Int.zero_mul, Yd_zero, Yd_zero]
    · by_cases hy0 : y = 0
      · subst hy0; rw [od_zero, Int.mul_zero, Int.mul_zero, Yd_zero, Yd_zero]
      · rw [if_neg hx0] at hp
        rw [if_neg hy0] at hq
        have : x * y = od x * od y * 2 ^ (tzN x.natAbs + tzN y.natAbs) := by
          have h1 := od_mul x
          have h2 := od_mul y
          rw [Int.pow_add]
          calc x * y = (od x * 2 ^ tzN x.natAbs) * (od y * 2 ^ tzN y.natAbs) := by rw [h1, h2]
            _ = _ := by simp only [Int.mul_assoc, Int.mul_left_comm, Int.mul_comm]
        rw [this, Yd_scale, show e + f + ((tzN x.natAbs + tzN y.natAbs : Nat) : Int) = p + q by omega]
  rw [e4] at e2
  unfold Yd
  rw [hp, hq]
  simp only [I] at e1 e2
  simp only [S.dyad_Mul, L.dyad_Mul, I]
  rw [e1, Option.bind_some]
  simp only [decide_true, Bool.not_true, cond_false]
  rw [wi64 (by omega) (by omega), e2, Option.bind_some]
  rfl
end Go.L

/-! ZC -/
namespace Go.L
open Go.PM
set_option exponentiation.threshold 20000
set_option linter.unusedVariables false
set_option linter.unusedSimpArgs false

/-- A number, rounded down to so many bits. -/
def rdn (x : Int) (b : Nat) : Int := x / 2 ^ (bl x - b) * 2 ^ (bl x - b)
def rup (x : Int) (b : Nat) : Int := -rdn (-x) b
def rnd (up : Bool) (x : Int) (b : Nat) : Int := bif up then rup x b else rdn x b
/-- A number of so many bits, times a power of 2. -/
def few (b : Nat) (z : Int) : Prop := ∃ (m : Int) (j : Nat), z = m * 2 ^ j ∧ m.natAbs ≤ 2 ^ b
theorem bl_neg (x : Int) : bl (-x) = bl x := by
  unfold bl
  rw [Int.natAbs_neg]
  by_cases h : x = 0
  · subst h; rfl
  · rw [if_neg h, if_neg (by omega)]
theorem rdn_le (x : Int) (b : Nat) : rdn x b ≤ x := by
  unfold rdn
  have := Int.ediv_mul_le x (Int.ne_of_gt (two_pos (bl x - b)))
  exact this
theorem rdn_same {x : Int} {b : Nat} (h : bl x ≤ b) : rdn x b = x := by
  unfold rdn
  rw [show bl x - b = 0 by omega]; simp
theorem rup_ge (x : Int) (b : Nat) : x ≤ rup x b := by
  unfold rup; have := rdn_le (-x) b; omega
theorem rup_same {x : Int} {b : Nat} (h : bl x ≤ b) : rup x b = x := by
  unfold rup; rw [rdn_same (by rw [bl_neg]; exact h)]; omega
theorem int_pow_le {a b : Nat} (h : a ≤ b) : (2 : Int) ^ a ≤ 2 ^ b := by
  rw [pow_cast, pow_cast]; exact Int.ofNat_le.2 (Nat.pow_le_pow_right (by decide) h)
theorem bl_int_hi (x : Int) : x < 2 ^ bl x ∧ -(2 ^ bl x : Int) < x := by
  have := bl_hi x
  rw [pow_cast]; omega
theorem bl_int_lo {x : Int} (h : x ≠ 0) : 2 ^ (bl x - 1) ≤ x ∨ x ≤ -(2 ^ (bl x - 1) : Int) := by
  have := (bl_lo h).1
  rw [pow_cast]; omega
theorem rdn_lo (x : Int) (b : Nat) : -(2 ^ bl x : Int) ≤ rdn x b := by
  by_cases hb : bl x ≤ b
  · rw [rdn_same hb]; have := bl_int_hi x; omega
  · unfold rdn
    have h1 := bl_int_hi x
    have hs : (2 : Int) ^ bl x = 2 ^ b * 2 ^ (bl x - b) := by rw [← Int.pow_add]; congr 1; omega
    have h2 : -(2 ^ b : Int) ≤ x / 2 ^ (bl x - b) := by
      rw [Int.le_ediv_iff_mul_le (two_pos _), Int.neg_mul, ← hs]; omega
    have := Int.mul_le_mul_of_nonneg_right h2 (Int.le_of_lt (two_pos (bl x - b)))
    rw [Int.neg_mul, ← hs] at this
    exact this
theorem rdn_abs {x : Int} {b k : Nat} (h : x.natAbs < P k) : (rdn x b).natAbs < P (k + 1) := by
  have h1 := rdn_le x b
  have h2 := rdn_lo x b
  have h3 := bl_P h
  have h4 := bl_int_hi x
  have h5 : (2 : Int) ^ bl x ≤ 2 ^ (32 * k) := int_pow_le h3
  have h6 : ((P k : Nat) : Int) = 2 ^ (32 * k) := by rw [P_two, pow_cast]
  rw [P_succ]
  omega
theorem rup_abs {x : Int} {b k : Nat} (h : x.natAbs < P k) : (rup x b).natAbs < P (k + 1) := by
  unfold rup; rw [Int.natAbs_neg]; exact rdn_abs (by rw [Int.natAbs_neg]; exact h)
theorem rdn_few (x : Int) (b : Nat) : few b (rdn x b) := by
  refine ⟨x / 2 ^ (bl x - b), bl x - b, rfl, ?_⟩
  by_cases hb : bl x ≤ b
  · rw [show bl x - b = 0 by omega]
    have := bl_hi x
    have h2 : 2 ^ bl x ≤ 2 ^ b := Nat.pow_le_pow_right (by decide) hb
    simp; omega
  · have h1 := bl_int_hi x
    have hs : (2 : Int) ^ bl x = 2 ^ b * 2 ^ (bl x - b) := by rw [← Int.pow_add]; congr 1; omega
    have h2 : -(2 ^ b : Int) ≤ x / 2 ^ (bl x - b) := by
      rw [Int.le_ediv_iff_mul_le (two_pos _), Int.neg_mul, ← hs]; omega
    have h3 : x / 2 ^ (bl x - b) < 2 ^ b := by
      rw [Int.ediv_lt_iff_lt_mul (two_pos _), ← hs]; omega
    rw [pow_cast b] at h2 h3
    omega
theorem few_neg {b : Nat} {z : Int} (h : few b z) : few b (-z) := by
  obtain ⟨m, j, rfl, hm⟩ := h
  exact ⟨-m, j, by rw [Int.neg_mul], by rw [Int.natAbs_neg]; exact hm⟩
/-- Of numbers of so many bits none is between a number and the number rounded down. -/
theorem rdn_max {x z : Int} {b : Nat} (hb : 1 ≤ b) (hf : few b z) (h : z ≤ x) : z ≤ rdn x b := by
  by_cases h0 : bl x ≤ b
  · rw [rdn_same h0]; exact h
  have hx0 : x ≠ 0 := by intro e; subst e; exact h0 (by simp [bl])
  obtain ⟨m, j, rfl, hm⟩ := hf
  have hp := two_pos (bl x - b)
  have mult : ∀ c : Int, c * 2 ^ (bl x - b) ≤ x → c * 2 ^ (bl x - b) ≤ rdn x b := by
    intro c hc
    unfold rdn
    exact Int.mul_le_mul_of_nonneg_right ((Int.le_ediv_iff_mul_le hp).2 hc) (Int.le_of_lt hp)
  by_cases hj : bl x - b ≤ j
  · obtain ⟨d, rfl⟩ : ∃ d, j = d + (bl x - b) := ⟨j - (bl x - b), by omega⟩
    rw [Int.pow_add, ← Int.mul_assoc] at h ⊢
    exact mult _ h
  · have e1 : (2 : Int) ^ (bl x - 1) = 2 ^ (b - 1) * 2 ^ (bl x - b) := by rw [← Int.pow_add]; congr 1; omega
    have hz : m * 2 ^ j ≤ 2 ^ (bl x - 1) ∧ -(2 ^ (bl x - 1) : Int) ≤ m * 2 ^ j := by
      have h1 : m ≤ 2 ^ b ∧ -(2 ^ b : Int) ≤ m := by rw [pow_cast]; omega
      have hpj := Int.le_of_lt (two_pos j)
      have h2 := Int.mul_le_mul_of_nonneg_right h1.1 hpj
      have h3 := Int.mul_le_mul_of_nonneg_right h1.2 hpj
      rw [Int.neg_mul, ← Int.pow_add] at h3
      rw [← Int.pow_add] at h2
      have h4 : (2 : Int) ^ (b + j) ≤ 2 ^ (bl x - 1) := int_pow_le (by omega)
      omega
    rcases bl_int_lo hx0 with hlo | hlo
    · have := mult (2 ^ (b - 1)) (by rw [← e1]; exact hlo)
      rw [← e1] at this
      omega
    · have hx : x = -(2 ^ (bl x - 1) : Int) := by omega
      have := mult (-(2 ^ (b - 1))) (by rw [Int.neg_mul, ← e1]; omega)
      rw [Int.neg_mul, ← e1] at this
      omega
theorem rup_min {x z : Int} {b : Nat} (hb : 1 ≤ b) (hf : few b z) (h : x ≤ z) : rup x b ≤ z := by
  unfold rup
  have := rdn_max (x := -x) (z := -z) hb (few_neg hf) (by omega)
  omega
theorem bl_od {x : Int} (h : x ≠ 0) : bl x = bl (od x) + tzN x.natAbs := by
  have h1 := od_mul x
  have h2 := bl_scale (x := od x) (fun e => h (od_eq.1 e)) (tzN x.natAbs)
  rw [h1] at h2
  exact h2
theorem rdn_Yd {x e : Int} {b : Nat} {v : Nat} (h0 : x ≠ 0) (hv : bl x = v + b + tzN x.natAbs) : Yd (od x / 2 ^ v) (e + tzN x.natAbs + v) = Yd (rdn x b) e := by
  unfold rdn
  rw [show bl x - b = tzN x.natAbs + v by omega, Yd_scale]
  have h1 : x / 2 ^ (tzN x.natAbs + v) = od x / 2 ^ v := by
    rw [Int.pow_add, ← Int.ediv_ediv_of_nonneg (Int.le_of_lt (two_pos _))]; rfl
  rw [h1]
  congr 1
  omega
/-- dyad.Round -/
def dyad_Round (a : (Bool × (List Int) × Unit) × Int × Unit) (bits : Int) (up : Bool) : Option (((Bool × (List Int) × Unit) × Int × Unit) × Int × Unit) :=
  cond (decide (bits < 2)) (some (((false, [], ()), 0, ()), 1, ()))
   (
   cond (decide (4096 < bits)) (some (((false, [], ()), 0, ()), 1, ()))
   (
   (S.limbs_Bits (a.1.2.1, ())).bind fun z1 =>
   let z2 := IntKind.i64.wrap (z1.1 - bits)
   cond (decide (z2 ≤ 0)) (some (((a.1.1, a.1.2.1, ()), a.2.1, ()), 0, ()))
   (
   (S.whole_Right ((a.1.1, a.1.2.1, ()), z2, ())).bind fun z3 =>
   cond (up)
   (
   (S.whole_Neg ((a.1.1, a.1.2.1, ()), ())).bind fun z4 =>
   (S.whole_Right ((z4.1.1, z4.1.2.1, ()), z2, ())).bind fun z5 =>
   (S.whole_Neg ((z5.1.1, z5.1.2.1, ()), ())).bind fun z6 =>
   (S.dyad_Make ((z6.1.1, z6.1.2.1, ()), (IntKind.i64.wrap (a.2.1 + z2)), ())).bind fun z8 =>
   some (((z8.1.1.1, z8.1.1.2.1, ()), z8.1.2.1, ()), z8.2.1, ()))
   (
   (S.dyad_Make ((z3.1.1, z3.1.2.1, ()), (IntKind.i64.wrap (a.2.1 + z2)), ())).bind fun z10 =>
   some (((z10.1.1.1, z10.1.1.2.1, ()), z10.1.2.1, ()), z10.2.1, ())))))

def S.dyad_Round (x : DY × Int × Bool × Unit) : Option (DY × Int × Unit) := L.dyad_Round x.1 x.2.1 x.2.2.1
theorem dyad_Round_Yd {x e : Int} {b k : Nat} {up : Bool} (hx : x.natAbs < P k) (hk : k ≤ 500) (h0 : -60000 ≤ e) (h1 : e ≤ 20000) (hb : 2 ≤ b) (hb' : b ≤ 4096) : S.dyad_Round (Yd x e, (b : Int), up, ()) = some (Yd (rnd up x b) e, 0, ()) := by
  have hax := Yd_abs hx
  have hB := Bits_I (x := od x) (P1000 hax (by omega))
  have hbl := bl_P hx
  by_cases hx0 : x = 0
  · subst hx0
    have hr : rnd up 0 b = 0 := by
      cases up
      · exact rdn_same (by simp [bl])
      · exact rup_same (by simp [bl])
    rw [hr, Yd_zero]
    have hB : S.limbs_Bits (D (Int.natAbs 0), ()) = some (((bl 0 : Nat) : Int), ()) := Bits_I (x := 0) (P_pos 1000)
    simp only [I, S.dyad_Round, L.dyad_Round]
    rw [cf (by omega), cf (by omega), hB, Option.bind_some]
    simp only [show bl 0 = 0 by simp [bl]]
    rw [wi64 (by omega) (by omega), ct (by omega)]
  have hbo := bl_od hx0
  rw [Yd_ne hx0]
  simp only [I, S.dyad_Round, L.dyad_Round]
  rw [cf (by omega), cf (by omega), hB, Option.bind_some]
  simp only
  rw [wi64 (x := (bl (od x) : Int) - b) (by omega) (by omega)]
  by_cases ho : bl (od x) ≤ b
  · rw [ct (by omega)]
    have hr : rnd up x b = x := by
      have hd : ∀ y : Int, y ≠ 0 → bl (od y) ≤ b → rdn y b = y := by
        intro y hy hyb
        have h2 := bl_od hy
        unfold rdn
        have h3 := od_mul y
        apply Int.ediv_mul_cancel
        refine Int.dvd_trans ⟨2 ^ (tzN y.natAbs - (bl y - b)), ?_⟩ ⟨od y, by rw [Int.mul_comm]; exact h3.symm⟩
        rw [← Int.pow_add]; congr 1; omega
      cases up
      · exact hd x hx0 ho
      · show rup x b = x
        unfold rup
        rw [hd (-x) (by omega) (by rw [od_neg, bl_neg]; exact ho)]; omega
    rw [hr, Yd_ne hx0]
  · rw [cf (by omega)]
    obtain ⟨v, hv⟩ : ∃ v : Nat, (bl (od x) : Int) - b = v := ⟨bl (od x) - b, by omega⟩
    rw [hv]
    have ax5 : (od x).natAbs < P 511 := Nat.lt_of_lt_of_le hax (P_mono (by omega))
    have hdiv : ∀ z : Int, z.natAbs < P 511 → (z / 2 ^ v).natAbs < P 511 := by
      intro z hz
      have hp := two_pos v
      have h1 : 1 ≤ (2 : Int) ^ v := hp
      have : (z / 2 ^ v).natAbs ≤ z.natAbs := by
        rw [pow_cast]
        rcases Int.le_total 0 z with h | h
        · rw [Int.natAbs_ediv_of_nonneg h, Int.natAbs_natCast]; exact Nat.div_le_self _ _
        · have h2 : z ≤ z / ((2 ^ v : Nat) : Int) := by
            rw [Int.le_ediv_iff_mul_le (by rw [← pow_cast]; exact hp), ← pow_cast]
            have := Int.mul_le_mul_of_nonpos_left h h1
            omega
          have h3 : z / ((2 ^ v : Nat) : Int) ≤ 0 := by
            have := Int.ediv_le_ediv (c := ((2 ^ v : Nat) : Int)) (by rw [← pow_cast]; exact hp) h
            simpa using this
          omega
      omega
    have e2 := whole_Right_I (n := v) ax5 (by omega)
    have hbo' : bl x = v + b + tzN x.natAbs := by omega
    cases up
    · have e3 := Yd_Make (e := e + tzN x.natAbs + v) (hdiv _ ax5) (by decide) (by omega) (by omega)
      rw [rdn_Yd hx0 hbo'] at e3
      simp only [I] at e2
      rw [e2, Option.bind_some]
      simp only [cond_false]
      rw [wi64 (by omega) (by omega), e3, Option.bind_some]
      rfl
    · have e4 := whole_Neg_I (z := od x) (P1000 hax (by omega))
      have an : (-od x).natAbs < P 511 := by rw [Int.natAbs_neg]; exact ax5
      have e5 := whole_Right_I (n := v) an (by omega)
      have ad := hdiv _ an
      have e6 := whole_Neg_I (z := -od x / 2 ^ v) (P1000 ad (by decide))
      have an2 : (-(-od x / 2 ^ v)).natAbs < P 511 := by rw [Int.natAbs_neg]; exact ad
      have e3 := Yd_Make (e := e + tzN x.natAbs + v) an2 (by decide) (by omega) (by omega)
      have key : Yd (-(-od x / 2 ^ v)) (e + tzN x.natAbs + v) = Yd (rup x b) e := by
        unfold rup rdn
        rw [bl_neg, show bl x - b = tzN x.natAbs + v by omega, ← Int.neg_mul, Yd_scale]
        have h1 : -x / 2 ^ (tzN x.natAbs + v) = -od x / 2 ^ v := by
          have : -x / 2 ^ tzN x.natAbs = -od x := by
            have := od_neg x
            unfold od at this
            rw [Int.natAbs_neg] at this
            exact this
          rw [Int.pow_add, ← Int.ediv_ediv_of_nonneg (Int.le_of_lt (two_pos _)), this]
        rw [h1]
        congr 1
        omega
      rw [key] at e3
      simp only [I] at e2 e4 e5 e6
      rw [e2, Option.bind_some]
      simp only [cond_true]
      rw [e4, Option.bind_some]
      simp only
      rw [e5, Option.bind_some]
      simp only
      rw [e6, Option.bind_some]
      simp only
      rw [wi64 (by omega) (by omega), e3, Option.bind_some]
      rfl
end Go.L

/-! ZD -/
namespace Go.L
open Go.PM
set_option exponentiation.threshold 20000
set_option linter.unusedVariables false
set_option linter.unusedSimpArgs false

abbrev SP := DY × DY × Unit
abbrev RT := (Bool × List Int × Unit) × List Int × Unit
abbrev rt0 : RT := ((false, [], ()), [], ())
abbrev dy0 : DY := ((false, [], ()), 0, ())
abbrev sp0 : SP := (dy0, dy0, ())
/-- A span of two dyads of one exponent. -/
abbrev Sp (l h e : Int) : SP := (Yd l e, Yd h e, ())
/-- How big a span's numbers are. -/
abbrev lt2 (l h : Int) (k : Nat) : Prop := l.natAbs < P k ∧ h.natAbs < P k
/-- The value of a dyad. -/
def dv (x e : Int) : Rat := (x : Rat) * (2 : Rat) ^ e
theorem tw_pos (e : Int) : (0 : Rat) < (2 : Rat) ^ e := Rat.zpow_pos (by decide)
theorem two_ne : (2 : Rat) ≠ 0 := by decide
theorem tw_nat (n : Nat) : (2 : Rat) ^ (n : Int) = ((2 ^ n : Int) : Rat) := by
  rw [Rat.zpow_natCast, Rat.intCast_pow]; rfl
theorem dv_scale (x e : Int) (n : Nat) : dv (x * 2 ^ n) e = dv x (e + n) := by
  unfold dv
  rw [Rat.zpow_add two_ne, tw_nat, Rat.intCast_mul, Rat.mul_assoc, Rat.mul_comm (2 ^ e)]
theorem dv_zero (e : Int) : dv 0 e = 0 := by unfold dv; simp
theorem dv_lt {x y e : Int} : dv x e < dv y e ↔ x < y := by
  unfold dv
  constructor
  · intro h
    rcases Int.lt_or_le x y with h' | h'
    · exact h'
    · exfalso
      have := Rat.mul_le_mul_of_nonneg_right (Rat.intCast_le_intCast.2 h') (Rat.le_of_lt (tw_pos e))
      grind
  · intro h; exact Rat.mul_lt_mul_of_pos_right (Rat.intCast_lt_intCast.2 h) (tw_pos e)
theorem dv_le {x y e : Int} : dv x e ≤ dv y e ↔ x ≤ y := by
  have := dv_lt (x := y) (y := x) (e := e)
  constructor
  · intro h
    rcases Int.lt_or_le y x with h' | h'
    · have := this.2 h'; grind
    · exact h'
  · intro h
    by_cases h' : dv y e < dv x e
    · have := this.1 h'; omega
    · grind
theorem dv_add (x y e : Int) : dv (x + y) e = dv x e + dv y e := by unfold dv; rw [Rat.intCast_add, Rat.add_mul]
theorem dv_neg (x e : Int) : dv (-x) e = -dv x e := by unfold dv; rw [Rat.intCast_neg, Rat.neg_mul]
theorem dv_sub (x y e : Int) : dv (x - y) e = dv x e - dv y e := by unfold dv; rw [Rat.intCast_sub]; grind
theorem dv_mul (x y e f : Int) : dv (x * y) (e + f) = dv x e * dv y f := by
  unfold dv; rw [Rat.intCast_mul, Rat.zpow_add two_ne]; grind
theorem dv_od (x e : Int) : dv (od x) (if x = 0 then 0 else e + tzN x.natAbs) = dv x e := by
  by_cases h : x = 0
  · subst h; rw [od_zero, dv_zero, dv_zero]
  · rw [if_neg h, ← dv_scale, od_mul]
theorem dyad_Ratio_I {z e : Int} {k : Nat} (hz : z.natAbs < P k) (hk1 : 1 ≤ k) (hk : k ≤ 400) (he0 : -2000 ≤ e) (he1 : e ≤ 2000) : S.dyad_Ratio ((I z, e, ()), ()) = some (R (dv z e), 0, ()) ∧ big (dv z e) (k + 64) := by
  simp only [S.dyad_Ratio, L.dyad_Ratio]
  by_cases h : 0 ≤ e
  · obtain ⟨n, rfl⟩ : ∃ n : Nat, e = n := ⟨e.toNat, by omega⟩
    have e1 := whole_Left_I (a := z) (n := n) (k := k) hz (by omega) (by omega)
    have hm : (z * 2 ^ n).natAbs < P (k + 64) := by
      rw [pow_cast, mul_abs, nat_abs]
      exact P_mul hz (two_pow_lt (k := 64) (by omega))
    have e2 := ratio_Whole_R (P1000 hm (by omega))
    have hq : ((z * 2 ^ n : Int) : Rat) = dv z n := by unfold dv; rw [tw_nat, Rat.intCast_mul]
    rw [hq] at e2
    refine ⟨?_, by rw [← hq]; exact rat_int_big hm (by omega)⟩
    simp only [I] at e1 e2
    rw [ct h]
    simp only [I, e1, e2, Option.bind_some, decide_true, Bool.not_true, cond_false]
  · obtain ⟨n, rfl⟩ : ∃ n : Nat, e = -(n : Int) := ⟨e.natAbs, by omega⟩
    have hp : 2 ^ n < P 64 := two_pow_lt (by omega)
    have e1 : S.limbs_Left (D 1, (n : Int), ()) = some (D (2 ^ n), 0, ()) := by
      rw [Left_D (P_one 1000 (by decide)), if_neg (by decide), if_neg (by omega), Nat.one_mul, res_in (P40 hp (by decide))]
    have h0 : ((2 ^ n : Nat) : Int) ≠ 0 := by have : 0 < 2 ^ n := Nat.pow_pos (by decide); omega
    have e2 := whole_Nat_D (P1000 hp (by decide))
    have e3 := Make_R (n := z) (d := ((2 ^ n : Nat) : Int)) (P40 hz (by omega)) (by rw [nat_abs]; exact P40 hp (by decide)) h0
    obtain ⟨p1, p2, _⟩ := divInt_parts z ((2 ^ n : Nat) : Int) h0
    have hq : Rat.divInt z ((2 ^ n : Nat) : Int) = dv z (-(n : Int)) := by
      unfold dv; rw [Rat.divInt_eq_div, Rat.zpow_neg, tw_nat, pow_cast, Rat.div_def]
    rw [hq] at e3 p1 p2
    refine ⟨?_, ?_, ?_⟩
    · simp only [I, R] at e2 e3
      rw [cf h, wi64 (by omega) (by omega), show (0 : Int) - -(n : Int) = (n : Int) by omega]
      simp only [I, R, Of_one, e1, e2, e3, Option.bind_some, decide_true, Bool.not_true, cond_false]
    · rw [p1]; exact Nat.lt_of_le_of_lt (Nat.div_le_self _ _) (Nat.lt_of_lt_of_le hz (P_mono (by omega)))
    · rw [p2, nat_abs]; exact Nat.lt_of_le_of_lt (Nat.div_le_self _ _) (Nat.lt_of_lt_of_le hp (P_mono (by omega)))
/-- span.out -/
def span_out (lo : (Bool × (List Int) × Unit) × Int × Unit) (hi : (Bool × (List Int) × Unit) × Int × Unit) (bits : Int) : Option ((((Bool × (List Int) × Unit) × Int × Unit) × ((Bool × (List Int) × Unit) × Int × Unit) × Unit) × Int × Unit) :=
  (S.dyad_Round (((lo.1.1, lo.1.2.1, ()), lo.2.1, ()), bits, false, ())).bind fun z1 =>
  cond (!(decide (z1.2.1 = 0))) (some ((((false, [], ()), 0, ()), ((false, [], ()), 0, ()), ()), z1.2.1, ()))
   (
   (S.dyad_Round (((hi.1.1, hi.1.2.1, ()), hi.2.1, ()), bits, true, ())).bind fun z2 =>
   cond (!(decide (z2.2.1 = 0))) (some ((((false, [], ()), 0, ()), ((false, [], ()), 0, ()), ()), z2.2.1, ()))
   (
   some ((((z1.1.1.1, z1.1.1.2.1, ()), z1.1.2.1, ()), ((z2.1.1.1, z2.1.1.2.1, ()), z2.1.2.1, ()), ()), 0, ())))

def S.span_out (x : DY × DY × Int × Unit) : Option (SP × Int × Unit) := L.span_out x.1 x.2.1 x.2.2.1
theorem span_out_Yd {x y e : Int} {b k : Nat} (hx : x.natAbs < P k) (hy : y.natAbs < P k) (hk : k ≤ 500) (h0 : -60000 ≤ e) (h1 : e ≤ 20000) (hb : 2 ≤ b) (hb' : b ≤ 4096) : S.span_out (Yd x e, Yd y e, (b : Int), ()) = some (Sp (rdn x b) (rup y b) e, 0, ()) := by
  have e0 : ∀ (a c : DY) (b : Int), S.span_out (a, c, b, ()) = (S.dyad_Round (a, b, false, ())).bind fun z1 => cond (!(decide (z1.2.1 = 0))) (some (sp0, z1.2.1, ())) ((S.dyad_Round (c, b, true, ())).bind fun z2 => cond (!(decide (z2.2.1 = 0))) (some (sp0, z2.2.1, ())) (some ((z1.1, z2.1, ()), 0, ()))) := fun _ _ _ => rfl
  rw [e0, dyad_Round_Yd hx hk h0 h1 hb hb', Option.bind_some]
  simp only [decide_true, Bool.not_true, cond_false]
  rw [dyad_Round_Yd hy hk h0 h1 hb hb', Option.bind_some]
  simp only [decide_true, Bool.not_true, cond_false]
  rfl
/-- span.Add -/
def span_Add (a : ((Bool × (List Int) × Unit) × Int × Unit) × ((Bool × (List Int) × Unit) × Int × Unit) × Unit) (b : ((Bool × (List Int) × Unit) × Int × Unit) × ((Bool × (List Int) × Unit) × Int × Unit) × Unit) (bits : Int) : Option ((((Bool × (List Int) × Unit) × Int × Unit) × ((Bool × (List Int) × Unit) × Int × Unit) × Unit) × Int × Unit) :=
  (S.dyad_Add (((a.1.1.1, a.1.1.2.1, ()), a.1.2.1, ()), ((b.1.1.1, b.1.1.2.1, ()), b.1.2.1, ()), ())).bind fun z1 =>
  cond (!(decide (z1.2.1 = 0))) (some ((((false, [], ()), 0, ()), ((false, [], ()), 0, ()), ()), z1.2.1, ()))
   (
   (S.dyad_Add (((a.2.1.1.1, a.2.1.1.2.1, ()), a.2.1.2.1, ()), ((b.2.1.1.1, b.2.1.1.2.1, ()), b.2.1.2.1, ()), ())).bind fun z2 =>
   cond (!(decide (z2.2.1 = 0))) (some ((((false, [], ()), 0, ()), ((false, [], ()), 0, ()), ()), z2.2.1, ()))
   (
   (S.span_out (((z1.1.1.1, z1.1.1.2.1, ()), z1.1.2.1, ()), ((z2.1.1.1, z2.1.1.2.1, ()), z2.1.2.1, ()), bits, ())).bind fun z3 =>
   some ((((z3.1.1.1.1, z3.1.1.1.2.1, ()), z3.1.1.2.1, ()), ((z3.1.2.1.1.1, z3.1.2.1.1.2.1, ()), z3.1.2.1.2.1, ()), ()), z3.2.1, ())))

def S.span_Add (x : SP × SP × Int × Unit) : Option (SP × Int × Unit) := L.span_Add x.1 x.2.1 x.2.2.1
theorem span_Add_Sp {l h l' h' e : Int} {b k : Nat} (hx : lt2 l h k) (hy : lt2 l' h' k) (hk : k ≤ 490) (h0 : -60000 ≤ e) (h1 : e ≤ 20000) (hb : 2 ≤ b) (hb' : b ≤ 4096) : S.span_Add (Sp l h e, Sp l' h' e, (b : Int), ()) = some (Sp (rdn (l + l') b) (rup (h + h') b) e, 0, ()) := by
  have e0 : ∀ (a c : SP) (b : Int), S.span_Add (a, c, b, ()) = (S.dyad_Add (a.1, c.1, ())).bind fun z1 => cond (!(decide (z1.2.1 = 0))) (some (sp0, z1.2.1, ())) ((S.dyad_Add (a.2.1, c.2.1, ())).bind fun z2 => cond (!(decide (z2.2.1 = 0))) (some (sp0, z2.2.1, ())) ((S.span_out (z1.1, z2.1, b, ())).bind fun z3 => some (z3.1, z3.2.1, ()))) := fun _ _ _ => rfl
  rw [e0, dyad_Add_Yd hx.1 hy.1 (by omega) h0 h1, Option.bind_some]
  simp only [decide_true, Bool.not_true, cond_false]
  rw [dyad_Add_Yd hx.2 hy.2 (by omega) h0 h1, Option.bind_some]
  simp only [decide_true, Bool.not_true, cond_false]
  rw [span_out_Yd (nA_add hx.1 hy.1) (nA_add hx.2 hy.2) (by omega) h0 h1 hb hb', Option.bind_some]
/-- span.Even -/
def span_Even (a : (Bool × (List Int) × Unit) × Int × Unit) : Option ((((Bool × (List Int) × Unit) × Int × Unit) × ((Bool × (List Int) × Unit) × Int × Unit) × Unit) × Unit) :=
  (S.dyad_Abs (((a.1.1, a.1.2.1, ()), a.2.1, ()), ())).bind fun z1 =>
  (S.dyad_Neg (((z1.1.1.1, z1.1.1.2.1, ()), z1.1.2.1, ()), ())).bind fun z2 =>
  some ((((z2.1.1.1, z2.1.1.2.1, ()), z2.1.2.1, ()), ((z1.1.1.1, z1.1.1.2.1, ()), z1.1.2.1, ()), ()), ())

def S.span_Even (x : DY × Unit) : Option (SP × Unit) := L.span_Even x.1
theorem span_Even_Yd {x e : Int} (hx : x.natAbs < P 1000) : S.span_Even (Yd x e, ()) = some (Sp (-(x.natAbs : Int)) (x.natAbs : Int) e, ()) := by
  have e0 : ∀ (a : DY), S.span_Even (a, ()) = (S.dyad_Abs (a, ())).bind fun z1 => (S.dyad_Neg (z1.1, ())).bind fun z2 => some ((z2.1, z1.1, ()), ()) := fun _ => rfl
  rw [e0, dyad_Abs_Yd hx, Option.bind_some]
  simp only
  rw [dyad_Neg_Yd (by rw [Int.natAbs_natCast]; exact hx), Option.bind_some]
/-- span.HasRatio -/
def span_HasRatio (a : ((Bool × (List Int) × Unit) × Int × Unit) × ((Bool × (List Int) × Unit) × Int × Unit) × Unit) (r : (Bool × (List Int) × Unit) × (List Int) × Unit) : Option (Bool × Int × Unit) :=
  (S.dyad_Cmp (((a.1.1.1, a.1.1.2.1, ()), a.1.2.1, ()), ((r.1.1, r.1.2.1, ()), r.2.1, ()), ())).bind fun z1 =>
  cond (!(decide (z1.2.1 = 0))) (some (false, z1.2.1, ()))
   (
   (S.dyad_Cmp (((a.2.1.1.1, a.2.1.1.2.1, ()), a.2.1.2.1, ()), ((r.1.1, r.1.2.1, ()), r.2.1, ()), ())).bind fun z2 =>
   cond (decide (z2.2.1 = 0))
   (
   cond (decide (z1.1 ≤ 0)) (some (decide (0 ≤ z2.1), z2.2.1, ())) (some (false, z2.2.1, ()))) (some (false, z2.2.1, ())))

def S.span_HasRatio (x : SP × RT × Unit) : Option (Bool × Int × Unit) := L.span_HasRatio x.1 x.2.1
/-- dyad.Near -/
def dyad_Near (a : (Bool × (List Int) × Unit) × (List Int) × Unit) (bits : Int) (up : Bool) : Option (((Bool × (List Int) × Unit) × Int × Unit) × Int × Unit) :=
  cond (decide (bits < 2)) (some (((false, [], ()), 0, ()), 1, ()))
   (
   cond (decide (4096 < bits)) (some (((false, [], ()), 0, ()), 1, ()))
   (
   (S.ratio_Sign (((a.1.1, a.1.2.1, ()), a.2.1, ()), ())).bind fun z1 =>
   cond (decide (z1.1 = 0)) (some (((false, [], ()), 0, ()), 0, ()))
   (
   (S.limbs_Bits (a.1.2.1, ())).bind fun z2 =>
   (S.limbs_Bits (a.2.1, ())).bind fun z4 =>
   let z6 := IntKind.i64.wrap ((IntKind.i64.wrap ((IntKind.i64.wrap (bits - z2.1)) + z4.1)) + 1)
   (S.whole_Nat (a.2.1, ())).bind fun z7 =>
   cond (decide (0 ≤ z6))
   (
   (S.whole_Left ((a.1.1, a.1.2.1, ()), z6, ())).bind fun z8 =>
   cond (!(decide (z8.2.1 = 0))) (some (((false, [], ()), 0, ()), z8.2.1, ()))
   (
   (S.whole_Div ((z8.1.1, z8.1.2.1, ()), (z7.1.1, z7.1.2.1, ()), ())).bind fun z9 =>
   cond (up)
   (
   (S.whole_Sign ((z9.2.1.1, z9.2.1.2.1, ()), ())).bind fun z10 =>
   cond (!(decide (z10.1 = 0)))
   (
   (S.whole_Of (1, ())).bind fun z11 =>
   (S.whole_Add ((z9.1.1, z9.1.2.1, ()), (z11.1.1, z11.1.2.1, ()), ())).bind fun z12 =>
   cond (!(decide (z12.2.1 = 0))) (some (((false, [], ()), 0, ()), z12.2.1, ()))
   (
   (S.dyad_Make ((z12.1.1, z12.1.2.1, ()), (IntKind.i64.wrap (0 - z6)), ())).bind fun z14 =>
   cond (!(decide (z14.2.1 = 0))) (some (((false, [], ()), 0, ()), z14.2.1, ()))
   (
   (S.dyad_Round (((z14.1.1.1, z14.1.1.2.1, ()), z14.1.2.1, ()), bits, up, ())).bind fun z15 =>
   some (((z15.1.1.1, z15.1.1.2.1, ()), z15.1.2.1, ()), z15.2.1, ()))))
   (
   (S.dyad_Make ((z9.1.1, z9.1.2.1, ()), (IntKind.i64.wrap (0 - z6)), ())).bind fun z17 =>
   cond (!(decide (z17.2.1 = 0))) (some (((false, [], ()), 0, ()), z17.2.1, ()))
   (
   (S.dyad_Round (((z17.1.1.1, z17.1.1.2.1, ()), z17.1.2.1, ()), bits, up, ())).bind fun z18 =>
   some (((z18.1.1.1, z18.1.1.2.1, ()), z18.1.2.1, ()), z18.2.1, ()))))
   (
   (S.dyad_Make ((z9.1.1, z9.1.2.1, ()), (IntKind.i64.wrap (0 - z6)), ())).bind fun z20 =>
   cond (!(decide (z20.2.1 = 0))) (some (((false, [], ()), 0, ()), z20.2.1, ()))
   (
   (S.dyad_Round (((z20.1.1.1, z20.1.1.2.1, ()), z20.1.2.1, ()), bits, up, ())).bind fun z21 =>
   some (((z21.1.1.1, z21.1.1.2.1, ()), z21.1.2.1, ()), z21.2.1, ())))))
   (
   (S.whole_Left ((z7.1.1, z7.1.2.1, ()), (IntKind.i64.wrap (0 - z6)), ())).bind fun z23 =>
   cond (!(decide (z23.2.1 = 0))) (some (((false, [], ()), 0, ()), z23.2.1, ()))
   (
   (S.whole_Div ((a.1.1, a.1.2.1, ()), (z23.1.1, z23.1.2.1, ()), ())).bind fun z24 =>
   cond (up)
   (
   (S.whole_Sign ((z24.2.1.1, z24.2.1.2.1, ()), ())).bind fun z25 =>
   cond (!(decide (z25.1 = 0)))
   (
   (S.whole_Of (1, ())).bind fun z26 =>
   (S.whole_Add ((z24.1.1, z24.1.2.1, ()), (z26.1.1, z26.1.2.1, ()), ())).bind fun z27 =>
   cond (!(decide (z27.2.1 = 0))) (some (((false, [], ()), 0, ()), z27.2.1, ()))
   (
   (S.dyad_Make ((z27.1.1, z27.1.2.1, ()), (IntKind.i64.wrap (0 - z6)), ())).bind fun z29 =>
   cond (!(decide (z29.2.1 = 0))) (some (((false, [], ()), 0, ()), z29.2.1, ()))
   (
   (S.dyad_Round (((z29.1.1.1, z29.1.1.2.1, ()), z29.1.2.1, ()), bits, up, ())).bind fun z30 =>
   some (((z30.1.1.1, z30.1.1.2.1, ()), z30.1.2.1, ()), z30.2.1, ()))))
   (
   (S.dyad_Make ((z24.1.1, z24.1.2.1, ()), (IntKind.i64.wrap (0 - z6)), ())).bind fun z32 =>
   cond (!(decide (z32.2.1 = 0))) (some (((false, [], ()), 0, ()), z32.2.1, ()))
   (
   (S.dyad_Round (((z32.1.1.1, z32.1.1.2.1, ()), z32.1.2.1, ()), bits, up, ())).bind fun z33 =>
   some (((z33.1.1.1, z33.1.1.2.1, ()), z33.1.2.1, ()), z33.2.1, ()))))
   (
   (S.dyad_Make ((z24.1.1, z24.1.2.1, ()), (IntKind.i64.wrap (0 - z6)), ())).bind fun z35 =>
   cond (!(decide (z35.2.1 = 0))) (some (((false, [], ()), 0, ()), z35.2.1, ()))
   (
   (S.dyad_Round (((z35.1.1.1, z35.1.1.2.1, ()), z35.1.2.1, ()), bits, up, ())).bind fun z36 =>
   some (((z36.1.1.1, z36.1.1.2.1, ()), z36.1.2.1, ()), z36.2.1, ()))))))))

def S.dyad_Near (x : RT × Int × Bool × Unit) : Option (DY × Int × Unit) := L.dyad_Near x.1 x.2.1 x.2.2.1
/-- span.Near -/
def span_Near (a : (Bool × (List Int) × Unit) × (List Int) × Unit) (bits : Int) : Option ((((Bool × (List Int) × Unit) × Int × Unit) × ((Bool × (List Int) × Unit) × Int × Unit) × Unit) × Int × Unit) :=
  (S.dyad_Near (((a.1.1, a.1.2.1, ()), a.2.1, ()), bits, false, ())).bind fun z1 =>
  cond (!(decide (z1.2.1 = 0))) (some ((((false, [], ()), 0, ()), ((false, [], ()), 0, ()), ()), z1.2.1, ()))
   (
   (S.dyad_Near (((a.1.1, a.1.2.1, ()), a.2.1, ()), bits, true, ())).bind fun z2 =>
   cond (!(decide (z2.2.1 = 0))) (some ((((false, [], ()), 0, ()), ((false, [], ()), 0, ()), ()), z2.2.1, ()))
   (
   some ((((z1.1.1.1, z1.1.1.2.1, ()), z1.1.2.1, ()), ((z2.1.1.1, z2.1.1.2.1, ()), z2.1.2.1, ()), ()), 0, ())))

def S.span_Near (x : RT × Int × Unit) : Option (SP × Int × Unit) := L.span_Near x.1 x.2.1
/-- span.Mul -/
def span_Mul (a : ((Bool × (List Int) × Unit) × Int × Unit) × ((Bool × (List Int) × Unit) × Int × Unit) × Unit) (b : ((Bool × (List Int) × Unit) × Int × Unit) × ((Bool × (List Int) × Unit) × Int × Unit) × Unit) (bits : Int) : Option ((((Bool × (List Int) × Unit) × Int × Unit) × ((Bool × (List Int) × Unit) × Int × Unit) × Unit) × Int × Unit) :=
  (S.dyad_Mul (((a.1.1.1, a.1.1.2.1, ()), a.1.2.1, ()), ((b.1.1.1, b.1.1.2.1, ()), b.1.2.1, ()), ())).bind fun z1 =>
  cond (!(decide (z1.2.1 = 0))) (some ((((false, [], ()), 0, ()), ((false, [], ()), 0, ()), ()), z1.2.1, ()))
   (
   (S.dyad_Mul (((a.1.1.1, a.1.1.2.1, ()), a.1.2.1, ()), ((b.2.1.1.1, b.2.1.1.2.1, ()), b.2.1.2.1, ()), ())).bind fun z2 =>
   cond (!(decide (z2.2.1 = 0))) (some ((((false, [], ()), 0, ()), ((false, [], ()), 0, ()), ()), z2.2.1, ()))
   (
   (S.dyad_Min (((z1.1.1.1, z1.1.1.2.1, ()), z1.1.2.1, ()), ((z2.1.1.1, z2.1.1.2.1, ()), z2.1.2.1, ()), ())).bind fun z3 =>
   (S.dyad_Max (((z1.1.1.1, z1.1.1.2.1, ()), z1.1.2.1, ()), ((z2.1.1.1, z2.1.1.2.1, ()), z2.1.2.1, ()), ())).bind fun z4 =>
   (S.dyad_Mul (((a.2.1.1.1, a.2.1.1.2.1, ()), a.2.1.2.1, ()), ((b.1.1.1, b.1.1.2.1, ()), b.1.2.1, ()), ())).bind fun z5 =>
   cond (!(decide (z5.2.1 = 0))) (some ((((false, [], ()), 0, ()), ((false, [], ()), 0, ()), ()), z5.2.1, ()))
   (
   (S.dyad_Min (((z3.1.1.1, z3.1.1.2.1, ()), z3.1.2.1, ()), ((z5.1.1.1, z5.1.1.2.1, ()), z5.1.2.1, ()), ())).bind fun z6 =>
   (S.dyad_Max (((z4.1.1.1, z4.1.1.2.1, ()), z4.1.2.1, ()), ((z5.1.1.1, z5.1.1.2.1, ()), z5.1.2.1, ()), ())).bind fun z7 =>
   (S.dyad_Mul (((a.2.1.1.1, a.2.1.1.2.1, ()), a.2.1.2.1, ()), ((b.2.1.1.1, b.2.1.1.2.1, ()), b.2.1.2.1, ()), ())).bind fun z8 =>
   cond (!(decide (z8.2.1 = 0))) (some ((((false, [], ()), 0, ()), ((false, [], ()), 0, ()), ()), z8.2.1, ()))
   (
   (S.dyad_Min (((z6.1.1.1, z6.1.1.2.1, ()), z6.1.2.1, ()), ((z8.1.1.1, z8.1.1.2.1, ()), z8.1.2.1, ()), ())).bind fun z9 =>
   (S.dyad_Max (((z7.1.1.1, z7.1.1.2.1, ()), z7.1.2.1, ()), ((z8.1.1.1, z8.1.1.2.1, ()), z8.1.2.1, ()), ())).bind fun z10 =>
   (S.span_out (((z9.1.1.1, z9.1.1.2.1, ()), z9.1.2.1, ()), ((z10.1.1.1, z10.1.1.2.1, ()), z10.1.2.1, ()), bits, ())).bind fun z11 =>
   some ((((z11.1.1.1.1, z11.1.1.1.2.1, ()), z11.1.1.2.1, ()), ((z11.1.2.1.1.1, z11.1.2.1.1.2.1, ()), z11.1.2.1.2.1, ()), ()), z11.2.1, ())))))

def S.span_Mul (x : SP × SP × Int × Unit) : Option (SP × Int × Unit) := L.span_Mul x.1 x.2.1 x.2.2.1
/-- The least and the greatest product of the ends. -/
def mlo (l h l' h' : Int) : Int := min (min (min (l * l') (l * h')) (h * l')) (h * h')
def mhi (l h l' h' : Int) : Int := max (max (max (l * l') (l * h')) (h * l')) (h * h')
theorem span_Mul_Sp {l h l' h' e f : Int} {b j k : Nat} (hx : lt2 l h j) (hy : lt2 l' h' k) (hk : j + k ≤ 490) (h0 : -30000 ≤ e) (h1 : e ≤ 10000) (h2 : -30000 ≤ f) (h3 : f ≤ 10000) (hb : 2 ≤ b) (hb' : b ≤ 4096) : S.span_Mul (Sp l h e, Sp l' h' f, (b : Int), ()) = some (Sp (rdn (mlo l h l' h') b) (rup (mhi l h l' h') b) (e + f), 0, ()) := by
  have e0 : ∀ (a c : SP) (b : Int), S.span_Mul (a, c, b, ()) = (S.dyad_Mul (a.1, c.1, ())).bind fun z1 => cond (!(decide (z1.2.1 = 0))) (some (sp0, z1.2.1, ()))
      ((S.dyad_Mul (a.1, c.2.1, ())).bind fun z2 => cond (!(decide (z2.2.1 = 0))) (some (sp0, z2.2.1, ()))
      ((S.dyad_Min (z1.1, z2.1, ())).bind fun z3 => (S.dyad_Max (z1.1, z2.1, ())).bind fun z4 => (S.dyad_Mul (a.2.1, c.1, ())).bind fun z5 => cond (!(decide (z5.2.1 = 0))) (some (sp0, z5.2.1, ()))
      ((S.dyad_Min (z3.1, z5.1, ())).bind fun z6 => (S.dyad_Max (z4.1, z5.1, ())).bind fun z7 => (S.dyad_Mul (a.2.1, c.2.1, ())).bind fun z8 => cond (!(decide (z8.2.1 = 0))) (some (sp0, z8.2.1, ()))
      ((S.dyad_Min (z6.1, z8.1, ())).bind fun z9 => (S.dyad_Max (z7.1, z8.1, ())).bind fun z10 => (S.span_out (z9.1, z10.1, b, ())).bind fun z11 => some (z11.1, z11.2.1, ()))))) := fun _ _ _ => rfl
  have m1 := nA_mul hx.1 hy.1
  have m2 := nA_mul hx.1 hy.2
  have m3 := nA_mul hx.2 hy.1
  have m4 := nA_mul hx.2 hy.2
  have mn : ∀ {a c : Int} {k : Nat}, a.natAbs < P k → c.natAbs < P k → (min a c).natAbs < P k := fun h1 h2 => by omega
  have mx : ∀ {a c : Int} {k : Nat}, a.natAbs < P k → c.natAbs < P k → (max a c).natAbs < P k := fun h1 h2 => by omega
  have g0 : -60000 ≤ e + f := by omega
  have g1 : e + f ≤ 20000 := by omega
  rw [e0, dyad_Mul_Yd hx.1 hy.1 (by omega) h0 h1 h2 h3, Option.bind_some]
  simp only [decide_true, Bool.not_true, cond_false]
  rw [dyad_Mul_Yd hx.1 hy.2 (by omega) h0 h1 h2 h3, Option.bind_some]
  simp only [decide_true, Bool.not_true, cond_false]
  rw [dyad_Min_Yd m1 m2 (by omega) g0 (by omega), Option.bind_some, dyad_Max_Yd m1 m2 (by omega) g0 (by omega), Option.bind_some, dyad_Mul_Yd hx.2 hy.1 (by omega) h0 h1 h2 h3, Option.bind_some]
  simp only [decide_true, Bool.not_true, cond_false]
  rw [dyad_Min_Yd (mn m1 m2) m3 (by omega) g0 (by omega), Option.bind_some, dyad_Max_Yd (mx m1 m2) m3 (by omega) g0 (by omega), Option.bind_some, dyad_Mul_Yd hx.2 hy.2 (by omega) h0 h1 h2 h3, Option.bind_some]
  simp only [decide_true, Bool.not_true, cond_false]
  rw [dyad_Min_Yd (mn (mn m1 m2) m3) m4 (by omega) g0 (by omega), Option.bind_some, dyad_Max_Yd (mx (mx m1 m2) m3) m4 (by omega) g0 (by omega), Option.bind_some, span_out_Yd (mn (mn (mn m1 m2) m3) m4) (mx (mx (mx m1 m2) m3) m4) (by omega) g0 g1 hb hb', Option.bind_some]
  rfl
/-- Products of what lies between the ends lie between the least and the greatest product of the ends. -/
theorem mul_between {l h x y : Int} (h1 : l ≤ x) (h2 : x ≤ h) : min (l * y) (h * y) ≤ x * y ∧ x * y ≤ max (l * y) (h * y) := by
  rcases Int.le_total 0 y with hy | hy
  · have := Int.mul_le_mul_of_nonneg_right h1 hy
    have := Int.mul_le_mul_of_nonneg_right h2 hy
    omega
  · have := Int.mul_le_mul_of_nonpos_right h1 hy
    have := Int.mul_le_mul_of_nonpos_right h2 hy
    omega
theorem mul_mid {l h l' h' x y : Int} (h1 : l ≤ x) (h2 : x ≤ h) (h3 : l' ≤ y) (h4 : y ≤ h') : mlo l h l' h' ≤ x * y ∧ x * y ≤ mhi l h l' h' := by
  have a := mul_between (y := y) h1 h2
  have b := mul_between (y := l) h3 h4
  have c := mul_between (y := h) h3 h4
  rw [Int.mul_comm y l, Int.mul_comm l' l, Int.mul_comm h' l] at b
  rw [Int.mul_comm y h, Int.mul_comm l' h, Int.mul_comm h' h] at c
  unfold mlo mhi
  omega
theorem mlo_abs {l h l' h' : Int} {j k : Nat} (hx : lt2 l h j) (hy : lt2 l' h' k) : lt2 (mlo l h l' h') (mhi l h l' h') (j + k) := by
  have m1 := nA_mul hx.1 hy.1
  have m2 := nA_mul hx.1 hy.2
  have m3 := nA_mul hx.2 hy.1
  have m4 := nA_mul hx.2 hy.2
  unfold mlo mhi
  constructor <;> omega
theorem mlo_is (l h l' h' : Int) : mlo l h l' h' = l * l' ∨ mlo l h l' h' = l * h' ∨ mlo l h l' h' = h * l' ∨ mlo l h l' h' = h * h' := by unfold mlo; omega
theorem mhi_is (l h l' h' : Int) : mhi l h l' h' = l * l' ∨ mhi l h l' h' = l * h' ∨ mhi l h l' h' = h * l' ∨ mhi l h l' h' = h * h' := by unfold mhi; omega
end Go.L

/-! ZE -/
namespace Go.L
open Go.PM
set_option exponentiation.threshold 20000
set_option linter.unusedVariables false
set_option linter.unusedSimpArgs false

/-- A dyad that may be. -/
def isY (x : DY) : Prop := ∃ z e, x = (I z, e, ()) ∧ cn z e ∧ z.natAbs < P 512 ∧ -65536 ≤ e ∧ e ≤ 65536
end Go.L
