/-
  ratios near dyads. ratios: sums; corners of boxes in a direction. the law of boxes in a direction.
  No condition beyond those that each theorem names.
-/
import Derived.Test.YtdadepdcllachaaGreatDoorL

/-! ZI -/
namespace Go.L
open Go.PM
set_option exponentiation.threshold 20000
set_option linter.unusedVariables false
set_option linter.unusedSimpArgs false

/-- By how many places a ratio is shifted; what stands above and below then; the quotient. -/
def nsh (q : Rat) (b : Nat) : Int := (b : Int) - bl q.num + bl (q.den : Int) + 1
def nnum (q : Rat) (b : Nat) : Int := if 0 ≤ nsh q b then q.num * 2 ^ (nsh q b).toNat else q.num
def nden (q : Rat) (b : Nat) : Int := if 0 ≤ nsh q b then q.den else q.den * 2 ^ (-nsh q b).toNat
def nq (up : Bool) (q : Rat) (b : Nat) : Int := bif up && decide (nnum q b % nden q b ≠ 0) then nnum q b / nden q b + 1 else nnum q b / nden q b
theorem nden_pos (q : Rat) (b : Nat) : 0 < nden q b := by
  unfold nden
  have h := q.den_pos
  split
  · omega
  · exact Int.mul_pos (by omega) (two_pos _)
theorem den_abs (q : Rat) : ((q.den : Int)).natAbs = q.den := Int.natAbs_natCast _
theorem nsh_le {q : Rat} {b j : Nat} (hq : big q j) : nsh q b ≤ b + 32 * j + 1 ∧ (b : Int) - 32 * j + 1 ≤ nsh q b := by
  unfold nsh
  have h1 := bl_P hq.1
  have h2 := bl_P (x := (q.den : Int)) (k := j) (by rw [den_abs]; exact hq.2)
  omega
theorem nnum_abs {q : Rat} {b j : Nat} (hq : big q j) (hb : b ≤ 4096) : (nnum q b).natAbs < P (2 * j + 130) := by
  have h := nsh_le (b := b) hq
  unfold nnum
  split
  · rw [pow_cast, Int.natAbs_mul, Int.natAbs_natCast, show 2 * j + 130 = j + (j + 130) by omega]
    exact P_mul hq.1 (two_P (by omega))
  · exact nA_up hq.1 (by omega)
theorem nden_abs {q : Rat} {b j : Nat} (hq : big q j) : (nden q b).natAbs < P (2 * j + 130) := by
  have h := nsh_le (b := b) hq
  unfold nden
  split
  · rw [den_abs]; exact Nat.lt_of_lt_of_le hq.2 (P_mono (by omega))
  · rw [pow_cast, Int.natAbs_mul, den_abs, Int.natAbs_natCast, show 2 * j + 130 = j + (j + 130) by omega]
    exact P_mul hq.2 (two_P (by omega))
theorem ediv_abs (n d : Int) (h : 0 < d) : (n / d).natAbs ≤ n.natAbs := by
  rcases Int.le_total 0 n with h0 | h0
  · have h1 : n / d ≤ n := Int.ediv_le_self d h0
    have h2 : 0 ≤ n / d := Int.ediv_nonneg h0 (by omega)
    omega
  · have h2 : n ≤ n / d := by
      rw [Int.le_ediv_iff_mul_le h]
      have := Int.mul_le_mul_of_nonpos_left h0 (show (1 : Int) ≤ d by omega)
      omega
    have h3 : n / d ≤ 0 := by
      have := Int.ediv_le_ediv h h0
      simpa using this
    omega
theorem nq_abs {up : Bool} {q : Rat} {b j : Nat} (hq : big q j) (hb : b ≤ 4096) : (nq up q b).natAbs < P (2 * j + 131) := by
  have h1 := nnum_abs hq hb
  have h2 := ediv_abs (nnum q b) (nden q b) (nden_pos q b)
  have h3 : 1 < P (2 * j + 130) := P_one _ (by omega)
  have h4 : P (2 * j + 131) = P (2 * j + 130) * 4294967296 := P_succ _
  unfold nq
  cases up && decide (nnum q b % nden q b ≠ 0)
  · simp only [cond_false]; omega
  · simp only [cond_true]; omega
theorem nq_ends (up : Bool) (q : Rat) (b : Nat) : (up = false → nq up q b * nden q b ≤ nnum q b) ∧ (up = true → nnum q b ≤ nq up q b * nden q b) ∧ (nq up q b - 1) * nden q b < nnum q b + nden q b ∧ nnum q b - nden q b < (nq up q b) * nden q b ∧ (nq up q b) * nden q b < nnum q b + nden q b := by
  have hd := nden_pos q b
  have h1 := Int.emod_add_mul_ediv (nnum q b) (nden q b)
  have h2 := Int.emod_nonneg (nnum q b) (show nden q b ≠ 0 by omega)
  have h3 := Int.emod_lt_of_pos (nnum q b) hd
  rw [Int.mul_comm] at h1
  have e1 : (nnum q b / nden q b + 1) * nden q b = nnum q b / nden q b * nden q b + nden q b := by rw [Int.add_mul, Int.one_mul]
  have e2 : (nnum q b / nden q b - 1) * nden q b = nnum q b / nden q b * nden q b - nden q b := by rw [Int.sub_mul, Int.one_mul]
  have e3 : (nnum q b / nden q b + 1 - 1) * nden q b = nnum q b / nden q b * nden q b := by rw [Int.add_sub_cancel]
  unfold nq
  cases up with
  | false => simp only [Bool.false_and, cond_false, reduceCtorEq, false_implies, true_implies, true_and]; omega
  | true =>
    by_cases hr : nnum q b % nden q b = 0
    · simp only [Bool.true_and, hr, ne_eq, not_true_eq_false, decide_false, cond_false, reduceCtorEq, false_implies, true_implies, true_and]; omega
    · simp only [Bool.true_and, hr, ne_eq, not_false_eq_true, decide_true, cond_true, reduceCtorEq, false_implies, true_implies, true_and]; omega
theorem dyad_Near_R {q : Rat} {b j : Nat} {up : Bool} (hq : big q j) (h0 : q ≠ 0) (hj : j ≤ 20) (hb : 2 ≤ b) (hb' : b ≤ 4096) : S.dyad_Near (R q, (b : Int), up, ()) = some (Yd (rnd up (nq up q b) b) (-nsh q b), 0, ()) := by
  have hn0 : q.num ≠ 0 := num0 h0
  have hs := nsh_le (b := b) hq
  have e1 := ratio_Sign_R q
  have s0 := sgn0 q.num
  have e2 := Bits_I (x := q.num) (P1000 hq.1 (by omega))
  have e3 := Bits_I (x := (q.den : Int)) (by rw [den_abs]; exact P1000 hq.2 (by omega))
  rw [den_abs] at e3
  have e4 := whole_Nat_D (P1000 hq.2 (by omega))
  rw [I_nat] at e4
  have b1 := bl_P hq.1
  have b2 := bl_P (x := (q.den : Int)) (k := j) (by rw [den_abs]; exact hq.2)
  have hN := nnum_abs hq hb'
  have hD := nden_abs (b := b) hq
  have hQ := nq_abs (up := up) hq hb'
  have hD0 := nden_pos q b
  have e6 := whole_Div_I (a := nnum q b) (b := nden q b) (Nat.lt_of_lt_of_le hN (P_mono (by omega))) (Nat.lt_of_lt_of_le hD (P_mono (by omega))) (by omega)
  have e7 := whole_Sign_I (nnum q b % nden q b)
  have s7 := sgn0 (nnum q b % nden q b)
  have e8 : S.whole_Of (1, ()) = some (I 1, ()) := whole_Of_I (by decide) (by decide)
  have hdiv : (nnum q b / nden q b).natAbs < P (2 * j + 130) := Nat.lt_of_le_of_lt (ediv_abs _ _ hD0) hN
  have e9 := whole_Add_I (a := nnum q b / nden q b) (b := 1) hdiv (P_one _ (by omega)) (by omega)
  have e10 := Yd_Make (x := nq up q b) (e := -nsh q b) hQ (by omega) (by omega) (by omega)
  have e11 := dyad_Round_Yd (x := nq up q b) (e := -nsh q b) (b := b) (up := up) hQ (by omega) (by omega) (by omega) hb hb'
  have hz6 : IntKind.i64.wrap ((IntKind.i64.wrap ((IntKind.i64.wrap ((b : Int) - bl q.num)) + bl (q.den : Int))) + 1) = nsh q b := by
    rw [wi64 (x := (b : Int) - bl q.num) (by omega) (by omega), wi64 (x := (b : Int) - bl q.num + bl (q.den : Int)) (by omega) (by omega), wi64 (by omega) (by omega)]; rfl
  have tail : ∀ (Q : Int), Q = nq up q b → ((S.dyad_Make ((decide (Q < 0), D Q.natAbs, ()), IntKind.i64.wrap (0 - nsh q b), ())).bind fun z14 =>
      cond (!(decide (z14.2.1 = 0))) (some (((false, [], ()), 0, ()), z14.2.1, ()))
        ((S.dyad_Round (((z14.1.1.1, z14.1.1.2.1, ()), z14.1.2.1, ()), (b : Int), up, ())).bind fun z15 => some (((z15.1.1.1, z15.1.1.2.1, ()), z15.1.2.1, ()), z15.2.1, ()))) = some (Yd (rnd up (nq up q b) b) (-nsh q b), 0, ()) := by
    intro Q hQe
    subst hQe
    rw [wi64 (x := 0 - nsh q b) (by omega) (by omega), show 0 - nsh q b = -nsh q b by omega, e10, Option.bind_some]
    simp only [decide_true, Bool.not_true, cond_false]
    rw [show S.dyad_Round _ = _ from e11, Option.bind_some]
  have q0 : up = false → nnum q b / nden q b = nq up q b := fun h => by subst h; rfl
  have q1 : nnum q b % nden q b = 0 → nnum q b / nden q b = nq up q b := fun h => by unfold nq; rw [h]; cases up <;> rfl
  have q2 : up = true → nnum q b % nden q b ≠ 0 → nnum q b / nden q b + 1 = nq up q b := fun h h' => by unfold nq; rw [decide_eq_true h', h]; rfl
  simp only [I] at e7 e8 e9
  simp only [S.dyad_Near, L.dyad_Near]
  rw [cf (by omega), cf (by omega), show S.ratio_Sign _ = _ from e1, Option.bind_some, cf (by simp only; omega)]
  rw [e2, Option.bind_some, e3, Option.bind_some]
  rw [hz6, e4, Option.bind_some]
  simp only
  by_cases hge : 0 ≤ nsh q b
  · have en : nnum q b = q.num * 2 ^ (nsh q b).toNat := by unfold nnum; rw [if_pos hge]
    have ed : nden q b = q.den := by unfold nden; rw [if_pos hge]
    have e5 := whole_Left_I (a := q.num) (n := (nsh q b).toNat) hq.1 (by omega) (by omega)
    rw [← en, show (((nsh q b).toNat : Nat) : Int) = nsh q b by omega] at e5
    simp only [I] at e5
    rw [ct hge, e5, Option.bind_some]
    simp only [decide_true, Bool.not_true, cond_false]
    rw [ed, I_nat] at e6
    simp only [I] at e6
    rw [show S.whole_Div _ = _ from e6, Option.bind_some, ← ed]
    cases up with
    | false => exact tail _ (q0 rfl)
    | true =>
      simp only [cond_true]
      rw [e7, Option.bind_some]
      simp only
      by_cases hr : nnum q b % nden q b = 0
      · rw [decide_eq_true (show sgn (nnum q b % nden q b) 0 = 0 by omega)]
        exact tail _ (q1 hr)
      · rw [decide_eq_false (show ¬ sgn (nnum q b % nden q b) 0 = 0 by omega)]
        simp only [Bool.not_false, cond_true]
        rw [e8, Option.bind_some]
        simp only
        rw [show S.whole_Add _ = _ from e9, Option.bind_some]
        exact tail _ (q2 rfl hr)
  · have en : nnum q b = q.num := by unfold nnum; rw [if_neg hge]
    have ed : nden q b = q.den * 2 ^ (-nsh q b).toNat := by unfold nden; rw [if_neg hge]
    have e5 := whole_Left_I (a := (q.den : Int)) (n := (-nsh q b).toNat) (k := j) (by rw [den_abs]; exact hq.2) (by omega) (by omega)
    rw [← ed, show (((-nsh q b).toNat : Nat) : Int) = -nsh q b by omega, I_nat] at e5
    simp only [I] at e5
    rw [cf hge, wi64 (x := 0 - nsh q b) (by omega) (by omega), show 0 - nsh q b = -nsh q b by omega]
    rw [show S.whole_Left _ = _ from e5, Option.bind_some]
    simp only [decide_true, Bool.not_true, cond_false]
    rw [en] at e6
    simp only [I] at e6
    rw [show S.whole_Div _ = _ from e6, Option.bind_some, ← en]
    have tail' := tail
    rw [wi64 (x := 0 - nsh q b) (by omega) (by omega), show 0 - nsh q b = -nsh q b by omega] at tail'
    cases up with
    | false => exact tail' _ (q0 rfl)
    | true =>
      simp only [cond_true]
      rw [e7, Option.bind_some]
      simp only
      by_cases hr : nnum q b % nden q b = 0
      · rw [decide_eq_true (show sgn (nnum q b % nden q b) 0 = 0 by omega)]
        exact tail' _ (q1 hr)
      · rw [decide_eq_false (show ¬ sgn (nnum q b % nden q b) 0 = 0 by omega)]
        simp only [Bool.not_false, cond_true]
        rw [e8, Option.bind_some]
        simp only
        rw [show S.whole_Add _ = _ from e9, Option.bind_some]
        exact tail' _ (q2 rfl hr)
end Go.L

/-! ZJ -/
namespace Go.L
open Go.PM
set_option exponentiation.threshold 20000
set_option linter.unusedVariables false
set_option linter.unusedSimpArgs false

theorem first3 : S.ratio_first ([0, 0, 0], ()) = some (0, ()) := rfl
/-- ratio.Add -/
def ratio_Add (a : (Bool × (List Int) × Unit) × (List Int) × Unit) (b : (Bool × (List Int) × Unit) × (List Int) × Unit) : Option (((Bool × (List Int) × Unit) × (List Int) × Unit) × Int × Unit) :=
  (S.ratio_den (((b.1.1, b.1.2.1, ()), b.2.1, ()), ())).bind fun z1 =>
  (S.whole_Mul ((a.1.1, a.1.2.1, ()), (z1.1.1, z1.1.2.1, ()), ())).bind fun z2 =>
  (S.ratio_den (((a.1.1, a.1.2.1, ()), a.2.1, ()), ())).bind fun z3 =>
  (S.whole_Mul ((b.1.1, b.1.2.1, ()), (z3.1.1, z3.1.2.1, ()), ())).bind fun z4 =>
  (S.ratio_den (((a.1.1, a.1.2.1, ()), a.2.1, ()), ())).bind fun z5 =>
  (S.ratio_den (((b.1.1, b.1.2.1, ()), b.2.1, ()), ())).bind fun z6 =>
  (S.whole_Mul ((z5.1.1, z5.1.2.1, ()), (z6.1.1, z6.1.2.1, ()), ())).bind fun z7 =>
  (S.ratio_first ([z2.2.1, z4.2.1, z7.2.1], ())).bind fun z8 =>
  cond (!(decide (z8.1 = 0)))
   (
   (S.ratio_Zero (())).bind fun z9 =>
   some (((z9.1.1.1, z9.1.1.2.1, ()), z9.1.2.1, ()), z8.1, ()))
   (
   (S.whole_Add ((z2.1.1, z2.1.2.1, ()), (z4.1.1, z4.1.2.1, ()), ())).bind fun z10 =>
   cond (!(decide (z10.2.1 = 0)))
   (
   (S.ratio_Zero (())).bind fun z11 =>
   some (((z11.1.1.1, z11.1.1.2.1, ()), z11.1.2.1, ()), z10.2.1, ()))
   (
   (S.ratio_Make ((z10.1.1, z10.1.2.1, ()), (z7.1.1, z7.1.2.1, ()), ())).bind fun z12 =>
   some (((z12.1.1.1, z12.1.1.2.1, ()), z12.1.2.1, ()), z12.2.1, ())))

def S.ratio_Add (x : RT × RT × Unit) : Option (RT × Int × Unit) := L.ratio_Add x.1 x.2.1
theorem rat_add (a b : Rat) : Rat.divInt (a.num * b.den + b.num * a.den) ((a.den : Int) * b.den) = a + b := by
  rw [← Rat.divInt_add_divInt _ _ (den0 a) (den0 b), divInt_self, divInt_self]
theorem big_frac {z m : Int} {k : Nat} (hz : z.natAbs < P k) (hm : m.natAbs < P k) (h0 : m ≠ 0) : big (Rat.divInt z m) k := by
  obtain ⟨p1, p2, _⟩ := divInt_parts z m h0
  exact ⟨by rw [p1]; exact Nat.lt_of_le_of_lt (Nat.div_le_self _ _) hz, by rw [p2]; exact Nat.lt_of_le_of_lt (Nat.div_le_self _ _) hm⟩
theorem ratio_Add_R {a b : Rat} {j k : Nat} (ha : big a j) (hb : big b k) (h : j + k + 1 ≤ 512) : S.ratio_Add (R a, R b, ()) = some (R (a + b), 0, ()) := by
  have da : ((a.den : Int)).natAbs < P j := by rw [Int.natAbs_natCast]; exact ha.2
  have db : ((b.den : Int)).natAbs < P k := by rw [Int.natAbs_natCast]; exact hb.2
  have e1 := whole_Mul_I ha.1 db (by omega)
  have e2 := whole_Mul_I hb.1 da (by omega)
  have e3 := whole_Mul_I da db (by omega)
  have m1 := nA_mul ha.1 db
  have m2 : (b.num * (a.den : Int)).natAbs < P (j + k) := by rw [Nat.add_comm]; exact nA_mul hb.1 da
  have m3 := nA_mul da db
  have e4 := whole_Add_I m1 m2 (by omega)
  have e5 := Make_R (nA_up (nA_add m1 m2) (show j + k + 1 ≤ 512 by omega)) (nA_up m3 (show j + k ≤ 512 by omega)) (Int.mul_ne_zero (den0 a) (den0 b))
  rw [rat_add] at e5
  have e6 := ratio_den_R (P1000 ha.2 (by omega))
  have e7 := ratio_den_R (P1000 hb.2 (by omega))
  have e0 : ∀ x y : RT, S.ratio_Add (x, y, ()) = (S.ratio_den (y, ())).bind fun z1 => (S.whole_Mul (x.1, z1.1, ())).bind fun z2 => (S.ratio_den (x, ())).bind fun z3 => (S.whole_Mul (y.1, z3.1, ())).bind fun z4 => (S.ratio_den (x, ())).bind fun z5 => (S.ratio_den (y, ())).bind fun z6 => (S.whole_Mul (z5.1, z6.1, ())).bind fun z7 => (S.ratio_first ([z2.2.1, z4.2.1, z7.2.1], ())).bind fun z8 =>
      cond (!(decide (z8.1 = 0))) ((S.ratio_Zero (())).bind fun z9 => some (z9.1, z8.1, ()))
      ((S.whole_Add (z2.1, z4.1, ())).bind fun z10 => cond (!(decide (z10.2.1 = 0))) ((S.ratio_Zero (())).bind fun z11 => some (z11.1, z10.2.1, ())) ((S.ratio_Make (z10.1, z7.1, ())).bind fun z12 => some z12)) := fun _ _ => rfl
  rw [e0, e7, Option.bind_some, e1, Option.bind_some, e6, Option.bind_some, e2, Option.bind_some]
  simp only [e6, e7, Option.bind_some]
  rw [e3, Option.bind_some]
  simp only [first3, Option.bind_some, decide_true, Bool.not_true, cond_false]
  rw [e4, Option.bind_some]
  simp only [decide_true, Bool.not_true, cond_false]
  rw [e5, Option.bind_some]
/-- The first ones together. -/
def sumQ (g : Nat → Rat) : Nat → Rat
  | 0 => 0
  | i + 1 => sumQ g i + g i
/-- vec_each: one round of loop 0. -/
def vec_each_s0 (κ0 : (List ((Bool × (List Int) × Unit) × (List Int) × Unit)) → (List ((Bool × (List Int) × Unit) × (List Int) × Unit)) → (((((Bool × (List Int) × Unit) × (List Int) × Unit) × ((Bool × (List Int) × Unit) × (List Int) × Unit) × Unit) → Option (((Bool × (List Int) × Unit) × (List Int) × Unit) × Int × Unit))) → (List ((Bool × (List Int) × Unit) × (List Int) × Unit)) → Int → Int → Option ((List ((Bool × (List Int) × Unit) × (List Int) × Unit)) × Int × Unit)) (a : List ((Bool × (List Int) × Unit) × (List Int) × Unit)) (b : List ((Bool × (List Int) × Unit) × (List Int) × Unit)) (of : ((((Bool × (List Int) × Unit) × (List Int) × Unit) × ((Bool × (List Int) × Unit) × (List Int) × Unit) × Unit) → Option (((Bool × (List Int) × Unit) × (List Int) × Unit) × Int × Unit))) (out : List ((Bool × (List Int) × Unit) × (List Int) × Unit)) (t21 : Int) (t22 : Int) : Option ((List ((Bool × (List Int) × Unit) × (List Int) × Unit)) × Int × Unit) :=
  cond (decide (t22 < t21))
   (
   cond (decide (0 ≤ t22))
   (
   cond (decide (t22 < (a.length : Int)))
   (
   let z2 := a.getD t22.toNat ((false, ([], ())), ([], ()))
   cond (decide (0 ≤ t22))
   (
   cond (decide (t22 < (b.length : Int)))
   (
   let z3 := b.getD t22.toNat ((false, ([], ())), ([], ()))
   (of (((z2.1.1, z2.1.2.1, ()), z2.2.1, ()), ((z3.1.1, z3.1.2.1, ()), z3.2.1, ()), ())).bind fun z4 =>
   cond (!(decide (z4.2.1 = 0))) (some ([], z4.2.1, ()))
   (
   cond (decide (0 ≤ t22))
   (
   cond (decide (t22 < (out.length : Int)))
   (
   κ0 a b of (out.set t22.toNat ((z4.1.1.1, z4.1.1.2.1, ()), z4.1.2.1, ())) t21 (IntKind.i64.wrap (t22 + 1))) none) none)) none) none) none) none) (some (out, 0, ()))

def vec_each_l0 (K : Nat) : Nat → (List ((Bool × (List Int) × Unit) × (List Int) × Unit)) → (List ((Bool × (List Int) × Unit) × (List Int) × Unit)) → (((((Bool × (List Int) × Unit) × (List Int) × Unit) × ((Bool × (List Int) × Unit) × (List Int) × Unit) × Unit) → Option (((Bool × (List Int) × Unit) × (List Int) × Unit) × Int × Unit))) → (List ((Bool × (List Int) × Unit) × (List Int) × Unit)) → Int → Int → Option ((List ((Bool × (List Int) × Unit) × (List Int) × Unit)) × Int × Unit)
  | 0, _, _, _, _, _, _ => none
  | n + 1, a, b, of, out, t21, t22 => vec_each_s0 (vec_each_l0 K n) a b of out t21 t22

/-- vec.each -/
def vec_each_b (I0 : (List ((Bool × (List Int) × Unit) × (List Int) × Unit)) → (List ((Bool × (List Int) × Unit) × (List Int) × Unit)) → (((((Bool × (List Int) × Unit) × (List Int) × Unit) × ((Bool × (List Int) × Unit) × (List Int) × Unit) × Unit) → Option (((Bool × (List Int) × Unit) × (List Int) × Unit) × Int × Unit))) → (List ((Bool × (List Int) × Unit) × (List Int) × Unit)) → Int → Int → Option ((List ((Bool × (List Int) × Unit) × (List Int) × Unit)) × Int × Unit)) (a : List ((Bool × (List Int) × Unit) × (List Int) × Unit)) (b : List ((Bool × (List Int) × Unit) × (List Int) × Unit)) (of : ((((Bool × (List Int) × Unit) × (List Int) × Unit) × ((Bool × (List Int) × Unit) × (List Int) × Unit) × Unit) → Option (((Bool × (List Int) × Unit) × (List Int) × Unit) × Int × Unit))) : Option ((List ((Bool × (List Int) × Unit) × (List Int) × Unit)) × Int × Unit) :=
  cond (!(decide ((a.length : Int) = (b.length : Int)))) (some ([], 20, ()))
   (
   cond (decide (0 ≤ (a.length : Int)))
   (
   cond (decide ((a.length : Int) * 56 ≤ 140737488351232))
   (
   I0 a b of (List.replicate a.length ((false, ([], ())), ([], ())) : List ((Bool × (List Int) × Unit) × (List Int) × Unit)) (a.length : Int) 0) none) none)

def vec_each (K : Nat) (a : List ((Bool × (List Int) × Unit) × (List Int) × Unit)) (b : List ((Bool × (List Int) × Unit) × (List Int) × Unit)) (of : ((((Bool × (List Int) × Unit) × (List Int) × Unit) × ((Bool × (List Int) × Unit) × (List Int) × Unit) × Unit) → Option (((Bool × (List Int) × Unit) × (List Int) × Unit) × Int × Unit))) : Option ((List ((Bool × (List Int) × Unit) × (List Int) × Unit)) × Int × Unit) := vec_each_b (vec_each_l0 K K) a b of

def S.vec_each (x : List RT × List RT × (RT × RT × Unit → Option (RT × Int × Unit)) × Unit) : Option (List RT × Int × Unit) := L.vec_each 100 x.1 x.2.1 x.2.2.1
theorem vec_each_R {n : Nat} {f g h : Nat → Rat} {of : RT × RT × Unit → Option (RT × Int × Unit)} (hn : n ≤ 16) (ho : ∀ i < n, of (R (f i), R (g i), ()) = some (R (h i), 0, ())) : S.vec_each (Vx n (fun i => R (f i)), Vx n (fun i => R (g i)), of, ()) = some (Vx n (fun i => R (h i)), 0, ()) := by
  simp only [S.vec_each, L.vec_each, vec_each_b, Vx_len, decide_true, Bool.not_true, cond_false]
  rw [ct (by omega), ct (by omega), ← Gx_zero n _ (fun i => R (h i))]
  refine loop_up n (Gx n _ (fun i => R (h i))) (fun k s i => vec_each_l0 100 k (Vx n (fun i => R (f i))) (Vx n (fun i => R (g i))) of s (n : Int) i) _ (fun k i hi => ?_) (fun k => ?_) 100 (by omega)
  · simp only [vec_each_l0, vec_each_s0, Vx_len, Gx_len]
    rw [ct (by omega), ct (by omega), ct (by omega), ct (by omega), ct (by omega), Int.toNat_natCast, Vx_get hi, Vx_get hi]
    rw [show of _ = _ from ho i hi, Option.bind_some]
    simp only [decide_true, Bool.not_true, cond_false]
    rw [ct (by omega), ct (by omega), wi1 (by omega)]
    have hs := Gx_set ((false, ([], ())), ([], ())) (fun i => R (h i)) hi
    exact congrArg (fun s => vec_each_l0 100 k (Vx n (fun i => R (f i))) (Vx n (fun i => R (g i))) of s (n : Int) ((i + 1 : Nat) : Int)) hs
  · simp only [vec_each_l0, vec_each_s0]
    rw [cf (by omega), Gx_full]
end Go.L

/-! ZK -/
namespace Go.L
open Go.PM
set_option exponentiation.threshold 20000
set_option linter.unusedVariables false
set_option linter.unusedSimpArgs false

/-- A dyad of an exponent that is not above 0, as a ratio. -/
theorem dyad_Ratio_Yn {x e : Int} {k j : Nat} (hx : x.natAbs < P k) (hk : k ≤ 500) (hkj : k ≤ j) (he0 : -5000 ≤ e) (he1 : e ≤ 0) (hj : -e < 32 * (j : Int)) : S.dyad_Ratio (Yd x e, ()) = some (R (dv x e), 0, ()) ∧ big (dv x e) j := by
  have hbig : big (dv x e) j := by
    obtain ⟨n, rfl⟩ : ∃ n : Nat, e = -(n : Int) := ⟨e.natAbs, by omega⟩
    have hq : Rat.divInt x ((2 ^ n : Nat) : Int) = dv x (-(n : Int)) := by
      unfold dv; rw [Rat.divInt_eq_div, Rat.zpow_neg, tw_nat, pow_cast, Rat.div_def]
    rw [← hq]
    exact big_frac (nA_up hx hkj) (by rw [Int.natAbs_natCast]; exact two_P (by omega)) (by have : 0 < 2 ^ n := Nat.pow_pos (by decide); omega)
  refine ⟨?_, hbig⟩
  by_cases h0 : x = 0
  · subst h0
    have h := (dyad_Ratio_I (z := 0) (e := 0) (k := 1) (P_pos 1) (by decide) (by decide) (by decide) (by decide)).1
    rw [dv_zero] at h
    rw [Yd_zero, dv_zero]; exact h
  · rw [Yd_ne h0]
    have hdv := dv_od x e
    rw [if_neg h0] at hdv
    obtain ⟨t, ht⟩ : ∃ t, tzN x.natAbs = t := ⟨_, rfl⟩
    rw [ht] at hdv ⊢
    have hod := od_mul x
    rw [ht] at hod
    have hz := Yd_abs hx
    have htk := tzN_lt hx
    rw [ht] at htk
    simp only [S.dyad_Ratio, L.dyad_Ratio]
    by_cases h : 0 ≤ e + t
    · obtain ⟨n, hn⟩ : ∃ n : Nat, e + t = n := ⟨(e + t).toNat, by omega⟩
      have hle : (od x).natAbs * 2 ^ n ≤ x.natAbs := by
        have := congrArg Int.natAbs hod
        rw [Int.natAbs_mul, pow_cast, Int.natAbs_natCast] at this
        rw [← this]
        exact Nat.mul_le_mul_left _ (Nat.pow_le_pow_right (by decide) (by omega))
      have e1 := whole_Left_J (a := od x) (n := n) (P40 hz (by omega)) (Nat.lt_of_le_of_lt hle (P40 hx (by omega))) (by omega)
      have hm : (od x * 2 ^ n).natAbs < P 1000 := by
        rw [Int.natAbs_mul, pow_cast, Int.natAbs_natCast]; exact Nat.lt_of_le_of_lt hle (P1000 hx (by omega))
      have e2 := ratio_Whole_R hm
      have hq : ((od x * 2 ^ n : Int) : Rat) = dv x e := by rw [← hdv, hn]; unfold dv; rw [tw_nat, Rat.intCast_mul]
      rw [hq] at e2
      simp only [I] at e1 e2
      rw [ct h, hn]
      simp only [I, e1, e2, Option.bind_some, decide_true, Bool.not_true, cond_false]
    · obtain ⟨n, hn⟩ : ∃ n : Nat, e + t = -(n : Int) := ⟨(e + t).natAbs, by omega⟩
      have hp : 2 ^ n < P 160 := two_pow_lt (by omega)
      have e1 : S.limbs_Left (D 1, (n : Int), ()) = some (D (2 ^ n), 0, ()) := by
        rw [Left_D (P_one 1000 (by decide)), if_neg (by decide), if_neg (by omega), Nat.one_mul, res_in (P40 hp (by decide))]
      have hn0 : ((2 ^ n : Nat) : Int) ≠ 0 := by have : 0 < 2 ^ n := Nat.pow_pos (by decide); omega
      have e2 := whole_Nat_D (P1000 hp (by decide))
      have e3 := Make_R (n := od x) (d := ((2 ^ n : Nat) : Int)) (P40 hz (by omega)) (by rw [nat_abs]; exact P40 hp (by decide)) hn0
      have hq : Rat.divInt (od x) ((2 ^ n : Nat) : Int) = dv x e := by
        rw [← hdv, hn]; unfold dv; rw [Rat.divInt_eq_div, Rat.zpow_neg, tw_nat, pow_cast, Rat.div_def]
      rw [hq] at e3
      simp only [I, R] at e2 e3
      rw [cf h, wi64 (by omega) (by omega), show (0 : Int) - (e + t) = (n : Int) by omega]
      simp only [I, R, Of_one, e1, e2, e3, Option.bind_some, decide_true, Bool.not_true, cond_false]
theorem dyad_Cmp_Yn {x e : Int} {q : Rat} {k i j : Nat} (hx : x.natAbs < P k) (hk : k ≤ 500) (hki : k ≤ i) (he0 : -5000 ≤ e) (he1 : e ≤ 0) (hi : -e < 32 * (i : Int)) (hq : big q j) (hj : i + j ≤ 512) : S.dyad_Cmp (Yd x e, R q, ()) = some (sgq (dv x e) q, 0, ()) := by
  obtain ⟨h1, h2⟩ := dyad_Ratio_Yn hx hk hki he0 he1 hi
  have h3 := ratio_Compare_R h2 hq (by omega)
  have e0 : ∀ (a : DY) (b : RT), S.dyad_Cmp (a, b, ()) = (S.dyad_Ratio (a, ())).bind fun z1 => cond (!(decide (z1.2.1 = 0))) (some (0, z1.2.1, ())) ((S.ratio_Compare (z1.1, b, ())).bind fun z2 => some (z2.1, z2.2.1, ())) := fun _ _ => rfl
  rw [e0, h1, Option.bind_some]
  simp only [decide_true, Bool.not_true, cond_false]
  rw [h3, Option.bind_some]
theorem near_val (q : Rat) (b : Nat) : q * (nden q b : Rat) = dv (nnum q b) (-nsh q b) := by
  have hq : q * (q.den : Int) = (q.num : Rat) := by
    have := divInt_self q
    rw [Rat.divInt_eq_div] at this
    have hd : ((q.den : Int) : Rat) ≠ 0 := by
      have := q.den_pos
      intro h
      have := Rat.intCast_eq_zero_iff.1 h
      omega
    rw [← this]
    rw [Rat.div_def, Rat.mul_assoc]
    have h2 : (((q.num : Rat) * ((q.den : Int) : Rat)⁻¹).den : Int) = q.den := by rw [← Rat.div_def, this]
    rw [h2, Rat.mul_comm _ ((q.den : Int) : Rat), Rat.mul_inv_cancel _ hd, Rat.mul_one]
    rw [← Rat.div_def, this]
  unfold nden nnum dv
  by_cases h : 0 ≤ nsh q b
  · rw [if_pos h, if_pos h, hq]
    obtain ⟨n, hn⟩ : ∃ n : Nat, nsh q b = n := ⟨(nsh q b).toNat, by omega⟩
    rw [hn, Int.toNat_natCast, Rat.intCast_mul, ← tw_nat, Rat.mul_assoc, ← Rat.zpow_add two_ne, show (n : Int) + -(n : Int) = 0 by omega]
    simp
  · rw [if_neg h, if_neg h, Rat.intCast_mul, ← Rat.mul_assoc, hq]
    obtain ⟨n, hn⟩ : ∃ n : Nat, -nsh q b = n := ⟨(-nsh q b).toNat, by omega⟩
    rw [hn, Int.toNat_natCast, ← tw_nat]
theorem near_le {q : Rat} {b : Nat} {z : Int} (h : z * nden q b ≤ nnum q b) : dv z (-nsh q b) ≤ q := by
  have hd : (0 : Rat) < (nden q b : Rat) := Rat.intCast_pos.2 (nden_pos q b)
  apply Rat.le_of_mul_le_mul_right _ hd
  rw [near_val]
  have : dv z (-nsh q b) * (nden q b : Rat) = dv (z * nden q b) (-nsh q b) := by unfold dv; rw [Rat.intCast_mul]; grind
  rw [this]
  exact dv_le.2 h
theorem near_ge {q : Rat} {b : Nat} {z : Int} (h : nnum q b ≤ z * nden q b) : q ≤ dv z (-nsh q b) := by
  have hd : (0 : Rat) < (nden q b : Rat) := Rat.intCast_pos.2 (nden_pos q b)
  apply Rat.le_of_mul_le_mul_right _ hd
  rw [near_val]
  have : dv z (-nsh q b) * (nden q b : Rat) = dv (z * nden q b) (-nsh q b) := by unfold dv; rw [Rat.intCast_mul]; grind
  rw [this]
  exact dv_le.2 h
/-- A ratio, rounded one way, at one exponent for all. -/
def nr (up : Bool) (q : Rat) (b B : Nat) : Int := if q = 0 then 0 else rnd up (nq up q b) b * 2 ^ ((B : Int) - nsh q b).toNat
theorem nr_dv {up : Bool} {q : Rat} {b B : Nat} (h0 : q ≠ 0) (h : nsh q b ≤ B) : dv (nr up q b B) (-(B : Int)) = dv (rnd up (nq up q b) b) (-nsh q b) := by
  unfold nr
  rw [if_neg h0, dv_scale]
  congr 1
  omega
theorem nr_lo {q : Rat} {b B : Nat} (h : nsh q b ≤ B) : dv (nr false q b B) (-(B : Int)) ≤ q := by
  by_cases h0 : q = 0
  · subst h0; unfold nr; rw [if_pos rfl, dv_zero]; exact Rat.le_refl
  · rw [nr_dv h0 h]
    have h1 := (nq_ends false q b).1 rfl
    have h2 := near_le h1
    have h3 : dv (rnd false (nq false q b) b) (-nsh q b) ≤ dv (nq false q b) (-nsh q b) := dv_le.2 (rdn_le _ _)
    exact Rat.le_trans h3 h2
theorem nr_hi {q : Rat} {b B : Nat} (h : nsh q b ≤ B) : q ≤ dv (nr true q b B) (-(B : Int)) := by
  by_cases h0 : q = 0
  · subst h0; unfold nr; rw [if_pos rfl, dv_zero]; exact Rat.le_refl
  · rw [nr_dv h0 h]
    have h1 := (nq_ends true q b).2.1 rfl
    have h2 := near_ge h1
    have h3 : dv (nq true q b) (-nsh q b) ≤ dv (rnd true (nq true q b) b) (-nsh q b) := dv_le.2 (rup_ge _ _)
    exact Rat.le_trans h2 h3
theorem nr_le {q : Rat} {b B : Nat} (h : nsh q b ≤ B) : nr false q b B ≤ nr true q b B := dv_le.1 (Rat.le_trans (nr_lo h) (nr_hi h))
theorem dyad_Near_nr {q : Rat} {b B j : Nat} {up : Bool} (hq : big q j) (hj : j ≤ 20) (hb : 2 ≤ b) (hb' : b ≤ 4096) (hB : nsh q b ≤ B) : S.dyad_Near (R q, (b : Int), up, ()) = some (Yd (nr up q b B) (-(B : Int)), 0, ()) := by
  by_cases h0 : q = 0
  · subst h0
    have e1 := ratio_Sign_R 0
    unfold nr
    rw [if_pos rfl, Yd_zero]
    simp only [S.dyad_Near, L.dyad_Near]
    rw [cf (by omega), cf (by omega), show S.ratio_Sign _ = _ from e1, Option.bind_some]
    rfl
  · rw [dyad_Near_R hq h0 hj hb hb']
    unfold nr
    rw [if_neg h0, Yd_scale]
    congr 3
    omega
theorem span_Near_nr {q : Rat} {b B j : Nat} (hq : big q j) (hj : j ≤ 20) (hb : 2 ≤ b) (hb' : b ≤ 4096) (hB : nsh q b ≤ B) : S.span_Near (R q, (b : Int), ()) = some (Sp (nr false q b B) (nr true q b B) (-(B : Int)), 0, ()) := by
  have e0 : ∀ (a : RT) (b : Int), S.span_Near (a, b, ()) = (S.dyad_Near (a, b, false, ())).bind fun z1 => cond (!(decide (z1.2.1 = 0))) (some (sp0, z1.2.1, ())) ((S.dyad_Near (a, b, true, ())).bind fun z2 => cond (!(decide (z2.2.1 = 0))) (some (sp0, z2.2.1, ())) (some ((z1.1, z2.1, ()), 0, ()))) := fun _ _ => rfl
  rw [e0, dyad_Near_nr hq hj hb hb' hB, Option.bind_some]
  simp only [decide_true, Bool.not_true, cond_false]
  rw [dyad_Near_nr hq hj hb hb' hB, Option.bind_some]
  simp only [decide_true, Bool.not_true, cond_false]
abbrev nrs (q : Nat → Rat) (b B : Nat) (i : Nat) : Int × Int := (nr false (q i) b B, nr true (q i) b B)
theorem vec_Near_nr {n : Nat} {q : Nat → Rat} {b B j : Nat} (hn : n ≤ 16) (hq : ∀ i < n, big (q i) j) (hj : j ≤ 20) (hb : 2 ≤ b) (hb' : b ≤ 4096) (hB : b + 32 * j + 1 ≤ B) : S.vec_Near (Vx n (fun i => R (q i)), (b : Int), ()) = some (Bx n (nrs q b B) (-(B : Int)), 0, ()) := by
  simp only [S.vec_Near, L.vec_Near, vec_Near_b, Vx_len]
  rw [ct (by omega), ct (by omega), ← Gx_zero n _ (fun i => Sp (nrs q b B i).1 (nrs q b B i).2 (-(B : Int)))]
  refine loop_up n (Gx n _ (fun i => Sp (nrs q b B i).1 (nrs q b B i).2 (-(B : Int)))) (fun k s i => vec_Near_l0 100 k (b : Int) s (Vx n (fun i => R (q i))) (n : Int) i) _ (fun k i hi => ?_) (fun k => ?_) 100 (by omega)
  · simp only [vec_Near_l0, vec_Near_s0, Vx_len, Gx_len]
    rw [ct (by omega), ct (by omega), ct (by omega), Int.toNat_natCast, Vx_get hi]
    have hs := nsh_le (b := b) (hq i hi)
    have e1 := span_Near_nr (B := B) (hq i hi) hj hb hb' (by omega)
    rw [show S.span_Near _ = _ from e1, Option.bind_some]
    simp only [decide_true, Bool.not_true, cond_false]
    rw [ct (by omega), ct (by omega), wi1 (by omega)]
    have hs := Gx_set (((false, ([], ())), (0, ())), (((false, ([], ())), (0, ())), ())) (fun i => Sp (nrs q b B i).1 (nrs q b B i).2 (-(B : Int))) hi
    exact congrArg (fun s => vec_Near_l0 100 k (b : Int) s (Vx n (fun i => R (q i))) (n : Int) ((i + 1 : Nat) : Int)) hs
  · simp only [vec_Near_l0, vec_Near_s0]
    rw [cf (by omega), Gx_full]
/-- A number within a span, times a ratio within another one: no more than the greatest product. -/
theorem dv_mul_le {l h g1 g2 x e e' : Int} {q : Rat} (h1 : l ≤ x) (h2 : x ≤ h) (h3 : dv g1 e' ≤ q) (h4 : q ≤ dv g2 e') : dv x e * q ≤ dv (mhi l h g1 g2) (e + e') ∧ dv (mlo l h g1 g2) (e + e') ≤ dv x e * q := by
  have hg : g1 ≤ g2 := dv_le.1 (Rat.le_trans h3 h4)
  have m1 := mul_mid (x := x) (y := g1) (l := l) (h := h) (l' := g1) (h' := g2) h1 h2 (by omega) hg
  have m2 := mul_mid (x := x) (y := g2) (l := l) (h := h) (l' := g1) (h' := g2) h1 h2 hg (by omega)
  have d1 := dv_mul x g1 e e'
  have d2 := dv_mul x g2 e e'
  have n1 : dv (x * g1) (e + e') ≤ dv (mhi l h g1 g2) (e + e') := dv_le.2 m1.2
  have n2 : dv (x * g2) (e + e') ≤ dv (mhi l h g1 g2) (e + e') := dv_le.2 m2.2
  have n3 : dv (mlo l h g1 g2) (e + e') ≤ dv (x * g1) (e + e') := dv_le.2 m1.1
  have n4 : dv (mlo l h g1 g2) (e + e') ≤ dv (x * g2) (e + e') := dv_le.2 m2.1
  rcases Int.le_total 0 x with hx | hx
  · have hx' : 0 ≤ dv x e := by have := (dv_le (x := 0) (y := x) (e := e)).2 hx; rwa [dv_zero] at this
    have a1 := Rat.mul_le_mul_of_nonneg_left h4 hx'
    have a2 := Rat.mul_le_mul_of_nonneg_left h3 hx'
    grind
  · have hx' : dv x e ≤ 0 := by have := (dv_le (x := x) (y := 0) (e := e)).2 hx; rwa [dv_zero] at this
    have a1 := Rat.mul_le_mul_of_nonneg_left h3 (show 0 ≤ -dv x e by grind)
    have a2 := Rat.mul_le_mul_of_nonneg_left h4 (show 0 ≤ -dv x e by grind)
    grind
theorem inR_get {l : List RT} (h : ∀ d ∈ l, inR d) {i : Nat} (hi : i < l.length) : inR (l.getD i rt0) := by
  apply h
  rw [List.getD_eq_getElem?_getD, List.getElem?_eq_getElem hi]; exact List.getElem_mem hi
theorem big_len {q : Rat} {n m : Nat} (h1 : (D q.num.natAbs).length ≤ n) (h2 : (D q.den).length ≤ n) : big q n := ⟨Nat.lt_of_lt_of_le (dlen_lt _) (P_mono h1), Nat.lt_of_lt_of_le (dlen_lt _) (P_mono h2)⟩
end Go.L
