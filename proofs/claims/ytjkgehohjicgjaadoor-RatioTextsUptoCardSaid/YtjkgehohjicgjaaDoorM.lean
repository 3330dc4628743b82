/-
  ratios near dyads. ratios: sums; corners of boxes in a direction. the law of boxes in a direction.
  No condition beyond those that each theorem names.
-/
import Derived.Test.YtjkgehohjicgjaaDoorL

/-! ZI -/
namespace Go.L
open Go.PM
set_option exponentiation.threshold 20000
set_option linter.unusedVariables false
set_option linter.unusedSimpArgs false

/-- By how many places a ratio is shifted; what stands above and below then; the quotient. -/
def nsh (q : Rat) (b : Nat) : Int := (b : Int) - bl q.num + bl (q.den : Int) + 1
def nnum (q : Rat) (b : Nat) : Int := if 0 ≤ nsh q b then q.num * 2 ^ (nsh q b).toNat else q.num
def nden (q : Rat) (b : Nat) : Int := if 0 ≤ nsh q b then q.den else q.den * 2 ^ (-nsh q b).toNat
def nq (up : Bool) (q : Rat) (b : Nat) : Int := bif up && decide (nnum q b % nden q b ≠ 0) then nnum q b / nden q b + 1 else nnum q b / nden q b
end Go.L

/-! ZJ -/
namespace Go.L
open Go.PM
set_option exponentiation.threshold 20000
set_option linter.unusedVariables false
set_option linter.unusedSimpArgs false

theorem first3 : S.ratio_first ([0, 0, 0], ()) = some (0, ()) := rfl
/-- ratio.Add -/
def ratio_Add (a : (Bool × (List Int) × Unit) × (List Int) × Unit) (b : (Bool × (List Int) × Unit) × (List Int) × Unit) : Option (((Bool × (List Int) × Unit) × (List Int) × Unit) × Int × Unit) :=
  (S.ratio_den (((b.1.1, b.1.2.1, ()), b.2.1, ()), ())).bind fun z1 =>
  (S.whole_Mul ((a.1.1, a.1.2.1, ()), (z1.1.1, z1.1.2.1, ()), ())).bind fun z2 =>
  (S.ratio_den (((a.1.1, a.1.2.1, ()), a.2.1, ()), ())).bind fun z3 =>
  (S.whole_Mul ((b.1.1, b.1.2.1, ()), (z3.1.1, z3.1.2.1, ()), ())).bind fun z4 =>
  (S.ratio_den (((a.1.1, a.1.2.1, ()), a.2.1, ()), ())).bind fun z5 =>
  (S.ratio_den (((b.1.1, b.1.2.1, ()), b.2.1, ()), ())).bind fun z6 =>
  (S.whole_Mul ((z5.1.1, z5.1.2.1, ()), (z6.1.1, z6.1.2.1, ()), ())).bind fun z7 =>
  (S.ratio_first ([z2.2.1, z4.2.1, z7.2.1], ())).bind fun z8 =>
  cond (!(decide (z8.1 = 0)))
    (
      (S.ratio_Zero (())).bind fun z9 =>
      some (((z9.1.1.1, z9.1.1.2.1, ()), z9.1.2.1, ()), z8.1, ()))
    (
      (S.whole_Add ((z2.1.1, z2.1.2.1, ()), (z4.1.1, z4.1.2.1, ()), ())).bind fun z10 =>
      cond (!(decide (z10.2.1 = 0)))
        (
          (S.ratio_Zero (())).bind fun z11 =>
          some (((z11.1.1.1, z11.1.1.2.1, ()), z11.1.2.1, ()), z10.2.1, ()))
        (
          (S.ratio_Make ((z10.1.1, z10.1.2.1, ()), (z7.1.1, z7.1.2.1, ()), ())).bind fun z12 =>
          some (((z12.1.1.1, z12.1.1.2.1, ()), z12.1.2.1, ()), z12.2.1, ())))

def S.ratio_Add (x : RT × RT × Unit) : Option (RT × Int × Unit) := L.ratio_Add x.1 x.2.1
theorem rat_add (a b : Rat) : Rat.divInt (a.num * b.den + b.num * a.den) ((a.den : Int) * b.den) = a + b := by
  rw [← Rat.divInt_add_divInt _ _ (den0 a) (den0 b), divInt_self, divInt_self]
theorem big_frac {z m : Int} {k : Nat} (hz : z.natAbs < P k) (hm : m.natAbs < P k) (h0 : m ≠ 0) : big (Rat.divInt z m) k := by
  obtain ⟨p1, p2, _⟩ := divInt_parts z m h0
  exact ⟨by rw [p1]; exact Nat.lt_of_le_of_lt (Nat.div_le_self _ _) hz, by rw [p2]; exact Nat.lt_of_le_of_lt (Nat.div_le_self _ _) hm⟩
theorem ratio_Add_R {a b : Rat} {j k : Nat} (ha : big a j) (hb : big b k) (h : j + k + 1 ≤ 512) : S.ratio_Add (R a, R b, ()) = some (R (a + b), 0, ()) := by
  have da : ((a.den : Int)).natAbs < P j := by rw [Int.natAbs_natCast]; exact ha.2
  have db : ((b.den : Int)).natAbs < P k := by rw [Int.natAbs_natCast]; exact hb.2
  have e1 := whole_Mul_I ha.1 db (by omega)
  have e2 := whole_Mul_I hb.1 da (by omega)
  have e3 := whole_Mul_I da db (by omega)
  have m1 := nA_mul ha.1 db
  have m2 : (b.num * (a.den : Int)).natAbs < P (j + k) := by rw [Nat.add_comm]; exact nA_mul hb.1 da
  have m3 := nA_mul da db
  have e4 := whole_Add_I m1 m2 (by omega)
  have e5 := Make_R (nA_up (nA_add m1 m2) (show j + k + 1 ≤ 512 by omega)) (nA_up m3 (show j + k ≤ 512 by omega)) (Int.mul_ne_zero (den0 a) (den0 b))
  rw [rat_add] at e5
  have e6 := ratio_den_R (P1000 ha.2 (by omega))
  have e7 := ratio_den_R (P1000 hb.2 (by omega))
  have e0 : ∀ x y : RT, S.ratio_Add (x, y, ()) = (S.ratio_den (y, ())).bind fun z1 => (S.whole_Mul (x.1, z1.1, ())).bind fun z2 => (S.ratio_den (x, ())).bind fun z3 => (S.whole_Mul (y.1, z3.1, ())).bind fun z4 => (S.ratio_den (x, ())).bind fun z5 => (S.ratio_den (y, ())).bind fun z6 => (S.whole_Mul (z5.1, z6.1, ())).bind fun z7 => (S.ratio_first ([z2.2.1, z4.2.1, z7.2.1], ())).bind fun z8 =>
      cond (!(decide (z8.1 = 0))) ((S.ratio_Zero (())).bind fun z9 => some (z9.1, z8.1, ()))
      ((S.whole_Add (z2.1, z4.1, ())).bind fun z10 => cond (!(decide (z10.2.1 = 0))) ((S.ratio_Zero (())).bind fun z11 => some (z11.1, z10.2.1, ())) ((S.ratio_Make (z10.1, z7.1, ())).bind fun z12 => some z12)) := fun _ _ => rfl
  rw [e0, e7, Option.bind_some, e1, Option.bind_some, e6, Option.bind_some, e2, Option.bind_some]
  simp only [e6, e7, Option.bind_some]
  rw [e3, Option.bind_some]
  simp only [first3, Option.bind_some, decide_true, Bool.not_true, cond_false]
  rw [e4, Option.bind_some]
  simp only [decide_true, Bool.not_true, cond_false]
  rw [e5, Option.bind_some]
theorem big_add {a b : Rat} {j k : Nat} (ha : big a j) (hb : big b k) : big (a + b) (j + k + 1) := by
  have da : ((a.den : Int)).natAbs < P j := by rw [Int.natAbs_natCast]; exact ha.2
  have db : ((b.den : Int)).natAbs < P k := by rw [Int.natAbs_natCast]; exact hb.2
  rw [← rat_add]
  have m2 : (b.num * (a.den : Int)).natAbs < P (j + k) := by rw [Nat.add_comm]; exact nA_mul hb.1 da
  exact big_frac (nA_add (nA_mul ha.1 db) m2) (nA_up (nA_mul da db) (by omega)) (Int.mul_ne_zero (den0 a) (den0 b))
/-- ratio_Sum: one round of loop 0. -/
def ratio_Sum_s0 (κ0 : Bool → (List Int) → (List Int) → Bool → (List Int) → (List Int) → (List ((Bool × (List Int) × Unit) × (List Int) × Unit)) → Int → Int → Option (((Bool × (List Int) × Unit) × (List Int) × Unit) × Int × Unit)) (t2_0 : Bool) (t2_1 : List Int) (t2_2 : List Int) (out_0 : Bool) (out_1 : List Int) (out_2 : List Int) (t9 : List ((Bool × (List Int) × Unit) × (List Int) × Unit)) (t10 : Int) (t11 : Int) : Option (((Bool × (List Int) × Unit) × (List Int) × Unit) × Int × Unit) :=
  cond (decide (t11 < t10))
    (
      cond (decide (0 ≤ t11))
        (
          cond (decide (t11 < (t9.length : Int)))
            (
              let z2 := t9.getD t11.toNat ((false, ([], ())), ([], ()))
              (S.ratio_Add (((out_0, out_1, ()), out_2, ()), ((z2.1.1, z2.1.2.1, ()), z2.2.1, ()), ())).bind fun z3 =>
              cond (!(decide (z3.2.1 = 0)))
                (
                  (S.ratio_Zero (())).bind fun z4 =>
                  some (((z4.1.1.1, z4.1.1.2.1, ()), z4.1.2.1, ()), z3.2.1, ())) (κ0 t2_0 t2_1 t2_2 z3.1.1.1 z3.1.1.2.1 z3.1.2.1 t9 t10 (IntKind.i64.wrap (t11 + 1)))) none) none) (some (((out_0, out_1, ()), out_2, ()), 0, ()))

def ratio_Sum_l0 (K : Nat) : Nat → Bool → (List Int) → (List Int) → Bool → (List Int) → (List Int) → (List ((Bool × (List Int) × Unit) × (List Int) × Unit)) → Int → Int → Option (((Bool × (List Int) × Unit) × (List Int) × Unit) × Int × Unit)
  | 0, _, _, _, _, _, _, _, _, _ => none
  | n + 1, t2_0, t2_1, t2_2, out_0, out_1, out_2, t9, t10, t11 => ratio_Sum_s0 (ratio_Sum_l0 K n) t2_0 t2_1 t2_2 out_0 out_1 out_2 t9 t10 t11

/-- ratio.Sum -/
def ratio_Sum_b (I0 : Bool → (List Int) → (List Int) → Bool → (List Int) → (List Int) → (List ((Bool × (List Int) × Unit) × (List Int) × Unit)) → Int → Int → Option (((Bool × (List Int) × Unit) × (List Int) × Unit) × Int × Unit)) (list : List ((Bool × (List Int) × Unit) × (List Int) × Unit)) : Option (((Bool × (List Int) × Unit) × (List Int) × Unit) × Int × Unit) :=
  (S.ratio_Zero (())).bind fun z1 =>
  I0 false [] [] z1.1.1.1 z1.1.1.2.1 z1.1.2.1 list (list.length : Int) 0

def ratio_Sum (K : Nat) (list : List ((Bool × (List Int) × Unit) × (List Int) × Unit)) : Option (((Bool × (List Int) × Unit) × (List Int) × Unit) × Int × Unit) := ratio_Sum_b (ratio_Sum_l0 K K) list

def S.ratio_Sum (x : List RT × Unit) : Option (RT × Int × Unit) := L.ratio_Sum 100 x.1
/-- The first ones together. -/
def sumQ (g : Nat → Rat) : Nat → Rat
  | 0 => 0
  | i + 1 => sumQ g i + g i
theorem ratio_Sum_R {n : Nat} {g : Nat → Rat} {j k : Nat} (hn : n ≤ 16) (hg : ∀ i < n, big (g i) j) (hs : ∀ i < n, big (sumQ g i) k) (h : j + k + 1 ≤ 512) : S.ratio_Sum (Vx n (fun i => R (g i)), ()) = some (R (sumQ g n), 0, ()) := by
  simp only [S.ratio_Sum, L.ratio_Sum, ratio_Sum_b, Vx_len]
  rw [ratio_Zero_R, Option.bind_some]
  have := loop_up n (fun i => R (sumQ g i)) (fun k s i => ratio_Sum_l0 100 k false [] [] s.1.1 s.1.2.1 s.2.1 (Vx n (fun i => R (g i))) (n : Int) i) (some (R (sumQ g n), 0, ())) (fun k' i hi => ?_) (fun k => ?_) 100 (by omega)
  · exact this
  · simp only [ratio_Sum_l0, ratio_Sum_s0, Vx_len]
    rw [ct (by omega), ct (by omega), ct (by omega), Int.toNat_natCast, Vx_get hi]
    have e1 := ratio_Add_R (hs i hi) (hg i hi) (by omega)
    rw [show S.ratio_Add _ = _ from e1, Option.bind_some]
    simp only [decide_true, Bool.not_true, cond_false]
    rw [wi1 (by omega)]
    rfl
  · simp only [ratio_Sum_l0, ratio_Sum_s0]
    rw [cf (by omega)]
end Go.L

/-! ZK -/
namespace Go.L
open Go.PM
set_option exponentiation.threshold 20000
set_option linter.unusedVariables false
set_option linter.unusedSimpArgs false

theorem inR_get {l : List RT} (h : ∀ d ∈ l, inR d) {i : Nat} (hi : i < l.length) : inR (l.getD i rt0) := by
  apply h
  rw [List.getD_eq_getElem?_getD, List.getElem?_eq_getElem hi]; exact List.getElem_mem hi
theorem big_len {q : Rat} {n m : Nat} (h1 : (D q.num.natAbs).length ≤ n) (h2 : (D q.den).length ≤ n) : big q n := ⟨Nat.lt_of_lt_of_le (dlen_lt _) (P_mono h1), Nat.lt_of_lt_of_le (dlen_lt _) (P_mono h2)⟩
end Go.L
