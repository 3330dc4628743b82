/-
  sets: what is reckoned of them. sets: what tables make of them. sets: what states they hold.
  No condition beyond those that each theorem names.
-/
import Derived.Test.YtdgldaahflpndaaGreatDoorT

/-! DA -/
namespace Go.L
open Go.PM
set_option exponentiation.threshold 20000
set_option linter.unusedVariables false
set_option linter.unusedSimpArgs false

theorem nr_small {up : Bool} {q : Rat} {b B j : Nat} (hq : big q j) (hj : j ≤ 2) (hb1 : 1 ≤ b) (hb : b ≤ 120) (hB : B ≤ 300) : (nr up q b B).natAbs < P 17 := by
  unfold nr
  by_cases h0 : q = 0
  · rw [if_pos h0]; exact P_pos _
  · rw [if_neg h0]
    have h1 := nq_small up (b := b) h0
    have hp : (2 : Int) ^ (b + 2) ≤ 2 ^ 122 := int_pow_le (by omega)
    have h2 : (nq up q b).natAbs < P 4 := by
      have : ((nq up q b).natAbs : Int) < ((P 4 : Nat) : Int) := by
        have e : ((P 4 : Nat) : Int) = 2 ^ 128 := by decide +kernel
        have e2 : (2 : Int) ^ 122 < 2 ^ 128 := by decide +kernel
        omega
      omega
    have hs := nsh_le (b := b) hq
    have h3 : ((2 : Int) ^ ((B : Int) - nsh q b).toNat).natAbs < P 12 := by
      rw [Int.natAbs_pow]
      refine Nat.lt_of_le_of_lt (Nat.pow_le_pow_right (by decide) (show ((B : Int) - nsh q b).toNat ≤ 364 by omega)) ?_
      decide +kernel
    exact nA_mul (rnd_abs h2) h3
theorem nrs_small {n : Nat} {q : Nat → Rat} {b B j : Nat} (hq : ∀ i < n, big (q i) j) (hj : j ≤ 2) (hb1 : 1 ≤ b) (hb : b ≤ 120) (hB : B ≤ 300) : bb n (nrs q b B) 17 := fun i hi => ⟨nr_small (hq i hi) hj hb1 hb hB, nr_small (hq i hi) hj hb1 hb hB⟩
/-- vec_Norm: one round of loop 0. -/
def vec_Norm_s0 (κ0 : Bool → (List Int) → Int → Bool → (List Int) → Int → (List SP) → Int → Int → Option (DY × Unit)) (t2_0 : Bool) (t2_1 : List Int) (t2_2 : Int) (most_0 : Bool) (most_1 : List Int) (most_2 : Int) (t6 : List SP) (t7 : Int) (t8 : Int) : Option (DY × Unit) :=
  cond (decide (t8 < t7))
    (
      cond (decide (0 ≤ t8))
        (
          cond (decide (t8 < (t6.length : Int)))
            (
              let z1 := t6.getD t8.toNat (((false, ([], ())), (0, ())), (((false, ([], ())), (0, ())), ()))
              (S.span_Size ((((z1.1.1.1, z1.1.1.2.1, ()), z1.1.2.1, ()), ((z1.2.1.1.1, z1.2.1.1.2.1, ()), z1.2.1.2.1, ()), ()), ())).bind fun z2 =>
              (S.dyad_Max (((most_0, most_1, ()), most_2, ()), ((z2.1.1.1, z2.1.1.2.1, ()), z2.1.2.1, ()), ())).bind fun z3 =>
              κ0 t2_0 t2_1 t2_2 z3.1.1.1 z3.1.1.2.1 z3.1.2.1 t6 t7 (IntKind.i64.wrap (t8 + 1))) none) none) (some (((most_0, most_1, ()), most_2, ()), ()))

def vec_Norm_l0 (K : Nat) : Nat → Bool → (List Int) → Int → Bool → (List Int) → Int → (List SP) → Int → Int → Option (DY × Unit)
  | 0, _, _, _, _, _, _, _, _, _ => none
  | n + 1, t2_0, t2_1, t2_2, most_0, most_1, most_2, t6, t7, t8 => vec_Norm_s0 (vec_Norm_l0 K n) t2_0 t2_1 t2_2 most_0 most_1 most_2 t6 t7 t8

/-- vec.Norm -/
def vec_Norm_b (I0 : Bool → (List Int) → Int → Bool → (List Int) → Int → (List SP) → Int → Int → Option (DY × Unit)) (a : List SP) : Option (DY × Unit) :=
  I0 false [] 0 false [] 0 a (a.length : Int) 0

def vec_Norm (K : Nat) (a : List SP) : Option (DY × Unit) := vec_Norm_b (vec_Norm_l0 K K) a

def S.vec_Norm (x : List SP × Unit) : Option (DY × Unit) := L.vec_Norm 100 x.1
def nm (f : Nat → Int × Int) : Nat → Int
  | 0 => 0
  | i + 1 => max (nm f i) (sz2 (f i))
/-- zono.Reach -/
def zono_Reach (z : ZN) (bits : Int) : Option (DY × Int × Unit) :=
  (S.zono_Box ((z.1, z.2.1, z.2.2.1, ()), bits, ())).bind fun z1 =>
  cond (!(decide (z1.2.1 = 0))) (some (((false, [], ()), 0, ()), z1.2.1, ()))
    (
      (S.vec_Norm (z1.1, ())).bind fun z2 =>
      some (((z2.1.1.1, z2.1.1.2.1, ()), z2.1.2.1, ()), 0, ()))

def S.zono_Reach (x : ZN × Int × Unit) : Option (DY × Int × Unit) := L.zono_Reach x.1 x.2.1
/-- zono_Check: one round of loop 1. -/
def zono_Check_s1 (κ0 : Int → (List DY) → (List (List DY)) → (List DY) → (List (List DY)) → Int → Int → Option (Int × Unit)) (κ1 : Int → (List DY) → (List (List DY)) → (List DY) → (List (List DY)) → Int → Int → (List DY) → Int → Int → Option (Int × Unit)) (n2 : Int) (z_0 : List DY) (z_1 : List (List DY)) (z_2 : List DY) (t43 : List (List DY)) (t44 : Int) (t45 : Int) (t53 : List DY) (t54 : Int) (t55 : Int) : Option (Int × Unit) :=
  cond (decide (t55 < t54))
    (
      cond (decide (0 ≤ t55))
        (
          cond (decide (t55 < (t53.length : Int)))
            (
              let z3 := t53.getD t55.toNat ((false, ([], ())), (0, ()))
              (S.dyad_Check (((z3.1.1, z3.1.2.1, ()), z3.2.1, ()), ())).bind fun z4 =>
              cond (!(decide (z4.1 = 0))) (some (z4.1, ())) (κ1 n2 z_0 z_1 z_2 t43 t44 t45 t53 t54 (IntKind.i64.wrap (t55 + 1)))) none) none) (κ0 n2 z_0 z_1 z_2 t43 t44 (IntKind.i64.wrap (t45 + 1)))

def zono_Check_l1 (K : Nat) (κ0 : Int → (List DY) → (List (List DY)) → (List DY) → (List (List DY)) → Int → Int → Option (Int × Unit)) : Nat → Int → (List DY) → (List (List DY)) → (List DY) → (List (List DY)) → Int → Int → (List DY) → Int → Int → Option (Int × Unit)
  | 0, _, _, _, _, _, _, _, _, _, _ => none
  | n + 1, n2, z_0, z_1, z_2, t43, t44, t45, t53, t54, t55 => zono_Check_s1 κ0 (zono_Check_l1 K κ0 n) n2 z_0 z_1 z_2 t43 t44 t45 t53 t54 t55

/-- zono_Check: one round of loop 2. -/
def zono_Check_s2 (κ0 : Int → (List DY) → (List (List DY)) → (List DY) → (List (List DY)) → Int → Int → Option (Int × Unit)) (κ2 : (List DY) → Int → Int → Option (Int × Unit)) (t67 : List DY) (t68 : Int) (t69 : Int) : Option (Int × Unit) :=
  cond (decide (t69 < t68))
    (
      cond (decide (0 ≤ t69))
        (
          cond (decide (t69 < (t67.length : Int)))
            (
              let z7 := t67.getD t69.toNat ((false, ([], ())), (0, ()))
              (S.dyad_Sign (((z7.1.1, z7.1.2.1, ()), z7.2.1, ()), ())).bind fun z8 =>
              cond (decide (z8.1 < 0)) (some (1, ())) (κ2 t67 t68 (IntKind.i64.wrap (t69 + 1)))) none) none) (some (0, ()))

def zono_Check_l2 (K : Nat) (κ0 : Int → (List DY) → (List (List DY)) → (List DY) → (List (List DY)) → Int → Int → Option (Int × Unit)) : Nat → (List DY) → Int → Int → Option (Int × Unit)
  | 0, _, _, _ => none
  | n + 1, t67, t68, t69 => zono_Check_s2 κ0 (zono_Check_l2 K κ0 n) t67 t68 t69

/-- zono_Check: one round of loop 0. -/
def zono_Check_s0 (I1 : Int → (List DY) → (List (List DY)) → (List DY) → (List (List DY)) → Int → Int → (List DY) → Int → Int → Option (Int × Unit)) (I2 : (List DY) → Int → Int → Option (Int × Unit)) (κ0 : Int → (List DY) → (List (List DY)) → (List DY) → (List (List DY)) → Int → Int → Option (Int × Unit)) (n2 : Int) (z_0 : List DY) (z_1 : List (List DY)) (z_2 : List DY) (t43 : List (List DY)) (t44 : Int) (t45 : Int) : Option (Int × Unit) :=
  cond (decide (t45 < t44))
    (
      cond (decide (0 ≤ t45))
        (
          cond (decide (t45 < (t43.length : Int)))
            (
              let z2 := t43.getD t45.toNat []
              cond (!(decide ((z2.length : Int) = n2))) (some (20, ())) (I1 n2 z_0 z_1 z_2 t43 t44 t45 z2 (z2.length : Int) 0)) none) none) (I2 z_2 (z_2.length : Int) 0)

def zono_Check_l0 (K : Nat) : Nat → Int → (List DY) → (List (List DY)) → (List DY) → (List (List DY)) → Int → Int → Option (Int × Unit)
  | 0, _, _, _, _, _, _, _ => none
  | n + 1, n2, z_0, z_1, z_2, t43, t44, t45 => zono_Check_s0 (zono_Check_l1 K (zono_Check_l0 K n) K) (zono_Check_l2 K (zono_Check_l0 K n) K) (zono_Check_l0 K n) n2 z_0 z_1 z_2 t43 t44 t45

/-- zono.Check -/
def zono_Check_b (I0 : Int → (List DY) → (List (List DY)) → (List DY) → (List (List DY)) → Int → Int → Option (Int × Unit)) (z : ZN) (n : Int) : Option (Int × Unit) :=
  cond (decide (n < 0)) (some (20, ()))
    (
      cond (decide (16 < n)) (some (20, ()))
        (
          cond (!(decide ((z.1.length : Int) = n))) (some (20, ()))
            (
              cond (!(decide ((z.2.2.1.length : Int) = n))) (some (20, ()))
                (
                  cond (decide (4096 < (z.2.1.length : Int))) (some (32, ()))
                    (
                      cond (decide ((([z.1, z.2.2.1]).length + z.2.1.length) * 24 ≤ 140737488351232))
                        (
                          let z1 := ([z.1, z.2.2.1]) ++ z.2.1
                          I0 n z.1 z.2.1 z.2.2.1 z1 (z1.length : Int) 0) none)))))

def zono_Check (K : Nat) (z : ZN) (n : Int) : Option (Int × Unit) := zono_Check_b (zono_Check_l0 K K) z n

def S.zono_Check (x : ZN × Int × Unit) : Option (Int × Unit) := L.zono_Check 100 x.1 x.2.1
/-- zono_Wider: one round of loop 0. -/
def zono_Wider_s0 (κ0 : Int → (List DY) → (List (List DY)) → (List DY) → Bool → (List Int) → Int → (List DY) → (List (List DY)) → (List DY) → (List DY) → Int → Int → Option (ZN × Int × Unit)) (bits : Int) (z_0 : List DY) (z_1 : List (List DY)) (z_2 : List DY) (by_0 : Bool) (by_1 : List Int) (by_2 : Int) (t6_0 : List DY) (t6_1 : List (List DY)) (t6_2 : List DY) (all : List DY) (t17 : Int) (t18 : Int) : Option (ZN × Int × Unit) :=
  cond (decide (t18 < t17))
    (
      (S.dyad_Abs (((by_0, by_1, ()), by_2, ()), ())).bind fun z2 =>
      cond (decide (0 ≤ t18))
        (
          cond (decide (t18 < (all.length : Int)))
            (
              κ0 bits z_0 z_1 z_2 by_0 by_1 by_2 t6_0 t6_1 t6_2 (all.set t18.toNat ((z2.1.1.1, z2.1.1.2.1, ()), z2.1.2.1, ())) t17 (IntKind.i64.wrap (t18 + 1))) none) none)
    (
      (S.zono_wider (z_2, all, bits, ())).bind fun z5 =>
      some ((z_0, z_1, z5.1, ()), z5.2.1, ()))

def zono_Wider_l0 (K : Nat) : Nat → Int → (List DY) → (List (List DY)) → (List DY) → Bool → (List Int) → Int → (List DY) → (List (List DY)) → (List DY) → (List DY) → Int → Int → Option (ZN × Int × Unit)
  | 0, _, _, _, _, _, _, _, _, _, _, _, _, _ => none
  | n + 1, bits, z_0, z_1, z_2, by_0, by_1, by_2, t6_0, t6_1, t6_2, all, t17, t18 => zono_Wider_s0 (zono_Wider_l0 K n) bits z_0 z_1 z_2 by_0 by_1 by_2 t6_0 t6_1 t6_2 all t17 t18

/-- zono.Wider -/
def zono_Wider_b (I0 : Int → (List DY) → (List (List DY)) → (List DY) → Bool → (List Int) → Int → (List DY) → (List (List DY)) → (List DY) → (List DY) → Int → Int → Option (ZN × Int × Unit)) (z : ZN) (by_ : DY) (bits : Int) : Option (ZN × Int × Unit) :=
  cond (decide (0 ≤ (z.2.2.1.length : Int)))
    (
      cond (decide ((z.2.2.1.length : Int) * 40 ≤ 140737488351232))
        (
          let z1 := (List.replicate z.2.2.1.length ((false, ([], ())), (0, ())) : List DY)
          I0 bits z.1 z.2.1 z.2.2.1 by_.1.1 by_.1.2.1 by_.2.1 [] [] [] z1 (z1.length : Int) 0) none) none

def zono_Wider (K : Nat) (z : ZN) (by_ : DY) (bits : Int) : Option (ZN × Int × Unit) := zono_Wider_b (zono_Wider_l0 K K) z by_ bits

def S.zono_Wider (x : ZN × DY × Int × Unit) : Option (ZN × Int × Unit) := L.zono_Wider 100 x.1 x.2.1 x.2.2.1
/-- vec_Plus: one round of loop 0. -/
def vec_Plus_s0 (κ0 : (List SP) → (List SP) → Int → (List SP) → Int → Int → Option ((List SP) × Int × Unit)) (a : List SP) (b : List SP) (bits : Int) (out : List SP) (t21 : Int) (t22 : Int) : Option ((List SP) × Int × Unit) :=
  cond (decide (t22 < t21))
    (
      cond (decide (0 ≤ t22))
        (
          cond (decide (t22 < (a.length : Int)))
            (
              let z2 := a.getD t22.toNat (((false, ([], ())), (0, ())), (((false, ([], ())), (0, ())), ()))
              cond (decide (0 ≤ t22))
                (
                  cond (decide (t22 < (b.length : Int)))
                    (
                      let z3 := b.getD t22.toNat (((false, ([], ())), (0, ())), (((false, ([], ())), (0, ())), ()))
                      (S.span_Add ((((z2.1.1.1, z2.1.1.2.1, ()), z2.1.2.1, ()), ((z2.2.1.1.1, z2.2.1.1.2.1, ()), z2.2.1.2.1, ()), ()), (((z3.1.1.1, z3.1.1.2.1, ()), z3.1.2.1, ()), ((z3.2.1.1.1, z3.2.1.1.2.1, ()), z3.2.1.2.1, ()), ()), bits, ())).bind fun z4 =>
                      cond (!(decide (z4.2.1 = 0))) (some ([], z4.2.1, ()))
                        (
                          cond (decide (0 ≤ t22))
                            (
                              cond (decide (t22 < (out.length : Int)))
                                (
                                  κ0 a b bits (out.set t22.toNat (((z4.1.1.1.1, z4.1.1.1.2.1, ()), z4.1.1.2.1, ()), ((z4.1.2.1.1.1, z4.1.2.1.1.2.1, ()), z4.1.2.1.2.1, ()), ())) t21 (IntKind.i64.wrap (t22 + 1))) none) none)) none) none) none) none) (some (out, 0, ()))

def vec_Plus_l0 (K : Nat) : Nat → (List SP) → (List SP) → Int → (List SP) → Int → Int → Option ((List SP) × Int × Unit)
  | 0, _, _, _, _, _, _ => none
  | n + 1, a, b, bits, out, t21, t22 => vec_Plus_s0 (vec_Plus_l0 K n) a b bits out t21 t22

/-- vec.Plus -/
def vec_Plus_b (I0 : (List SP) → (List SP) → Int → (List SP) → Int → Int → Option ((List SP) × Int × Unit)) (a : List SP) (b : List SP) (bits : Int) : Option ((List SP) × Int × Unit) :=
  cond (!(decide ((a.length : Int) = (b.length : Int)))) (some ([], 20, ()))
    (
      cond (decide (0 ≤ (a.length : Int)))
        (
          cond (decide ((a.length : Int) * 80 ≤ 140737488351232))
            (
              I0 a b bits (List.replicate a.length (((false, ([], ())), (0, ())), (((false, ([], ())), (0, ())), ())) : List SP) (a.length : Int) 0) none) none)

def vec_Plus (K : Nat) (a : List SP) (b : List SP) (bits : Int) : Option ((List SP) × Int × Unit) := vec_Plus_b (vec_Plus_l0 K K) a b bits

def S.vec_Plus (x : List SP × List SP × Int × Unit) : Option (List SP × Int × Unit) := L.vec_Plus 100 x.1 x.2.1 x.2.2.1
/-- zono.Add -/
def zono_Add (a : ZN) (b : ZN) (bits : Int) : Option (ZN × Int × Unit) :=
  cond (!(decide ((a.1.length : Int) = (b.1.length : Int)))) (some (([], [], [], ()), 20, ()))
    (
      cond (decide (4096 < (IntKind.i64.wrap ((a.2.1.length : Int) + (b.2.1.length : Int))))) (some (([], [], [], ()), 32, ()))
        (
          (S.zono_points (a.1, ())).bind fun z2 =>
          (S.zono_points (b.1, ())).bind fun z3 =>
          (S.vec_Plus (z2.1, z3.1, bits, ())).bind fun z4 =>
          cond (!(decide (z4.2.1 = 0))) (some (([], [], [], ()), z4.2.1, ()))
            (
              (S.zono_middles (z4.1, bits, ())).bind fun z5 =>
              cond (!(decide (z5.2.2.1 = 0))) (some (([], [], [], ()), z5.2.2.1, ()))
                (
                  (S.zono_wider (z5.2.1, a.2.2.1, bits, ())).bind fun z6 =>
                  cond (!(decide (z6.2.1 = 0))) (some (([], [], [], ()), z6.2.1, ()))
                    (
                      (S.zono_wider (z6.1, b.2.2.1, bits, ())).bind fun z7 =>
                      cond (!(decide (z7.2.1 = 0))) (some (([], [], [], ()), z7.2.1, ()))
                        (
                          cond (decide (a.2.1.length * 24 ≤ 140737488351232))
                            (
                              cond (decide ((a.2.1.length + b.2.1.length) * 24 ≤ 140737488351232)) (some ((z5.1, (a.2.1 ++ b.2.1), z7.1, ()), 0, ())) none) none))))))

def S.zono_Add (x : ZN × ZN × Int × Unit) : Option (ZN × Int × Unit) := L.zono_Add x.1 x.2.1 x.2.2.1
end Go.L

/-! DB -/
namespace Go.L
open Go.PM
set_option exponentiation.threshold 20000
set_option linter.unusedVariables false
set_option linter.unusedSimpArgs false

/-- zono_wider_w: one round of loop 0. -/
def zono_wider_w_s0 (κ0 : (List DY) → Nat → Nat → (List DY) → Int → (List DY) → Int → Int → Option ((List DY) × (List DY) × Int × Unit)) (a : List DY) (off : Nat) (len : Nat) (b : List DY) (bits : Int) (out : List DY) (t16 : Int) (t17 : Int) : Option ((List DY) × (List DY) × Int × Unit) :=
  cond (decide (t17 < t16))
    (
      cond (decide (0 ≤ t17))
        (
          cond (decide (t17 < ((len : Nat) : Int)))
            (
              let z2 := a.getD (off + t17.toNat) ((false, ([], ())), (0, ()))
              cond (decide (0 ≤ t17))
                (
                  cond (decide (t17 < (b.length : Int)))
                    (
                      let z3 := b.getD t17.toNat ((false, ([], ())), (0, ()))
                      (S.span_Point (((z2.1.1, z2.1.2.1, ()), z2.2.1, ()), ())).bind fun z4 =>
                      (S.span_Point (((z3.1.1, z3.1.2.1, ()), z3.2.1, ()), ())).bind fun z5 =>
                      (S.span_Add ((((z4.1.1.1.1, z4.1.1.1.2.1, ()), z4.1.1.2.1, ()), ((z4.1.2.1.1.1, z4.1.2.1.1.2.1, ()), z4.1.2.1.2.1, ()), ()), (((z5.1.1.1.1, z5.1.1.1.2.1, ()), z5.1.1.2.1, ()), ((z5.1.2.1.1.1, z5.1.2.1.1.2.1, ()), z5.1.2.1.2.1, ()), ()), bits, ())).bind fun z6 =>
                      cond (!(decide (z6.2.1 = 0))) (some (a, [], z6.2.1, ()))
                        (
                          cond (decide (0 ≤ t17))
                            (
                              cond (decide (t17 < (out.length : Int)))
                                (
                                  κ0 a off len b bits (out.set t17.toNat ((z6.1.2.1.1.1, z6.1.2.1.1.2.1, ()), z6.1.2.1.2.1, ())) t16 (IntKind.i64.wrap (t17 + 1))) none) none)) none) none) none) none) (some (a, out, 0, ()))

def zono_wider_w_l0 (K : Nat) : Nat → (List DY) → Nat → Nat → (List DY) → Int → (List DY) → Int → Int → Option ((List DY) × (List DY) × Int × Unit)
  | 0, _, _, _, _, _, _, _, _ => none
  | n + 1, a, off, len, b, bits, out, t16, t17 => zono_wider_w_s0 (zono_wider_w_l0 K n) a off len b bits out t16 t17

/-- zono.wider -/
def zono_wider_w_b (I0 : (List DY) → Nat → Nat → (List DY) → Int → (List DY) → Int → Int → Option ((List DY) × (List DY) × Int × Unit)) (a : List DY) (off : Int) (len : Int) (b : List DY) (bits : Int) : Option ((List DY) × (List DY) × Int × Unit) :=
  cond (decide (0 ≤ ((len.toNat : Nat) : Int)))
    (
      cond (decide (((len.toNat : Nat) : Int) * 40 ≤ 140737488351232))
        (
          I0 a off.toNat len.toNat b bits (List.replicate (((len.toNat : Nat) : Int).toNat) ((false, ([], ())), (0, ())) : List DY) ((len.toNat : Nat) : Int) 0) none) none

def zono_wider_w (K : Nat) (a : List DY) (off : Int) (len : Int) (b : List DY) (bits : Int) : Option ((List DY) × (List DY) × Int × Unit) := zono_wider_w_b (zono_wider_w_l0 K K) a off len b bits

def S.zono_wider_w (x : List DY × Int × Int × List DY × Int × Unit) : Option (List DY × List DY × Int × Unit) := L.zono_wider_w 100 x.1 x.2.1 x.2.2.1 x.2.2.2.1 x.2.2.2.2.1
/-- zono_image: one round of loop 0. -/
def zono_image_s0 (κ0 : (List DY) → Int → (List SP) → (List (List SP)) → Int → Int → Option ((List DY) × (List DY) × Int × Unit)) (x : List DY) (bits : Int) (s : List SP) (t17 : List (List SP)) (t18 : Int) (t19 : Int) : Option ((List DY) × (List DY) × Int × Unit) :=
  cond (decide (t19 < t18))
    (
      cond (decide (0 ≤ t19))
        (
          cond (decide (t19 < (t17.length : Int)))
            (
              (S.zono_points (x, ())).bind fun z3 =>
              (S.vec_Inner ((t17.getD t19.toNat []), z3.1, bits, ())).bind fun z4 =>
              cond (!(decide (z4.2.1 = 0))) (some ([], [], z4.2.1, ()))
                (
                  cond (decide (0 ≤ t19))
                    (
                      cond (decide (t19 < (s.length : Int)))
                        (
                          κ0 x bits (s.set t19.toNat (((z4.1.1.1.1, z4.1.1.1.2.1, ()), z4.1.1.2.1, ()), ((z4.1.2.1.1.1, z4.1.2.1.1.2.1, ()), z4.1.2.1.2.1, ()), ())) t17 t18 (IntKind.i64.wrap (t19 + 1))) none) none)) none) none)
    (
      (S.zono_middles (s, bits, ())).bind fun z7 =>
      some (z7.1, z7.2.1, z7.2.2.1, ()))

def zono_image_l0 (K : Nat) : Nat → (List DY) → Int → (List SP) → (List (List SP)) → Int → Int → Option ((List DY) × (List DY) × Int × Unit)
  | 0, _, _, _, _, _, _ => none
  | n + 1, x, bits, s, t17, t18, t19 => zono_image_s0 (zono_image_l0 K n) x bits s t17 t18 t19

/-- zono.image -/
def zono_image_b (I0 : (List DY) → Int → (List SP) → (List (List SP)) → Int → Int → Option ((List DY) × (List DY) × Int × Unit)) (a : List (List SP)) (x : List DY) (bits : Int) : Option ((List DY) × (List DY) × Int × Unit) :=
  cond (decide (0 ≤ (a.length : Int)))
    (
      cond (decide ((a.length : Int) * 80 ≤ 140737488351232))
        (
          I0 x bits (List.replicate a.length (((false, ([], ())), (0, ())), (((false, ([], ())), (0, ())), ())) : List SP) a (a.length : Int) 0) none) none

def zono_image (K : Nat) (a : List (List SP)) (x : List DY) (bits : Int) : Option ((List DY) × (List DY) × Int × Unit) := zono_image_b (zono_image_l0 K K) a x bits

def S.zono_image (x : List (List SP) × List DY × Int × Unit) : Option (List DY × List DY × Int × Unit) := L.zono_image 100 x.1 x.2.1 x.2.2.1
/-- zono_Image: one round of loop 2. -/
def zono_Image_s2 (κ0 : (List (List SP)) → Int → (List DY) → (List (List DY)) → (List DY) → (List DY) → (List (List DY)) → (List DY) → (List DY) → (List (List DY)) → (List DY) → (List (List DY)) → Int → Int → Option (ZN × Int × Unit)) (κ1 : (List (List SP)) → Int → (List DY) → (List (List DY)) → (List DY) → (List DY) → (List (List DY)) → (List DY) → (List SP) → (List DY) → Int → Int → Option (ZN × Int × Unit)) (κ2 : Int → (List DY) → (List (List DY)) → (List DY) → (List DY) → (List (List DY)) → (List DY) → (List SP) → (List (List SP)) → Int → Int → Option (ZN × Int × Unit)) (bits : Int) (t6_0 : List DY) (t6_1 : List (List DY)) (t6_2 : List DY) (out_0 : List DY) (out_1 : List (List DY)) (out_2 : List DY) (sizes : List SP) (t98 : List (List SP)) (t99 : Int) (t100 : Int) : Option (ZN × Int × Unit) :=
  cond (decide (t100 < t99))
    (
      cond (decide (0 ≤ t100))
        (
          cond (decide (t100 < (t98.length : Int)))
            (
              (S.vec_Inner ((t98.getD t100.toNat []), sizes, bits, ())).bind fun z13 =>
              cond (!(decide (z13.2.1 = 0))) (some (([], [], [], ()), z13.2.1, ()))
                (
                  let z14 := IntKind.i64.wrap (t100 + 1)
                  cond (decide (0 ≤ t100))
                    (
                      cond (decide (t100 ≤ z14))
                        (
                          cond (decide (z14 ≤ (out_2.length : Int)))
                            (
                              (S.span_Size ((((z13.1.1.1.1, z13.1.1.1.2.1, ()), z13.1.1.2.1, ()), ((z13.1.2.1.1.1, z13.1.2.1.1.2.1, ()), z13.1.2.1.2.1, ()), ()), ())).bind fun z15 =>
                              (S.zono_wider_w (out_2, ((t100.toNat : Nat) : Int), ((z14.toNat - t100.toNat : Nat) : Int), [((z15.1.1.1, z15.1.1.2.1, ()), z15.1.2.1, ())], bits, ())).bind fun z16 =>
                              cond (!(decide (z16.2.2.1 = 0))) (some (([], [], [], ()), z16.2.2.1, ()))
                                (
                                  cond (decide (0 < (z16.2.1.length : Int)))
                                    (
                                      let z17 := z16.2.1.getD 0 ((false, ([], ())), (0, ()))
                                      cond (decide (0 ≤ t100))
                                        (
                                          cond (decide (t100 < (z16.1.length : Int)))
                                            (
                                              κ2 bits t6_0 t6_1 t6_2 out_0 out_1 (z16.1.set t100.toNat ((z17.1.1, z17.1.2.1, ()), z17.2.1, ())) sizes t98 t99 (IntKind.i64.wrap (t100 + 1))) none) none) none)) none) none) none)) none) none) (some ((out_0, out_1, out_2, ()), 0, ()))

def zono_Image_l2 (K : Nat) (κ0 : (List (List SP)) → Int → (List DY) → (List (List DY)) → (List DY) → (List DY) → (List (List DY)) → (List DY) → (List DY) → (List (List DY)) → (List DY) → (List (List DY)) → Int → Int → Option (ZN × Int × Unit)) (κ1 : (List (List SP)) → Int → (List DY) → (List (List DY)) → (List DY) → (List DY) → (List (List DY)) → (List DY) → (List SP) → (List DY) → Int → Int → Option (ZN × Int × Unit)) : Nat → Int → (List DY) → (List (List DY)) → (List DY) → (List DY) → (List (List DY)) → (List DY) → (List SP) → (List (List SP)) → Int → Int → Option (ZN × Int × Unit)
  | 0, _, _, _, _, _, _, _, _, _, _, _ => none
  | n + 1, bits, t6_0, t6_1, t6_2, out_0, out_1, out_2, sizes, t98, t99, t100 => zono_Image_s2 κ0 κ1 (zono_Image_l2 K κ0 κ1 n) bits t6_0 t6_1 t6_2 out_0 out_1 out_2 sizes t98 t99 t100

/-- zono_Image: one round of loop 1. -/
def zono_Image_s1 (I2 : Int → (List DY) → (List (List DY)) → (List DY) → (List DY) → (List (List DY)) → (List DY) → (List SP) → (List (List SP)) → Int → Int → Option (ZN × Int × Unit)) (κ0 : (List (List SP)) → Int → (List DY) → (List (List DY)) → (List DY) → (List DY) → (List (List DY)) → (List DY) → (List DY) → (List (List DY)) → (List DY) → (List (List DY)) → Int → Int → Option (ZN × Int × Unit)) (κ1 : (List (List SP)) → Int → (List DY) → (List (List DY)) → (List DY) → (List DY) → (List (List DY)) → (List DY) → (List SP) → (List DY) → Int → Int → Option (ZN × Int × Unit)) (a : List (List SP)) (bits : Int) (t6_0 : List DY) (t6_1 : List (List DY)) (t6_2 : List DY) (out_0 : List DY) (out_1 : List (List DY)) (out_2 : List DY) (sizes : List SP) (t85 : List DY) (t86 : Int) (t87 : Int) : Option (ZN × Int × Unit) :=
  cond (decide (t87 < t86))
    (
      cond (decide (0 ≤ t87))
        (
          cond (decide (t87 < (t85.length : Int)))
            (
              let z8 := t85.getD t87.toNat ((false, ([], ())), (0, ()))
              (S.span_Even (((z8.1.1, z8.1.2.1, ()), z8.2.1, ()), ())).bind fun z9 =>
              cond (decide (0 ≤ t87))
                (
                  cond (decide (t87 < (sizes.length : Int)))
                    (
                      κ1 a bits t6_0 t6_1 t6_2 out_0 out_1 out_2 (sizes.set t87.toNat (((z9.1.1.1.1, z9.1.1.1.2.1, ()), z9.1.1.2.1, ()), ((z9.1.2.1.1.1, z9.1.2.1.1.2.1, ()), z9.1.2.1.2.1, ()), ())) t85 t86 (IntKind.i64.wrap (t87 + 1))) none) none) none) none) (I2 bits t6_0 t6_1 t6_2 out_0 out_1 out_2 sizes a (a.length : Int) 0)

def zono_Image_l1 (K : Nat) (κ0 : (List (List SP)) → Int → (List DY) → (List (List DY)) → (List DY) → (List DY) → (List (List DY)) → (List DY) → (List DY) → (List (List DY)) → (List DY) → (List (List DY)) → Int → Int → Option (ZN × Int × Unit)) : Nat → (List (List SP)) → Int → (List DY) → (List (List DY)) → (List DY) → (List DY) → (List (List DY)) → (List DY) → (List SP) → (List DY) → Int → Int → Option (ZN × Int × Unit)
  | 0, _, _, _, _, _, _, _, _, _, _, _, _ => none
  | n + 1, a, bits, t6_0, t6_1, t6_2, out_0, out_1, out_2, sizes, t85, t86, t87 => zono_Image_s1 (zono_Image_l2 K κ0 (zono_Image_l1 K κ0 n) K) κ0 (zono_Image_l1 K κ0 n) a bits t6_0 t6_1 t6_2 out_0 out_1 out_2 sizes t85 t86 t87

/-- zono_Image: one round of loop 0. -/
def zono_Image_s0 (I1 : (List (List SP)) → Int → (List DY) → (List (List DY)) → (List DY) → (List DY) → (List (List DY)) → (List DY) → (List SP) → (List DY) → Int → Int → Option (ZN × Int × Unit)) (κ0 : (List (List SP)) → Int → (List DY) → (List (List DY)) → (List DY) → (List DY) → (List (List DY)) → (List DY) → (List DY) → (List (List DY)) → (List DY) → (List (List DY)) → Int → Int → Option (ZN × Int × Unit)) (a : List (List SP)) (bits : Int) (z_0 : List DY) (z_1 : List (List DY)) (z_2 : List DY) (t6_0 : List DY) (t6_1 : List (List DY)) (t6_2 : List DY) (out_0 : List DY) (out_1 : List (List DY)) (out_2 : List DY) (t42 : List (List DY)) (t43 : Int) (t44 : Int) : Option (ZN × Int × Unit) :=
  cond (decide (t44 < t43))
    (
      cond (decide (0 ≤ t44))
        (
          cond (decide (t44 < (t42.length : Int)))
            (
              (S.zono_image (a, (t42.getD t44.toNat []), bits, ())).bind fun z3 =>
              cond (!(decide (z3.2.2.1 = 0))) (some (([], [], [], ()), z3.2.2.1, ()))
                (
                  (S.zono_wider_w (out_2, ((0 : Nat) : Int), ((out_2.length : Nat) : Int), z3.2.1, bits, ())).bind fun z4 =>
                  cond (!(decide (z4.2.2.1 = 0))) (some (([], [], [], ()), z4.2.2.1, ()))
                    (
                      cond (decide ((out_1.length + ([z3.1]).length) * 24 ≤ 140737488351232))
                        (
                          κ0 a bits z_0 z_1 z_2 t6_0 t6_1 t6_2 out_0 (out_1 ++ ([z3.1])) z4.2.1 t42 t43 (IntKind.i64.wrap (t44 + 1))) none))) none) none)
    (
      cond (decide (0 ≤ (z_2.length : Int)))
        (
          cond (decide ((z_2.length : Int) * 80 ≤ 140737488351232))
            (
              I1 a bits t6_0 t6_1 t6_2 out_0 out_1 out_2 (List.replicate z_2.length (((false, ([], ())), (0, ())), (((false, ([], ())), (0, ())), ())) : List SP) z_2 (z_2.length : Int) 0) none) none)

def zono_Image_l0 (K : Nat) : Nat → (List (List SP)) → Int → (List DY) → (List (List DY)) → (List DY) → (List DY) → (List (List DY)) → (List DY) → (List DY) → (List (List DY)) → (List DY) → (List (List DY)) → Int → Int → Option (ZN × Int × Unit)
  | 0, _, _, _, _, _, _, _, _, _, _, _, _, _, _ => none
  | n + 1, a, bits, z_0, z_1, z_2, t6_0, t6_1, t6_2, out_0, out_1, out_2, t42, t43, t44 => zono_Image_s0 (zono_Image_l1 K (zono_Image_l0 K n) K) (zono_Image_l0 K n) a bits z_0 z_1 z_2 t6_0 t6_1 t6_2 out_0 out_1 out_2 t42 t43 t44

/-- zono.Image -/
def zono_Image_b (I0 : (List (List SP)) → Int → (List DY) → (List (List DY)) → (List DY) → (List DY) → (List (List DY)) → (List DY) → (List DY) → (List (List DY)) → (List DY) → (List (List DY)) → Int → Int → Option (ZN × Int × Unit)) (a : List (List SP)) (z : ZN) (bits : Int) : Option (ZN × Int × Unit) :=
  (S.zono_image (a, z.1, bits, ())).bind fun z1 =>
  cond (!(decide (z1.2.2.1 = 0))) (some (([], [], [], ()), z1.2.2.1, ())) (I0 a bits z.1 z.2.1 z.2.2.1 [] [] [] z1.1 [] z1.2.1 z.2.1 (z.2.1.length : Int) 0)

def zono_Image (K : Nat) (a : List (List SP)) (z : ZN) (bits : Int) : Option (ZN × Int × Unit) := zono_Image_b (zono_Image_l0 K K) a z bits

def S.zono_Image (x : List (List SP) × ZN × Int × Unit) : Option (ZN × Int × Unit) := L.zono_Image 100 x.1 x.2.1 x.2.2.1
/-- zono_Times: one round of loop 0. -/
def zono_Times_s0 (κ0 : Int → (List DY) → (List (List DY)) → (List DY) → Bool → (List Int) → Int → Bool → (List Int) → Int → (List DY) → (List (List DY)) → (List DY) → Int → (List (List SP)) → Int → Int → Option (ZN × Int × Unit)) (bits : Int) (z_0 : List DY) (z_1 : List (List DY)) (z_2 : List DY) (by_0 : Bool) (by_1 : List Int) (by_2 : Int) (by_3 : Bool) (by_4 : List Int) (by_5 : Int) (t6_0 : List DY) (t6_1 : List (List DY)) (t6_2 : List DY) (n2 : Int) (a : List (List SP)) (t17 : Int) (t18 : Int) : Option (ZN × Int × Unit) :=
  cond (decide (t18 < t17))
    (
      cond (decide (0 ≤ n2))
        (
          cond (decide (n2 * 80 ≤ 140737488351232))
            (
              let z2 := (List.replicate n2.toNat (((false, ([], ())), (0, ())), (((false, ([], ())), (0, ())), ())) : List SP)
              cond (decide (0 ≤ t18))
                (
                  cond (decide (t18 < (a.length : Int)))
                    (
                      cond (decide (0 ≤ t18))
                        (
                          cond (decide (t18 < (a.length : Int)))
                            (
                              cond (decide (t18.toNat = t18.toNat))
                                (
                                  cond (decide (0 ≤ t18))
                                    (
                                      cond (decide (t18 < (z2.length : Int)))
                                        (
                                          κ0 bits z_0 z_1 z_2 by_0 by_1 by_2 by_3 by_4 by_5 t6_0 t6_1 t6_2 n2 (a.set t18.toNat (z2.set t18.toNat (((by_0, by_1, ()), by_2, ()), ((by_3, by_4, ()), by_5, ()), ()))) t17 (IntKind.i64.wrap (t18 + 1))) none) none) none) none) none) none) none) none) none)
    (
      (S.zono_Image (a, (z_0, z_1, z_2, ()), bits, ())).bind fun z5 =>
      some ((z5.1.1, z5.1.2.1, z5.1.2.2.1, ()), z5.2.1, ()))

def zono_Times_l0 (K : Nat) : Nat → Int → (List DY) → (List (List DY)) → (List DY) → Bool → (List Int) → Int → Bool → (List Int) → Int → (List DY) → (List (List DY)) → (List DY) → Int → (List (List SP)) → Int → Int → Option (ZN × Int × Unit)
  | 0, _, _, _, _, _, _, _, _, _, _, _, _, _, _, _, _, _ => none
  | n + 1, bits, z_0, z_1, z_2, by_0, by_1, by_2, by_3, by_4, by_5, t6_0, t6_1, t6_2, n2, a, t17, t18 => zono_Times_s0 (zono_Times_l0 K n) bits z_0 z_1 z_2 by_0 by_1 by_2 by_3 by_4 by_5 t6_0 t6_1 t6_2 n2 a t17 t18

/-- zono.Times -/
def zono_Times_b (I0 : Int → (List DY) → (List (List DY)) → (List DY) → Bool → (List Int) → Int → Bool → (List Int) → Int → (List DY) → (List (List DY)) → (List DY) → Int → (List (List SP)) → Int → Int → Option (ZN × Int × Unit)) (z : ZN) (by_ : SP) (bits : Int) : Option (ZN × Int × Unit) :=
  cond (decide (0 ≤ (z.1.length : Int)))
    (
      cond (decide ((z.1.length : Int) * 24 ≤ 140737488351232))
        (
          let z1 := (List.replicate z.1.length [] : List (List SP))
          I0 bits z.1 z.2.1 z.2.2.1 by_.1.1.1 by_.1.1.2.1 by_.1.2.1 by_.2.1.1.1 by_.2.1.1.2.1 by_.2.1.2.1 [] [] [] (z.1.length : Int) z1 (z1.length : Int) 0) none) none

def zono_Times (K : Nat) (z : ZN) (by_ : SP) (bits : Int) : Option (ZN × Int × Unit) := zono_Times_b (zono_Times_l0 K K) z by_ bits

def S.zono_Times (x : ZN × SP × Int × Unit) : Option (ZN × Int × Unit) := L.zono_Times 100 x.1 x.2.1 x.2.2.1
end Go.L

/-! DC -/
namespace Go.L
open Go.PM
set_option exponentiation.threshold 20000
set_option linter.unusedVariables false
set_option linter.unusedSimpArgs false

theorem pnt_sum {q0 : Nat → Rat} {q : Nat → Nat → Rat} {t : Nat → Rat} {i : Nat} : ∀ m, pnt q0 q t m i = q0 i + sumQ (fun k => t k * q k i) m
  | 0 => by simp only [pnt, sumQ]; grind
  | m + 1 => by simp only [pnt, sumQ]; rw [pnt_sum m]; grind
abbrev g2 (m : Nat) (g g' : Nat → Nat → Int) (k i : Nat) : Int := if k < m then g k i else g' (k - m) i
end Go.L
