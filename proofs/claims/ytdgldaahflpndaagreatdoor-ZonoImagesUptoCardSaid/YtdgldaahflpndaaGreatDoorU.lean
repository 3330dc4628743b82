/-
  sets: what is reckoned of them. sets: what tables make of them. sets: what states they hold.
  No condition beyond those that each theorem names.
-/
import Derived.Test.YtdgldaahflpndaaGreatDoorT

/-! DA -/
namespace Go.L
open Go.PM
set_option exponentiation.threshold 20000
set_option linter.unusedVariables false
set_option linter.unusedSimpArgs false

theorem nr_small {up : Bool} {q : Rat} {b B j : Nat} (hq : big q j) (hj : j ≤ 2) (hb1 : 1 ≤ b) (hb : b ≤ 120) (hB : B ≤ 300) : (nr up q b B).natAbs < P 17 := by
  unfold nr
  by_cases h0 : q = 0
  · rw [if_pos h0]; exact P_pos _
  · rw [if_neg h0]
    have h1 := nq_small up (b := b) h0
    have hp : (2 : Int) ^ (b + 2) ≤ 2 ^ 122 := int_pow_le (by omega)
    have h2 : (nq up q b).natAbs < P 4 := by
      have : ((nq up q b).natAbs : Int) < ((P 4 : Nat) : Int) := by
        have e : ((P 4 : Nat) : Int) = 2 ^ 128 := by decide +kernel
        have e2 : (2 : Int) ^ 122 < 2 ^ 128 := by decide +kernel
        omega
      omega
    have hs := nsh_le (b := b) hq
    have h3 : ((2 : Int) ^ ((B : Int) - nsh q b).toNat).natAbs < P 12 := by
      rw [Int.natAbs_pow]
      refine Nat.lt_of_le_of_lt (Nat.pow_le_pow_right (by decide) (show ((B : Int) - nsh q b).toNat ≤ 364 by omega)) ?_
      decide +kernel
    exact nA_mul (rnd_abs h2) h3
theorem nrs_small {n : Nat} {q : Nat → Rat} {b B j : Nat} (hq : ∀ i < n, big (q i) j) (hj : j ≤ 2) (hb1 : 1 ≤ b) (hb : b ≤ 120) (hB : B ≤ 300) : bb n (nrs q b B) 17 := fun i hi => ⟨nr_small (hq i hi) hj hb1 hb hB, nr_small (hq i hi) hj hb1 hb hB⟩
/-- vec_Norm: one round of loop 0. -/
def vec_Norm_s0 (κ0 : Bool → (List Int) → Int → Bool → (List Int) → Int → (List SP) → Int → Int → Option (DY × Unit)) (t2_0 : Bool) (t2_1 : List Int) (t2_2 : Int) (most_0 : Bool) (most_1 : List Int) (most_2 : Int) (t6 : List SP) (t7 : Int) (t8 : Int) : Option (DY × Unit) :=
  cond (decide (t8 < t7))
    (
      cond (decide (0 ≤ t8))
        (
          cond (decide (t8 < (t6.length : Int)))
            (
              let z1 := t6.getD t8.toNat (((false, ([], ())), (0, ())), (((false, ([], ())), (0, ())), ()))
              (S.span_Size ((((z1.1.1.1, z1.1.1.2.1, ()), z1.1.2.1, ()), ((z1.2.1.1.1, z1.2.1.1.2.1, ()), z1.2.1.2.1, ()), ()), ())).bind fun z2 =>
              (S.dyad_Max (((most_0, most_1, ()), most_2, ()), ((z2.1.1.1, z2.1.1.2.1, ()), z2.1.2.1, ()), ())).bind fun z3 =>
              κ0 t2_0 t2_1 t2_2 z3.1.1.1 z3.1.1.2.1 z3.1.2.1 t6 t7 (IntKind.i64.wrap (t8 + 1))) none) none) (some (((most_0, most_1, ()), most_2, ()), ()))

def vec_Norm_l0 (K : Nat) : Nat → Bool → (List Int) → Int → Bool → (List Int) → Int → (List SP) → Int → Int → Option (DY × Unit)
  | 0, _, _, _, _, _, _, _, _, _ => none
  | n + 1, t2_0, t2_1, t2_2, most_0, most_1, most_2, t6, t7, t8 => vec_Norm_s0 (vec_Norm_l0 K n) t2_0 t2_1 t2_2 most_0 most_1 most_2 t6 t7 t8

/-- vec.Norm -/
def vec_Norm_b (I0 : Bool → (List Int) → Int → Bool → (List Int) → Int → (List SP) → Int → Int → Option (DY × Unit)) (a : List SP) : Option (DY × Unit) :=
  I0 false [] 0 false [] 0 a (a.length : Int) 0

def vec_Norm (K : Nat) (a : List SP) : Option (DY × Unit) := vec_Norm_b (vec_Norm_l0 K K) a

def S.vec_Norm (x : List SP × Unit) : Option (DY × Unit) := L.vec_Norm 100 x.1
def nm (f : Nat → Int × Int) : Nat → Int
  | 0 => 0
  | i + 1 => max (nm f i) (sz2 (f i))
/-- zono.Reach -/
def zono_Reach (z : ZN) (bits : Int) : Option (DY × Int × Unit) :=
  (S.zono_Box ((z.1, z.2.1, z.2.2.1, ()), bits, ())).bind fun z1 =>
  cond (!(decide (z1.2.1 = 0))) (some (((false, [], ()), 0, ()), z1.2.1, ()))
    (
      (S.vec_Norm (z1.1, ())).bind fun z2 =>
      some (((z2.1.1.1, z2.1.1.2.1, ()), z2.1.2.1, ()), 0, ()))

def S.zono_Reach (x : ZN × Int × Unit) : Option (DY × Int × Unit) := L.zono_Reach x.1 x.2.1
/-- zono_Check: one round of loop 1. -/
def zono_Check_s1 (κ0 : Int → (List DY) → (List (List DY)) → (List DY) → (List (List DY)) → Int → Int → Option (Int × Unit)) (κ1 : Int → (List DY) → (List (List DY)) → (List DY) → (List (List DY)) → Int → Int → (List DY) → Int → Int → Option (Int × Unit)) (n2 : Int) (z_0 : List DY) (z_1 : List (List DY)) (z_2 : List DY) (t43 : List (List DY)) (t44 : Int) (t45 : Int) (t53 : List DY) (t54 : Int) (t55 : Int) : Option (Int × Unit) :=
  cond (decide (t55 < t54))
    (
      cond (decide (0 ≤ t55))
        (
          cond (decide (t55 < (t53.length : Int)))
            (
              let z3 := t53.getD t55.toNat ((false, ([], ())), (0, ()))
              (S.dyad_Check (((z3.1.1, z3.1.2.1, ()), z3.2.1, ()), ())).bind fun z4 =>
              cond (!(decide (z4.1 = 0))) (some (z4.1, ())) (κ1 n2 z_0 z_1 z_2 t43 t44 t45 t53 t54 (IntKind.i64.wrap (t55 + 1)))) none) none) (κ0 n2 z_0 z_1 z_2 t43 t44 (IntKind.i64.wrap (t45 + 1)))

def zono_Check_l1 (K : Nat) (κ0 : Int → (List DY) → (List (List DY)) → (List DY) → (List (List DY)) → Int → Int → Option (Int × Unit)) : Nat → Int → (List DY) → (List (List DY)) → (List DY) → (List (List DY)) → Int → Int → (List DY) → Int → Int → Option (Int × Unit)
  | 0, _, _, _, _, _, _, _, _, _, _ => none
  | n + 1, n2, z_0, z_1, z_2, t43, t44, t45, t53, t54, t55 => zono_Check_s1 κ0 (zono_Check_l1 K κ0 n) n2 z_0 z_1 z_2 t43 t44 t45 t53 t54 t55

/-- zono_Check: one round of loop 2. -/
def zono_Check_s2 (κ0 : Int → (List DY) → (List (List DY)) → (List DY) → (List (List DY)) → Int → Int → Option (Int × Unit)) (κ2 : (List DY) → Int → Int → Option (Int × Unit)) (t67 : List DY) (t68 : Int) (t69 : Int) : Option (Int × Unit) :=
  cond (decide (t69 < t68))
    (
      cond (decide (0 ≤ t69))
        (
          cond (decide (t69 < (t67.length : Int)))
            (
              let z7 := t67.getD t69.toNat ((false, ([], ())), (0, ()))
              (S.dyad_Sign (((z7.1.1, z7.1.2.1, ()), z7.2.1, ()), ())).bind fun z8 =>
              cond (decide (z8.1 < 0)) (some (1, ())) (κ2 t67 t68 (IntKind.i64.wrap (t69 + 1)))) none) none) (some (0, ()))

def zono_Check_l2 (K : Nat) (κ0 : Int → (List DY) → (List (List DY)) → (List DY) → (List (List DY)) → Int → Int → Option (Int × Unit)) : Nat → (List DY) → Int → Int → Option (Int × Unit)
  | 0, _, _, _ => none
  | n + 1, t67, t68, t69 => zono_Check_s2 κ0 (zono_Check_l2 K κ0 n) t67 t68 t69

/-- zono_Check: one round of loop 0. -/
def zono_Check_s0 (I1 : Int → (List DY) → (List (List DY)) → (List DY) → (List (List DY)) → Int → Int → (List DY) → Int → Int → Option (Int × Unit)) (I2 : (List DY) → Int → Int → Option (Int × Unit)) (κ0 : Int → (List DY) → (List (List DY)) → (List DY) → (List (List DY)) → Int → Int → Option (Int × Unit)) (n2 : Int) (z_0 : List DY) (z_1 : List (List DY)) (z_2 : List DY) (t43 : List (List DY)) (t44 : Int) (t45 : Int) : Option (Int × Unit) :=
  cond (decide (t45 < t44))
    (
      cond (decide (0 ≤ t45))
        (
          cond (decide (t45 < (t43.length : Int)))
            (
              let z2 := t43.getD t45.toNat []
              cond (!(decide ((z2.length : Int) = n2))) (some (20, ())) (I1 n2 z_0 z_1 z_2 t43 t44 t45 z2 (z2.length : Int) 0)) none) none) (I2 z_2 (z_2.length : Int) 0)

def zono_Check_l0 (K : Nat) : Nat → Int → (List DY) → (List (List DY)) → (List DY) → (List (List DY)) → Int → Int → Option (Int × Unit)
  | 0, _, _, _, _, _, _, _ => none
  | n + 1, n2, z_0, z_1, z_2, t43, t44, t45 => zono_Check_s0 (zono_Check_l1 K (zono_Check_l0 K n) K) (zono_Check_l2 K (zono_Check_l0 K n) K) (zono_Check_l0 K n) n2 z_0 z_1 z_2 t43 t44 t45

/-- zono.Check -/
def zono_Check_b (I0 : Int → (List DY) → (List (List DY)) → (List DY) → (List (List DY)) → Int → Int → Option (Int × Unit)) (z : ZN) (n : Int) : Option (Int × Unit) :=
  cond (decide (n < 0)) (some (20, ()))
    (
      cond (decide (16 < n)) (some (20, ()))
        (
          cond (!(decide ((z.1.length : Int) = n))) (some (20, ()))
            (
              cond (!(decide ((z.2.2.1.length : Int) = n))) (some (20, ()))
                (
                  cond (decide (4096 < (z.2.1.length : Int))) (some (32, ()))
                    (
                      cond (decide ((([z.1, z.2.2.1]).length + z.2.1.length) * 24 ≤ 140737488351232))
                        (
                          let z1 := ([z.1, z.2.2.1]) ++ z.2.1
                          I0 n z.1 z.2.1 z.2.2.1 z1 (z1.length : Int) 0) none)))))

def zono_Check (K : Nat) (z : ZN) (n : Int) : Option (Int × Unit) := zono_Check_b (zono_Check_l0 K K) z n

def S.zono_Check (x : ZN × Int × Unit) : Option (Int × Unit) := L.zono_Check 100 x.1 x.2.1
theorem zono_Check_Dx {n m : Nat} {c r : Nat → Int} {g : Nat → Nat → Int} {e : Int} {k : Nat} (hn : n ≤ 16) (hm : m ≤ 16) (hc : nb n c k) (hr : nb n r k) (hr0 : ∀ i < n, 0 ≤ r i) (hg : ∀ j < m, nb n (g j) k) (hk : k ≤ 490) (h0 : -60000 ≤ e) (h1 : e ≤ 20000) :
    S.zono_Check ((Dx n c e, Vx m (fun j => Dx n (g j) e), Dx n r e, ()), (n : Int), ()) = some (0, ()) := by
  simp only [S.zono_Check, L.zono_Check, zono_Check_b, Vx_len]
  rw [cf (by omega), cf (by omega)]
  simp only [decide_true, Bool.not_true, cond_false]
  rw [cf (by omega)]
  have hL : ([Dx n c e, Dx n r e] ++ Vx m (fun j => Dx n (g j) e)).length = m + 2 := by rw [List.length_append, Vx_len]; simp; omega
  rw [ct (by simp; omega), hL]
  have hrow : ∀ i < m + 2, ∃ d : Nat → Int, ([Dx n c e, Dx n r e] ++ Vx m (fun j => Dx n (g j) e)).getD i [] = Dx n d e ∧ nb n d k := by
    intro i hi
    match i with
    | 0 => exact ⟨c, rfl, hc⟩
    | 1 => exact ⟨r, rfl, hr⟩
    | i + 2 =>
      refine ⟨g i, ?_, hg i (by omega)⟩
      have : ([Dx n c e, Dx n r e] ++ Vx m (fun j => Dx n (g j) e)).getD (i + 2) [] = (Vx m (fun j => Dx n (g j) e)).getD i [] := by
        simp [List.getD_eq_getElem?_getD]
      rw [this, Vx_get (by omega)]
  generalize [Dx n c e, Dx n r e] ++ Vx m (fun j => Dx n (g j) e) = ls at hL hrow ⊢
  generalize hG : Vx m (fun j => Dx n (g j) e) = GG
  refine loop_up (m + 2) (fun _ => ()) (fun k' s i => zono_Check_l0 100 k' (n : Int) (Dx n c e) GG (Dx n r e) ls ((m + 2 : Nat) : Int) i) _ (fun k' i hi => ?_) (fun k' => ?_) 100 (by omega)
  · obtain ⟨d, hd, hdb⟩ := hrow i hi
    simp only [zono_Check_l0, zono_Check_s0]
    rw [ct (by omega), ct (by omega), ct (by omega), Int.toNat_natCast, hd]
    simp only [Vx_len, decide_true, Bool.not_true, cond_false]
    refine loop_up n (fun _ => ()) (fun k2 s j => zono_Check_l1 100 (zono_Check_l0 100 k') k2 (n : Int) (Dx n c e) GG (Dx n r e) ls ((m + 2 : Nat) : Int) (i : Int) (Dx n d e) (n : Int) j) _ (fun k2 j hj => ?_) (fun k2 => ?_) 100 (by omega)
    · simp only [zono_Check_l1, zono_Check_s1, Vx_len]
      rw [ct (by omega), ct (by omega), ct (by omega), Int.toNat_natCast, Vx_get hj]
      have e1 := dyad_Check_Yd (e := e) (hdb j hj) (by omega) h0 (by omega)
      rw [show S.dyad_Check _ = _ from e1, Option.bind_some]
      simp only [decide_true, Bool.not_true, cond_false]
      rw [wi1 (by omega)]
    · simp only [zono_Check_l1, zono_Check_s1]
      rw [cf (by omega), wi1 (by omega)]
  · simp only [zono_Check_l0, zono_Check_s0]
    rw [cf (by omega), Vx_len]
    refine loop_up n (fun _ => ()) (fun k2 s j => zono_Check_l2 100 (zono_Check_l0 100 k') k2 (Dx n r e) (n : Int) j) _ (fun k2 j hj => ?_) (fun k2 => ?_) 100 (by omega)
    · simp only [zono_Check_l2, zono_Check_s2, Vx_len]
      rw [ct (by omega), ct (by omega), ct (by omega), Int.toNat_natCast, Vx_get hj]
      have e1 := dyad_Sign_Yd (r j) e
      have hs : ¬ sgn (r j) 0 < 0 := by rw [sgn_neg0]; have := hr0 j hj; omega
      rw [show S.dyad_Sign _ = _ from e1, Option.bind_some, cf hs, wi1 (by omega)]
    · simp only [zono_Check_l2, zono_Check_s2]
      rw [cf (by omega)]
/-- zono_Wider: one round of loop 0. -/
def zono_Wider_s0 (κ0 : Int → (List DY) → (List (List DY)) → (List DY) → Bool → (List Int) → Int → (List DY) → (List (List DY)) → (List DY) → (List DY) → Int → Int → Option (ZN × Int × Unit)) (bits : Int) (z_0 : List DY) (z_1 : List (List DY)) (z_2 : List DY) (by_0 : Bool) (by_1 : List Int) (by_2 : Int) (t6_0 : List DY) (t6_1 : List (List DY)) (t6_2 : List DY) (all : List DY) (t17 : Int) (t18 : Int) : Option (ZN × Int × Unit) :=
  cond (decide (t18 < t17))
    (
      (S.dyad_Abs (((by_0, by_1, ()), by_2, ()), ())).bind fun z2 =>
      cond (decide (0 ≤ t18))
        (
          cond (decide (t18 < (all.length : Int)))
            (
              κ0 bits z_0 z_1 z_2 by_0 by_1 by_2 t6_0 t6_1 t6_2 (all.set t18.toNat ((z2.1.1.1, z2.1.1.2.1, ()), z2.1.2.1, ())) t17 (IntKind.i64.wrap (t18 + 1))) none) none)
    (
      (S.zono_wider (z_2, all, bits, ())).bind fun z5 =>
      some ((z_0, z_1, z5.1, ()), z5.2.1, ()))

def zono_Wider_l0 (K : Nat) : Nat → Int → (List DY) → (List (List DY)) → (List DY) → Bool → (List Int) → Int → (List DY) → (List (List DY)) → (List DY) → (List DY) → Int → Int → Option (ZN × Int × Unit)
  | 0, _, _, _, _, _, _, _, _, _, _, _, _, _ => none
  | n + 1, bits, z_0, z_1, z_2, by_0, by_1, by_2, t6_0, t6_1, t6_2, all, t17, t18 => zono_Wider_s0 (zono_Wider_l0 K n) bits z_0 z_1 z_2 by_0 by_1 by_2 t6_0 t6_1 t6_2 all t17 t18

/-- zono.Wider -/
def zono_Wider_b (I0 : Int → (List DY) → (List (List DY)) → (List DY) → Bool → (List Int) → Int → (List DY) → (List (List DY)) → (List DY) → (List DY) → Int → Int → Option (ZN × Int × Unit)) (z : ZN) (by_ : DY) (bits : Int) : Option (ZN × Int × Unit) :=
  cond (decide (0 ≤ (z.2.2.1.length : Int)))
    (
      cond (decide ((z.2.2.1.length : Int) * 40 ≤ 140737488351232))
        (
          let z1 := (List.replicate z.2.2.1.length ((false, ([], ())), (0, ())) : List DY)
          I0 bits z.1 z.2.1 z.2.2.1 by_.1.1 by_.1.2.1 by_.2.1 [] [] [] z1 (z1.length : Int) 0) none) none

def zono_Wider (K : Nat) (z : ZN) (by_ : DY) (bits : Int) : Option (ZN × Int × Unit) := zono_Wider_b (zono_Wider_l0 K K) z by_ bits

def S.zono_Wider (x : ZN × DY × Int × Unit) : Option (ZN × Int × Unit) := L.zono_Wider 100 x.1 x.2.1 x.2.2.1
/-- vec_Plus: one round of loop 0. -/
def vec_Plus_s0 (κ0 : (List SP) → (List SP) → Int → (List SP) → Int → Int → Option ((List SP) × Int × Unit)) (a : List SP) (b : List SP) (bits : Int) (out : List SP) (t21 : Int) (t22 : Int) : Option ((List SP) × Int × Unit) :=
  cond (decide (t22 < t21))
    (
      cond (decide (0 ≤ t22))
        (
          cond (decide (t22 < (a.length : Int)))
            (
              let z2 := a.getD t22.toNat (((false, ([], ())), (0, ())), (((false, ([], ())), (0, ())), ()))
              cond (decide (0 ≤ t22))
                (
                  cond (decide (t22 < (b.length : Int)))
                    (
                      let z3 := b.getD t22.toNat (((false, ([], ())), (0, ())), (((false, ([], ())), (0, ())), ()))
                      (S.span_Add ((((z2.1.1.1, z2.1.1.2.1, ()), z2.1.2.1, ()), ((z2.2.1.1.1, z2.2.1.1.2.1, ()), z2.2.1.2.1, ()), ()), (((z3.1.1.1, z3.1.1.2.1, ()), z3.1.2.1, ()), ((z3.2.1.1.1, z3.2.1.1.2.1, ()), z3.2.1.2.1, ()), ()), bits, ())).bind fun z4 =>
                      cond (!(decide (z4.2.1 = 0))) (some ([], z4.2.1, ()))
                        (
                          cond (decide (0 ≤ t22))
                            (
                              cond (decide (t22 < (out.length : Int)))
                                (
                                  κ0 a b bits (out.set t22.toNat (((z4.1.1.1.1, z4.1.1.1.2.1, ()), z4.1.1.2.1, ()), ((z4.1.2.1.1.1, z4.1.2.1.1.2.1, ()), z4.1.2.1.2.1, ()), ())) t21 (IntKind.i64.wrap (t22 + 1))) none) none)) none) none) none) none) (some (out, 0, ()))

def vec_Plus_l0 (K : Nat) : Nat → (List SP) → (List SP) → Int → (List SP) → Int → Int → Option ((List SP) × Int × Unit)
  | 0, _, _, _, _, _, _ => none
  | n + 1, a, b, bits, out, t21, t22 => vec_Plus_s0 (vec_Plus_l0 K n) a b bits out t21 t22

/-- vec.Plus -/
def vec_Plus_b (I0 : (List SP) → (List SP) → Int → (List SP) → Int → Int → Option ((List SP) × Int × Unit)) (a : List SP) (b : List SP) (bits : Int) : Option ((List SP) × Int × Unit) :=
  cond (!(decide ((a.length : Int) = (b.length : Int)))) (some ([], 20, ()))
    (
      cond (decide (0 ≤ (a.length : Int)))
        (
          cond (decide ((a.length : Int) * 80 ≤ 140737488351232))
            (
              I0 a b bits (List.replicate a.length (((false, ([], ())), (0, ())), (((false, ([], ())), (0, ())), ())) : List SP) (a.length : Int) 0) none) none)

def vec_Plus (K : Nat) (a : List SP) (b : List SP) (bits : Int) : Option ((List SP) × Int × Unit) := vec_Plus_b (vec_Plus_l0 K K) a b bits

def S.vec_Plus (x : List SP × List SP × Int × Unit) : Option (List SP × Int × Unit) := L.vec_Plus 100 x.1 x.2.1 x.2.2.1
/-- zono.Add -/
def zono_Add (a : ZN) (b : ZN) (bits : Int) : Option (ZN × Int × Unit) :=
  cond (!(decide ((a.1.length : Int) = (b.1.length : Int)))) (some (([], [], [], ()), 20, ()))
    (
      cond (decide (4096 < (IntKind.i64.wrap ((a.2.1.length : Int) + (b.2.1.length : Int))))) (some (([], [], [], ()), 32, ()))
        (
          (S.zono_points (a.1, ())).bind fun z2 =>
          (S.zono_points (b.1, ())).bind fun z3 =>
          (S.vec_Plus (z2.1, z3.1, bits, ())).bind fun z4 =>
          cond (!(decide (z4.2.1 = 0))) (some (([], [], [], ()), z4.2.1, ()))
            (
              (S.zono_middles (z4.1, bits, ())).bind fun z5 =>
              cond (!(decide (z5.2.2.1 = 0))) (some (([], [], [], ()), z5.2.2.1, ()))
                (
                  (S.zono_wider (z5.2.1, a.2.2.1, bits, ())).bind fun z6 =>
                  cond (!(decide (z6.2.1 = 0))) (some (([], [], [], ()), z6.2.1, ()))
                    (
                      (S.zono_wider (z6.1, b.2.2.1, bits, ())).bind fun z7 =>
                      cond (!(decide (z7.2.1 = 0))) (some (([], [], [], ()), z7.2.1, ()))
                        (
                          cond (decide (a.2.1.length * 24 ≤ 140737488351232))
                            (
                              cond (decide ((a.2.1.length + b.2.1.length) * 24 ≤ 140737488351232)) (some ((z5.1, (a.2.1 ++ b.2.1), z7.1, ()), 0, ())) none) none))))))

def S.zono_Add (x : ZN × ZN × Int × Unit) : Option (ZN × Int × Unit) := L.zono_Add x.1 x.2.1 x.2.2.1
end Go.L

/-! DB -/
namespace Go.L
open Go.PM
set_option exponentiation.threshold 20000
set_option linter.unusedVariables false
set_option linter.unusedSimpArgs false

/-- zono_wider_w: one round of loop 0. -/
def zono_wider_w_s0 (κ0 : (List DY) → Nat → Nat → (List DY) → Int → (List DY) → Int → Int → Option ((List DY) × (List DY) × Int × Unit)) (a : List DY) (off : Nat) (len : Nat) (b : List DY) (bits : Int) (out : List DY) (t16 : Int) (t17 : Int) : Option ((List DY) × (List DY) × Int × Unit) :=
  cond (decide (t17 < t16))
    (
      cond (decide (0 ≤ t17))
        (
          cond (decide (t17 < ((len : Nat) : Int)))
            (
              let z2 := a.getD (off + t17.toNat) ((false, ([], ())), (0, ()))
              cond (decide (0 ≤ t17))
                (
                  cond (decide (t17 < (b.length : Int)))
                    (
                      let z3 := b.getD t17.toNat ((false, ([], ())), (0, ()))
                      (S.span_Point (((z2.1.1, z2.1.2.1, ()), z2.2.1, ()), ())).bind fun z4 =>
                      (S.span_Point (((z3.1.1, z3.1.2.1, ()), z3.2.1, ()), ())).bind fun z5 =>
                      (S.span_Add ((((z4.1.1.1.1, z4.1.1.1.2.1, ()), z4.1.1.2.1, ()), ((z4.1.2.1.1.1, z4.1.2.1.1.2.1, ()), z4.1.2.1.2.1, ()), ()), (((z5.1.1.1.1, z5.1.1.1.2.1, ()), z5.1.1.2.1, ()), ((z5.1.2.1.1.1, z5.1.2.1.1.2.1, ()), z5.1.2.1.2.1, ()), ()), bits, ())).bind fun z6 =>
                      cond (!(decide (z6.2.1 = 0))) (some (a, [], z6.2.1, ()))
                        (
                          cond (decide (0 ≤ t17))
                            (
                              cond (decide (t17 < (out.length : Int)))
                                (
                                  κ0 a off len b bits (out.set t17.toNat ((z6.1.2.1.1.1, z6.1.2.1.1.2.1, ()), z6.1.2.1.2.1, ())) t16 (IntKind.i64.wrap (t17 + 1))) none) none)) none) none) none) none) (some (a, out, 0, ()))

def zono_wider_w_l0 (K : Nat) : Nat → (List DY) → Nat → Nat → (List DY) → Int → (List DY) → Int → Int → Option ((List DY) × (List DY) × Int × Unit)
  | 0, _, _, _, _, _, _, _, _ => none
  | n + 1, a, off, len, b, bits, out, t16, t17 => zono_wider_w_s0 (zono_wider_w_l0 K n) a off len b bits out t16 t17

/-- zono.wider -/
def zono_wider_w_b (I0 : (List DY) → Nat → Nat → (List DY) → Int → (List DY) → Int → Int → Option ((List DY) × (List DY) × Int × Unit)) (a : List DY) (off : Int) (len : Int) (b : List DY) (bits : Int) : Option ((List DY) × (List DY) × Int × Unit) :=
  cond (decide (0 ≤ ((len.toNat : Nat) : Int)))
    (
      cond (decide (((len.toNat : Nat) : Int) * 40 ≤ 140737488351232))
        (
          I0 a off.toNat len.toNat b bits (List.replicate (((len.toNat : Nat) : Int).toNat) ((false, ([], ())), (0, ())) : List DY) ((len.toNat : Nat) : Int) 0) none) none

def zono_wider_w (K : Nat) (a : List DY) (off : Int) (len : Int) (b : List DY) (bits : Int) : Option ((List DY) × (List DY) × Int × Unit) := zono_wider_w_b (zono_wider_w_l0 K K) a off len b bits

def S.zono_wider_w (x : List DY × Int × Int × List DY × Int × Unit) : Option (List DY × List DY × Int × Unit) := L.zono_wider_w 100 x.1 x.2.1 x.2.2.1 x.2.2.2.1 x.2.2.2.2.1
theorem zono_wider_w_Dx {n len off : Nat} {a c : Nat → Int} {e : Int} {b k : Nat} (hn : n ≤ 16) (ho : off + len ≤ n) (ha : nb n a k) (hc : nb len c k) (hk : k ≤ 480) (h0 : -60000 ≤ e) (h1 : e ≤ 20000) (hb : 2 ≤ b) (hb' : b ≤ 4096) : S.zono_wider_w (Dx n a e, ((off : Nat) : Int), ((len : Nat) : Int), Dx len c e, (b : Int), ()) = some (Dx n a e, Dx len (fun i => rup (a (off + i) + c i) b) e, 0, ()) := by
  simp only [S.zono_wider_w, L.zono_wider_w, zono_wider_w_b, Int.toNat_natCast]
  rw [ct (by omega), ct (by omega), ← Gx_zero len _ (fun i => Yd (rup (a (off + i) + c i) b) e)]
  refine loop_up len (Gx len _ (fun i => Yd (rup (a (off + i) + c i) b) e)) (fun k s i => zono_wider_w_l0 100 k (Dx n a e) off len (Dx len c e) (b : Int) s (len : Int) i) _ (fun k' i hi => ?_) (fun k => ?_) 100 (by omega)
  · simp only [zono_wider_w_l0, zono_wider_w_s0, Vx_len, Gx_len]
    rw [ct (by omega), ct (by omega), ct (by omega), ct (by omega), ct (by omega), Int.toNat_natCast, Vx_get hi, Vx_get (show off + i < n by omega)]
    have ha' := ha (off + i) (by omega)
    have e2 := span_Add_Sp (e := e) (b := b) (l := a (off + i)) (h := a (off + i)) (l' := c i) (h' := c i) ⟨ha', ha'⟩ ⟨hc i hi, hc i hi⟩ (by omega) h0 h1 hb hb'
    rw [Point_eq, Option.bind_some, Point_eq, Option.bind_some, show S.span_Add _ = _ from e2, Option.bind_some]
    simp only [decide_true, Bool.not_true, cond_false]
    rw [ct (by omega), ct (by omega), wi1 (by omega)]
    have hs := Gx_set ((false, ([], ())), (0, ())) (fun i => Yd (rup (a (off + i) + c i) b) e) hi
    exact congrArg (fun s => zono_wider_w_l0 100 k' (Dx n a e) off len (Dx len c e) (b : Int) s (len : Int) ((i + 1 : Nat) : Int)) hs
  · simp only [zono_wider_w_l0, zono_wider_w_s0]
    rw [cf (by omega), Gx_full]
/-- zono_image: one round of loop 0. -/
def zono_image_s0 (κ0 : (List DY) → Int → (List SP) → (List (List SP)) → Int → Int → Option ((List DY) × (List DY) × Int × Unit)) (x : List DY) (bits : Int) (s : List SP) (t17 : List (List SP)) (t18 : Int) (t19 : Int) : Option ((List DY) × (List DY) × Int × Unit) :=
  cond (decide (t19 < t18))
    (
      cond (decide (0 ≤ t19))
        (
          cond (decide (t19 < (t17.length : Int)))
            (
              (S.zono_points (x, ())).bind fun z3 =>
              (S.vec_Inner ((t17.getD t19.toNat []), z3.1, bits, ())).bind fun z4 =>
              cond (!(decide (z4.2.1 = 0))) (some ([], [], z4.2.1, ()))
                (
                  cond (decide (0 ≤ t19))
                    (
                      cond (decide (t19 < (s.length : Int)))
                        (
                          κ0 x bits (s.set t19.toNat (((z4.1.1.1.1, z4.1.1.1.2.1, ()), z4.1.1.2.1, ()), ((z4.1.2.1.1.1, z4.1.2.1.1.2.1, ()), z4.1.2.1.2.1, ()), ())) t17 t18 (IntKind.i64.wrap (t19 + 1))) none) none)) none) none)
    (
      (S.zono_middles (s, bits, ())).bind fun z7 =>
      some (z7.1, z7.2.1, z7.2.2.1, ()))

def zono_image_l0 (K : Nat) : Nat → (List DY) → Int → (List SP) → (List (List SP)) → Int → Int → Option ((List DY) × (List DY) × Int × Unit)
  | 0, _, _, _, _, _, _ => none
  | n + 1, x, bits, s, t17, t18, t19 => zono_image_s0 (zono_image_l0 K n) x bits s t17 t18 t19

/-- zono.image -/
def zono_image_b (I0 : (List DY) → Int → (List SP) → (List (List SP)) → Int → Int → Option ((List DY) × (List DY) × Int × Unit)) (a : List (List SP)) (x : List DY) (bits : Int) : Option ((List DY) × (List DY) × Int × Unit) :=
  cond (decide (0 ≤ (a.length : Int)))
    (
      cond (decide ((a.length : Int) * 80 ≤ 140737488351232))
        (
          I0 x bits (List.replicate a.length (((false, ([], ())), (0, ())), (((false, ([], ())), (0, ())), ())) : List SP) a (a.length : Int) 0) none) none

def zono_image (K : Nat) (a : List (List SP)) (x : List DY) (bits : Int) : Option ((List DY) × (List DY) × Int × Unit) := zono_image_b (zono_image_l0 K K) a x bits

def S.zono_image (x : List (List SP) × List DY × Int × Unit) : Option (List DY × List DY × Int × Unit) := L.zono_image 100 x.1 x.2.1 x.2.2.1
/-- A table's product with a list, place by place. -/
abbrev tim (A : Nat → Nat → Int × Int) (d : Nat → Int × Int) (b n : Nat) (i : Nat) : Int × Int := inn (A i) d b n
theorem tim_abs {n : Nat} {A : Nat → Nat → Int × Int} {d : Nat → Int × Int} {b j k : Nat} (hA : ∀ i < n, bb n (A i) j) (hd : bb n d k) : bb n (tim A d b n) (j + k + 1 + 2 * n) := fun i hi => inn_abs (hA i hi) hd n (Nat.le_refl _)
theorem zono_image_Dx {n : Nat} {A : Nat → Nat → Int × Int} {d : Nat → Int} {e e' : Int} {b j k : Nat} (hn : n ≤ 16) (hA : ∀ i < n, bb n (A i) j) (hd : nb n d k) (hk : j + k ≤ 380) (h0 : -10000 ≤ e) (h1 : e ≤ 3000) (h2 : -10000 ≤ e') (h3 : e' ≤ 3000) (hb : 2 ≤ b) (hb' : b ≤ 4096) :
    S.zono_image (Vx n (fun i => Bx n (A i) e'), Dx n d e, (b : Int), ()) = some (Dx n (md (tim A (pts d) b n) b) (e' + e - 1), Dx n (mo (tim A (pts d) b n) b) (e' + e - 1), 0, ()) := by
  simp only [S.zono_image, L.zono_image, zono_image_b, Vx_len]
  rw [ct (by omega), ct (by omega), ← Gx_zero n _ (fun i => Sp (tim A (pts d) b n i).1 (tim A (pts d) b n i).2 (e' + e))]
  refine loop_up n (Gx n _ (fun i => Sp (tim A (pts d) b n i).1 (tim A (pts d) b n i).2 (e' + e))) (fun k' s i => zono_image_l0 100 k' (Dx n d e) (b : Int) s (Vx n (fun i => Bx n (A i) e')) (n : Int) i) _ (fun k' i hi => ?_) (fun k' => ?_) 100 (by omega)
  · simp only [zono_image_l0, zono_image_s0, Vx_len, Gx_len]
    have p1 := zono_points_Dx (d := d) (e := e) hn
    have i1 := vec_Inner_Bx (b := b) hn (hA i hi) (pts_bb hd) (by omega) (by omega) (by omega) (by omega : -30000 ≤ e) (by omega) hb hb' (e := e')
    rw [ct (by omega), ct (by omega), ct (by omega), p1, Option.bind_some, Int.toNat_natCast, Vx_get hi, show S.vec_Inner _ = _ from i1, Option.bind_some]
    simp only [decide_true, Bool.not_true, cond_false]
    rw [ct (by omega), ct (by omega), wi1 (by omega)]
    have hs := Gx_set (((false, ([], ())), (0, ())), (((false, ([], ())), (0, ())), ())) (fun i => Sp (tim A (pts d) b n i).1 (tim A (pts d) b n i).2 (e' + e)) hi
    exact congrArg (fun s => zono_image_l0 100 k' (Dx n d e) (b : Int) s (Vx n (fun i => Bx n (A i) e')) (n : Int) ((i + 1 : Nat) : Int)) hs
  · simp only [zono_image_l0, zono_image_s0]
    have m1 := zono_middles_Bx (b := b) (e := e' + e) hn (tim_abs (b := b) hA (pts_bb hd)) (by omega) (by omega) (by omega) hb hb'
    rw [cf (by omega), Gx_full, m1, Option.bind_some]
/-- zono_Image: one round of loop 2. -/
def zono_Image_s2 (κ0 : (List (List SP)) → Int → (List DY) → (List (List DY)) → (List DY) → (List DY) → (List (List DY)) → (List DY) → (List DY) → (List (List DY)) → (List DY) → (List (List DY)) → Int → Int → Option (ZN × Int × Unit)) (κ1 : (List (List SP)) → Int → (List DY) → (List (List DY)) → (List DY) → (List DY) → (List (List DY)) → (List DY) → (List SP) → (List DY) → Int → Int → Option (ZN × Int × Unit)) (κ2 : Int → (List DY) → (List (List DY)) → (List DY) → (List DY) → (List (List DY)) → (List DY) → (List SP) → (List (List SP)) → Int → Int → Option (ZN × Int × Unit)) (bits : Int) (t6_0 : List DY) (t6_1 : List (List DY)) (t6_2 : List DY) (out_0 : List DY) (out_1 : List (List DY)) (out_2 : List DY) (sizes : List SP) (t98 : List (List SP)) (t99 : Int) (t100 : Int) : Option (ZN × Int × Unit) :=
  cond (decide (t100 < t99))
    (
      cond (decide (0 ≤ t100))
        (
          cond (decide (t100 < (t98.length : Int)))
            (
              (S.vec_Inner ((t98.getD t100.toNat []), sizes, bits, ())).bind fun z13 =>
              cond (!(decide (z13.2.1 = 0))) (some (([], [], [], ()), z13.2.1, ()))
                (
                  let z14 := IntKind.i64.wrap (t100 + 1)
                  cond (decide (0 ≤ t100))
                    (
                      cond (decide (t100 ≤ z14))
                        (
                          cond (decide (z14 ≤ (out_2.length : Int)))
                            (
                              (S.span_Size ((((z13.1.1.1.1, z13.1.1.1.2.1, ()), z13.1.1.2.1, ()), ((z13.1.2.1.1.1, z13.1.2.1.1.2.1, ()), z13.1.2.1.2.1, ()), ()), ())).bind fun z15 =>
                              (S.zono_wider_w (out_2, ((t100.toNat : Nat) : Int), ((z14.toNat - t100.toNat : Nat) : Int), [((z15.1.1.1, z15.1.1.2.1, ()), z15.1.2.1, ())], bits, ())).bind fun z16 =>
                              cond (!(decide (z16.2.2.1 = 0))) (some (([], [], [], ()), z16.2.2.1, ()))
                                (
                                  cond (decide (0 < (z16.2.1.length : Int)))
                                    (
                                      let z17 := z16.2.1.getD 0 ((false, ([], ())), (0, ()))
                                      cond (decide (0 ≤ t100))
                                        (
                                          cond (decide (t100 < (z16.1.length : Int)))
                                            (
                                              κ2 bits t6_0 t6_1 t6_2 out_0 out_1 (z16.1.set t100.toNat ((z17.1.1, z17.1.2.1, ()), z17.2.1, ())) sizes t98 t99 (IntKind.i64.wrap (t100 + 1))) none) none) none)) none) none) none)) none) none) (some ((out_0, out_1, out_2, ()), 0, ()))

def zono_Image_l2 (K : Nat) (κ0 : (List (List SP)) → Int → (List DY) → (List (List DY)) → (List DY) → (List DY) → (List (List DY)) → (List DY) → (List DY) → (List (List DY)) → (List DY) → (List (List DY)) → Int → Int → Option (ZN × Int × Unit)) (κ1 : (List (List SP)) → Int → (List DY) → (List (List DY)) → (List DY) → (List DY) → (List (List DY)) → (List DY) → (List SP) → (List DY) → Int → Int → Option (ZN × Int × Unit)) : Nat → Int → (List DY) → (List (List DY)) → (List DY) → (List DY) → (List (List DY)) → (List DY) → (List SP) → (List (List SP)) → Int → Int → Option (ZN × Int × Unit)
  | 0, _, _, _, _, _, _, _, _, _, _, _ => none
  | n + 1, bits, t6_0, t6_1, t6_2, out_0, out_1, out_2, sizes, t98, t99, t100 => zono_Image_s2 κ0 κ1 (zono_Image_l2 K κ0 κ1 n) bits t6_0 t6_1 t6_2 out_0 out_1 out_2 sizes t98 t99 t100

/-- zono_Image: one round of loop 1. -/
def zono_Image_s1 (I2 : Int → (List DY) → (List (List DY)) → (List DY) → (List DY) → (List (List DY)) → (List DY) → (List SP) → (List (List SP)) → Int → Int → Option (ZN × Int × Unit)) (κ0 : (List (List SP)) → Int → (List DY) → (List (List DY)) → (List DY) → (List DY) → (List (List DY)) → (List DY) → (List DY) → (List (List DY)) → (List DY) → (List (List DY)) → Int → Int → Option (ZN × Int × Unit)) (κ1 : (List (List SP)) → Int → (List DY) → (List (List DY)) → (List DY) → (List DY) → (List (List DY)) → (List DY) → (List SP) → (List DY) → Int → Int → Option (ZN × Int × Unit)) (a : List (List SP)) (bits : Int) (t6_0 : List DY) (t6_1 : List (List DY)) (t6_2 : List DY) (out_0 : List DY) (out_1 : List (List DY)) (out_2 : List DY) (sizes : List SP) (t85 : List DY) (t86 : Int) (t87 : Int) : Option (ZN × Int × Unit) :=
  cond (decide (t87 < t86))
    (
      cond (decide (0 ≤ t87))
        (
          cond (decide (t87 < (t85.length : Int)))
            (
              let z8 := t85.getD t87.toNat ((false, ([], ())), (0, ()))
              (S.span_Even (((z8.1.1, z8.1.2.1, ()), z8.2.1, ()), ())).bind fun z9 =>
              cond (decide (0 ≤ t87))
                (
                  cond (decide (t87 < (sizes.length : Int)))
                    (
                      κ1 a bits t6_0 t6_1 t6_2 out_0 out_1 out_2 (sizes.set t87.toNat (((z9.1.1.1.1, z9.1.1.1.2.1, ()), z9.1.1.2.1, ()), ((z9.1.2.1.1.1, z9.1.2.1.1.2.1, ()), z9.1.2.1.2.1, ()), ())) t85 t86 (IntKind.i64.wrap (t87 + 1))) none) none) none) none) (I2 bits t6_0 t6_1 t6_2 out_0 out_1 out_2 sizes a (a.length : Int) 0)

def zono_Image_l1 (K : Nat) (κ0 : (List (List SP)) → Int → (List DY) → (List (List DY)) → (List DY) → (List DY) → (List (List DY)) → (List DY) → (List DY) → (List (List DY)) → (List DY) → (List (List DY)) → Int → Int → Option (ZN × Int × Unit)) : Nat → (List (List SP)) → Int → (List DY) → (List (List DY)) → (List DY) → (List DY) → (List (List DY)) → (List DY) → (List SP) → (List DY) → Int → Int → Option (ZN × Int × Unit)
  | 0, _, _, _, _, _, _, _, _, _, _, _, _ => none
  | n + 1, a, bits, t6_0, t6_1, t6_2, out_0, out_1, out_2, sizes, t85, t86, t87 => zono_Image_s1 (zono_Image_l2 K κ0 (zono_Image_l1 K κ0 n) K) κ0 (zono_Image_l1 K κ0 n) a bits t6_0 t6_1 t6_2 out_0 out_1 out_2 sizes t85 t86 t87

/-- zono_Image: one round of loop 0. -/
def zono_Image_s0 (I1 : (List (List SP)) → Int → (List DY) → (List (List DY)) → (List DY) → (List DY) → (List (List DY)) → (List DY) → (List SP) → (List DY) → Int → Int → Option (ZN × Int × Unit)) (κ0 : (List (List SP)) → Int → (List DY) → (List (List DY)) → (List DY) → (List DY) → (List (List DY)) → (List DY) → (List DY) → (List (List DY)) → (List DY) → (List (List DY)) → Int → Int → Option (ZN × Int × Unit)) (a : List (List SP)) (bits : Int) (z_0 : List DY) (z_1 : List (List DY)) (z_2 : List DY) (t6_0 : List DY) (t6_1 : List (List DY)) (t6_2 : List DY) (out_0 : List DY) (out_1 : List (List DY)) (out_2 : List DY) (t42 : List (List DY)) (t43 : Int) (t44 : Int) : Option (ZN × Int × Unit) :=
  cond (decide (t44 < t43))
    (
      cond (decide (0 ≤ t44))
        (
          cond (decide (t44 < (t42.length : Int)))
            (
              (S.zono_image (a, (t42.getD t44.toNat []), bits, ())).bind fun z3 =>
              cond (!(decide (z3.2.2.1 = 0))) (some (([], [], [], ()), z3.2.2.1, ()))
                (
                  (S.zono_wider_w (out_2, ((0 : Nat) : Int), ((out_2.length : Nat) : Int), z3.2.1, bits, ())).bind fun z4 =>
                  cond (!(decide (z4.2.2.1 = 0))) (some (([], [], [], ()), z4.2.2.1, ()))
                    (
                      cond (decide ((out_1.length + ([z3.1]).length) * 24 ≤ 140737488351232))
                        (
                          κ0 a bits z_0 z_1 z_2 t6_0 t6_1 t6_2 out_0 (out_1 ++ ([z3.1])) z4.2.1 t42 t43 (IntKind.i64.wrap (t44 + 1))) none))) none) none)
    (
      cond (decide (0 ≤ (z_2.length : Int)))
        (
          cond (decide ((z_2.length : Int) * 80 ≤ 140737488351232))
            (
              I1 a bits t6_0 t6_1 t6_2 out_0 out_1 out_2 (List.replicate z_2.length (((false, ([], ())), (0, ())), (((false, ([], ())), (0, ())), ())) : List SP) z_2 (z_2.length : Int) 0) none) none)

def zono_Image_l0 (K : Nat) : Nat → (List (List SP)) → Int → (List DY) → (List (List DY)) → (List DY) → (List DY) → (List (List DY)) → (List DY) → (List DY) → (List (List DY)) → (List DY) → (List (List DY)) → Int → Int → Option (ZN × Int × Unit)
  | 0, _, _, _, _, _, _, _, _, _, _, _, _, _, _ => none
  | n + 1, a, bits, z_0, z_1, z_2, t6_0, t6_1, t6_2, out_0, out_1, out_2, t42, t43, t44 => zono_Image_s0 (zono_Image_l1 K (zono_Image_l0 K n) K) (zono_Image_l0 K n) a bits z_0 z_1 z_2 t6_0 t6_1 t6_2 out_0 out_1 out_2 t42 t43 t44

/-- zono.Image -/
def zono_Image_b (I0 : (List (List SP)) → Int → (List DY) → (List (List DY)) → (List DY) → (List DY) → (List (List DY)) → (List DY) → (List DY) → (List (List DY)) → (List DY) → (List (List DY)) → Int → Int → Option (ZN × Int × Unit)) (a : List (List SP)) (z : ZN) (bits : Int) : Option (ZN × Int × Unit) :=
  (S.zono_image (a, z.1, bits, ())).bind fun z1 =>
  cond (!(decide (z1.2.2.1 = 0))) (some (([], [], [], ()), z1.2.2.1, ())) (I0 a bits z.1 z.2.1 z.2.2.1 [] [] [] z1.1 [] z1.2.1 z.2.1 (z.2.1.length : Int) 0)

def zono_Image (K : Nat) (a : List (List SP)) (z : ZN) (bits : Int) : Option (ZN × Int × Unit) := zono_Image_b (zono_Image_l0 K K) a z bits

def S.zono_Image (x : List (List SP) × ZN × Int × Unit) : Option (ZN × Int × Unit) := L.zono_Image 100 x.1 x.2.1 x.2.2.1
abbrev evn (r : Nat → Int) (i : Nat) : Int × Int := (-((r i).natAbs : Int), ((r i).natAbs : Int))
/-- How far each place may be off, after so many ways; and at last. -/
def ir (A : Nat → Nat → Int × Int) (c : Nat → Int) (g : Nat → Nat → Int) (b n : Nat) : Nat → Nat → Int
  | 0 => mo (tim A (pts c) b n) b
  | k + 1 => fun i => rup (ir A c g b n k i + mo (tim A (pts (g k)) b n) b i) b
def irz (A : Nat → Nat → Int × Int) (c r : Nat → Int) (g : Nat → Nat → Int) (b n m i : Nat) : Int := rup (ir A c g b n m i + sz2 (inn (A i) (evn r) b n) * 2) b
theorem ir_pos (A : Nat → Nat → Int × Int) (c : Nat → Int) (g : Nat → Nat → Int) (b n i : Nat) : ∀ k, 0 ≤ ir A c g b n k i
  | 0 => mo_pos _ _ _
  | k + 1 => rup_pos (by have := ir_pos A c g b n i k; have := mo_pos (tim A (pts (g k)) b n) b i; omega) b
theorem irz_pos (A : Nat → Nat → Int × Int) (c r : Nat → Int) (g : Nat → Nat → Int) (b n m i : Nat) : 0 ≤ irz A c r g b n m i := rup_pos (by have := ir_pos A c g b n i m; have := sz2_pos (inn (A i) (evn r) b n); omega) b
theorem ir_abs {n m : Nat} {A : Nat → Nat → Int × Int} {c : Nat → Int} {g : Nat → Nat → Int} {b j k : Nat} (hA : ∀ i < n, bb n (A i) j) (hc : nb n c k) (hg : ∀ p < m, nb n (g p) k) : ∀ p ≤ m, nb n (ir A c g b n p) (j + k + 5 + 2 * n + 2 * p)
  | 0, _ => fun i hi => nA_up (mo_abs (tim_abs (b := b) hA (pts_bb hc)) i hi) (by omega)
  | p + 1, hp => fun i hi => by
    have h1 := ir_abs (b := b) hA hc hg p (by omega) i hi
    have h2 := nA_up (mo_abs (b := b) (tim_abs (b := b) hA (pts_bb (hg p (by omega)))) i hi) (show j + k + 1 + 2 * n + 4 ≤ j + k + 5 + 2 * n + 2 * p by omega)
    exact rup_abs (nA_add h1 h2)
theorem evn_bb {n : Nat} {r : Nat → Int} {k : Nat} (h : nb n r k) : bb n (evn r) k := fun i hi => lt2_even (h i hi)
theorem irz_abs {n m : Nat} {A : Nat → Nat → Int × Int} {c r : Nat → Int} {g : Nat → Nat → Int} {b j k : Nat} (hA : ∀ i < n, bb n (A i) j) (hc : nb n c k) (hr : nb n r k) (hg : ∀ p < m, nb n (g p) k) : nb n (irz A c r g b n m) (j + k + 7 + 2 * n + 2 * m) := fun i hi => by
  have h1 := ir_abs (b := b) hA hc hg m (Nat.le_refl _) i hi
  have h2 := nA_up (nA_two (sz2_abs (inn_abs (b := b) (hA i hi) (evn_bb hr) n (Nat.le_refl _)))) (show j + k + 1 + 2 * n + 1 ≤ j + k + 5 + 2 * n + 2 * m by omega)
  have h3 := rup_abs (b := b) (nA_add h1 h2)
  unfold irz
  exact nA_up h3 (by omega)
theorem zono_Image_Dx {n m : Nat} {A : Nat → Nat → Int × Int} {c r : Nat → Int} {g : Nat → Nat → Int} {e e' : Int} {b j k : Nat} (hn : n ≤ 16) (hm : m ≤ 16) (hA : ∀ i < n, bb n (A i) j) (hc : nb n c k) (hr : nb n r k) (hg : ∀ p < m, nb n (g p) k) (hk : j + k ≤ 380) (h0 : -10000 ≤ e) (h1 : e ≤ 3000) (h2 : -10000 ≤ e') (h3 : e' ≤ 3000) (hb : 2 ≤ b) (hb' : b ≤ 4096) :
    S.zono_Image (Vx n (fun i => Bx n (A i) e'), (Dx n c e, Vx m (fun p => Dx n (g p) e), Dx n r e, ()), (b : Int), ()) = some ((Dx n (md (tim A (pts c) b n) b) (e' + e - 1), Vx m (fun p => Dx n (md (tim A (pts (g p)) b n) b) (e' + e - 1)), Dx n (irz A c r g b n m) (e' + e - 1), ()), 0, ()) := by
  simp only [S.zono_Image, L.zono_Image, zono_Image_b, Vx_len]
  have l0 := zono_image_Dx (b := b) (e := e) (e' := e') hn hA hc hk h0 h1 h2 h3 hb hb'
  rw [show S.zono_image _ = _ from l0, Option.bind_some]
  simp only [decide_true, Bool.not_true, cond_false]
  refine loop_up m (fun p => (Vx p (fun p => Dx n (md (tim A (pts (g p)) b n) b) (e' + e - 1)), Dx n (ir A c g b n p) (e' + e - 1))) (fun k' s i => zono_Image_l0 100 k' (Vx n (fun i => Bx n (A i) e')) (b : Int) (Dx n c e) (Vx m (fun p => Dx n (g p) e)) (Dx n r e) [] [] [] (Dx n (md (tim A (pts c) b n) b) (e' + e - 1)) s.1 s.2 (Vx m (fun p => Dx n (g p) e)) (m : Int) i) _ (fun k' p hp => ?_) (fun k' => ?_) 100 (by omega)
  · simp only [zono_Image_l0, zono_Image_s0, Vx_len]
    have l1 := zono_image_Dx (b := b) (e := e) (e' := e') hn hA (hg p hp) hk h0 h1 h2 h3 hb hb'
    rw [ct (by omega), ct (by omega), ct (by omega), Int.toNat_natCast, Vx_get hp, show S.zono_image _ = _ from l1, Option.bind_some]
    simp only [decide_true, Bool.not_true, cond_false]
    have b1 : nb n (ir A c g b n p) 450 := fun i hi => nA_up (ir_abs (b := b) hA hc hg p (by omega) i hi) (by omega)
    have b2 : nb n (mo (tim A (pts (g p)) b n) b) 450 := fun i hi => nA_up (mo_abs (b := b) (tim_abs (b := b) hA (pts_bb (hg p hp))) i hi) (by omega)
    have w1 := zono_wider_w_Dx (off := 0) (len := n) (b := b) (e := e' + e - 1) hn (by omega) b1 b2 (by omega) (by omega) (by omega) hb hb'
    simp only [Nat.zero_add] at w1
    rw [show S.zono_wider_w _ = _ from w1, Option.bind_some]
    simp only [decide_true, Bool.not_true, cond_false, List.length_singleton]
    rw [ct (by omega), wi1 (by omega), Vx_succ]
    rfl
  · simp only [zono_Image_l0, zono_Image_s0, Vx_len]
    rw [cf (by omega), ct (by omega), ct (by omega)]
    generalize hG : Vx m (fun p => Dx n (md (tim A (pts (g p)) b n) b) (e' + e - 1)) = GG
    generalize hC : Dx n (md (tim A (pts c) b n) b) (e' + e - 1) = CC
    generalize hG2 : Vx m (fun p => Dx n (g p) e) = GG2
    rw [← Gx_zero n _ (fun i => Sp (evn r i).1 (evn r i).2 e)]
    refine loop_up n (Gx n _ (fun i => Sp (evn r i).1 (evn r i).2 e)) (fun k2 s i => zono_Image_l1 100 (zono_Image_l0 100 k') k2 (Vx n (fun i => Bx n (A i) e')) (b : Int) [] [] [] CC GG (Dx n (ir A c g b n m) (e' + e - 1)) s (Dx n r e) (n : Int) i) _ (fun k2 i hi => ?_) (fun k2 => ?_) 100 (by omega)
    · simp only [zono_Image_l1, zono_Image_s1, Vx_len, Gx_len]
      rw [ct (by omega), ct (by omega), ct (by omega), Int.toNat_natCast, Vx_get hi]
      have e1 := span_Even_Yd (x := r i) (e := e) (P1000 (hr i hi) (by omega))
      rw [show S.span_Even _ = _ from e1, Option.bind_some, ct (by omega), ct (by omega), wi1 (by omega)]
      have hs := Gx_set (((false, ([], ())), (0, ())), (((false, ([], ())), (0, ())), ())) (fun i => Sp (evn r i).1 (evn r i).2 e) hi
      exact congrArg (fun s => zono_Image_l1 100 (zono_Image_l0 100 k') k2 (Vx n (fun i => Bx n (A i) e')) (b : Int) [] [] [] CC GG (Dx n (ir A c g b n m) (e' + e - 1)) s (Dx n r e) (n : Int) ((i + 1 : Nat) : Int)) hs
    · simp only [zono_Image_l1, zono_Image_s1]
      rw [cf (by omega), Gx_full, Vx_len]
      refine loop_up n (fun i => Vx n (fun q => if q < i then Yd (irz A c r g b n m q) (e' + e - 1) else Yd (ir A c g b n m q) (e' + e - 1))) (fun k3 s i => zono_Image_l2 100 (zono_Image_l0 100 k') (zono_Image_l1 100 (zono_Image_l0 100 k') k2) k3 (b : Int) [] [] [] CC GG s (Bx n (evn r) e) (Vx n (fun i => Bx n (A i) e')) (n : Int) i) _ (fun k3 i hi => ?_) (fun k3 => ?_) 100 (by omega)
      · simp only [zono_Image_l2, zono_Image_s2, Vx_len]
        have hEv := evn_bb hr
        have i1 := vec_Inner_Bx (b := b) hn (hA i hi) hEv (by omega) (by omega) (by omega) (by omega : -30000 ≤ e) (by omega) hb hb' (e := e')
        rw [ct (by omega), ct (by omega), ct (by omega), Int.toNat_natCast, Vx_get hi, show S.vec_Inner _ = _ from i1, Option.bind_some]
        simp only [decide_true, Bool.not_true, cond_false]
        rw [wi1 (by omega), ct (by omega), ct (by omega), ct (by omega)]
        have a1 := inn_abs (b := b) (hA i hi) hEv n (Nat.le_refl _)
        have s1 : S.span_Size (Sp (inn (A i) (evn r) b n).1 (inn (A i) (evn r) b n).2 (e' + e), ()) = some (Yd (sz2 (inn (A i) (evn r) b n)) (e' + e), ()) := span_Size_Sp (e := e' + e) a1 (by omega) (by omega) (by omega)
        rw [show S.span_Size _ = _ from s1, Option.bind_some]
        have hrow : Vx n (fun q => if q < i then Yd (irz A c r g b n m q) (e' + e - 1) else Yd (ir A c g b n m q) (e' + e - 1)) = Dx n (fun q => if q < i then irz A c r g b n m q else ir A c g b n m q) (e' + e - 1) := Vx_congr fun q _ => by
          show _ = Yd (if q < i then irz A c r g b n m q else ir A c g b n m q) (e' + e - 1)
          split <;> rfl
        have hone : [Yd (sz2 (inn (A i) (evn r) b n)) (e' + e)] = Dx 1 (fun _ => sz2 (inn (A i) (evn r) b n) * 2) (e' + e - 1) := by rw [Yd_dbl]; rfl
        have b1 : nb n (fun q => if q < i then irz A c r g b n m q else ir A c g b n m q) 470 := fun q hq => by
          show (if q < i then irz A c r g b n m q else ir A c g b n m q).natAbs < P 470
          split
          · exact nA_up (irz_abs (b := b) hA hc hr hg q hq) (by omega)
          · exact nA_up (ir_abs (b := b) hA hc hg m (Nat.le_refl _) q hq) (by omega)
        have b2 : nb 1 (fun _ => sz2 (inn (A i) (evn r) b n) * 2) 470 := fun _ _ => nA_up (nA_two (sz2_abs a1)) (by omega)
        have w1 := zono_wider_w_Dx (off := i) (len := 1) (b := b) (e := e' + e - 1) hn (by omega) b1 b2 (by omega) (by omega) (by omega) hb hb'
        rw [← hone, ← hrow] at w1
        rw [show ((i + 1 : Nat) : Int).toNat - i = 1 by omega]
        rw [show S.zono_wider_w _ = _ from w1, Option.bind_some]
        simp only [decide_true, Bool.not_true, cond_false, Vx_len]
        rw [ct (by decide), ct (by omega), ct (by omega)]
        have hv : (Dx 1 (fun j => rup ((if i + j < i then irz A c r g b n m (i + j) else ir A c g b n m (i + j)) + sz2 (inn (A i) (evn r) b n) * 2) b) (e' + e - 1)).getD 0 ((false, ([], ())), (0, ())) = Yd (irz A c r g b n m i) (e' + e - 1) := by
          rw [Vx_get (by decide)]
          show Yd (rup ((if i + 0 < i then irz A c r g b n m (i + 0) else ir A c g b n m (i + 0)) + sz2 (inn (A i) (evn r) b n) * 2) b) (e' + e - 1) = _
          rw [if_neg (by omega)]; rfl
        rw [hv, Vx_set hi]
        have hset : Vx n (fun j => if j = i then Yd (irz A c r g b n m i) (e' + e - 1) else if j < i then Yd (irz A c r g b n m j) (e' + e - 1) else Yd (ir A c g b n m j) (e' + e - 1)) = Vx n (fun q => if q < i + 1 then Yd (irz A c r g b n m q) (e' + e - 1) else Yd (ir A c g b n m q) (e' + e - 1)) := Vx_congr fun q _ => by
          by_cases h1 : q = i
          · subst h1; rw [if_pos rfl, if_pos (by omega)]
          · rw [if_neg h1]
            by_cases h2 : q < i
            · rw [if_pos h2, if_pos (by omega)]
            · rw [if_neg h2, if_neg (by omega)]
        exact congrArg (fun s => zono_Image_l2 100 (zono_Image_l0 100 k') (zono_Image_l1 100 (zono_Image_l0 100 k') k2) k3 (b : Int) [] [] [] CC GG s (Bx n (evn r) e) (Vx n (fun i => Bx n (A i) e')) (n : Int) ((i + 1 : Nat) : Int)) hset
      · simp only [zono_Image_l2, zono_Image_s2]
        rw [cf (by omega)]
        have hfull : Vx n (fun q => if q < n then Yd (irz A c r g b n m q) (e' + e - 1) else Yd (ir A c g b n m q) (e' + e - 1)) = Dx n (irz A c r g b n m) (e' + e - 1) := Vx_congr fun q hq => by rw [if_pos hq]
        rw [hfull]
/-- zono_Times: one round of loop 0. -/
def zono_Times_s0 (κ0 : Int → (List DY) → (List (List DY)) → (List DY) → Bool → (List Int) → Int → Bool → (List Int) → Int → (List DY) → (List (List DY)) → (List DY) → Int → (List (List SP)) → Int → Int → Option (ZN × Int × Unit)) (bits : Int) (z_0 : List DY) (z_1 : List (List DY)) (z_2 : List DY) (by_0 : Bool) (by_1 : List Int) (by_2 : Int) (by_3 : Bool) (by_4 : List Int) (by_5 : Int) (t6_0 : List DY) (t6_1 : List (List DY)) (t6_2 : List DY) (n2 : Int) (a : List (List SP)) (t17 : Int) (t18 : Int) : Option (ZN × Int × Unit) :=
  cond (decide (t18 < t17))
    (
      cond (decide (0 ≤ n2))
        (
          cond (decide (n2 * 80 ≤ 140737488351232))
            (
              let z2 := (List.replicate n2.toNat (((false, ([], ())), (0, ())), (((false, ([], ())), (0, ())), ())) : List SP)
              cond (decide (0 ≤ t18))
                (
                  cond (decide (t18 < (a.length : Int)))
                    (
                      cond (decide (0 ≤ t18))
                        (
                          cond (decide (t18 < (a.length : Int)))
                            (
                              cond (decide (t18.toNat = t18.toNat))
                                (
                                  cond (decide (0 ≤ t18))
                                    (
                                      cond (decide (t18 < (z2.length : Int)))
                                        (
                                          κ0 bits z_0 z_1 z_2 by_0 by_1 by_2 by_3 by_4 by_5 t6_0 t6_1 t6_2 n2 (a.set t18.toNat (z2.set t18.toNat (((by_0, by_1, ()), by_2, ()), ((by_3, by_4, ()), by_5, ()), ()))) t17 (IntKind.i64.wrap (t18 + 1))) none) none) none) none) none) none) none) none) none)
    (
      (S.zono_Image (a, (z_0, z_1, z_2, ()), bits, ())).bind fun z5 =>
      some ((z5.1.1, z5.1.2.1, z5.1.2.2.1, ()), z5.2.1, ()))

def zono_Times_l0 (K : Nat) : Nat → Int → (List DY) → (List (List DY)) → (List DY) → Bool → (List Int) → Int → Bool → (List Int) → Int → (List DY) → (List (List DY)) → (List DY) → Int → (List (List SP)) → Int → Int → Option (ZN × Int × Unit)
  | 0, _, _, _, _, _, _, _, _, _, _, _, _, _, _, _, _, _ => none
  | n + 1, bits, z_0, z_1, z_2, by_0, by_1, by_2, by_3, by_4, by_5, t6_0, t6_1, t6_2, n2, a, t17, t18 => zono_Times_s0 (zono_Times_l0 K n) bits z_0 z_1 z_2 by_0 by_1 by_2 by_3 by_4 by_5 t6_0 t6_1 t6_2 n2 a t17 t18

/-- zono.Times -/
def zono_Times_b (I0 : Int → (List DY) → (List (List DY)) → (List DY) → Bool → (List Int) → Int → Bool → (List Int) → Int → (List DY) → (List (List DY)) → (List DY) → Int → (List (List SP)) → Int → Int → Option (ZN × Int × Unit)) (z : ZN) (by_ : SP) (bits : Int) : Option (ZN × Int × Unit) :=
  cond (decide (0 ≤ (z.1.length : Int)))
    (
      cond (decide ((z.1.length : Int) * 24 ≤ 140737488351232))
        (
          let z1 := (List.replicate z.1.length [] : List (List SP))
          I0 bits z.1 z.2.1 z.2.2.1 by_.1.1.1 by_.1.1.2.1 by_.1.2.1 by_.2.1.1.1 by_.2.1.1.2.1 by_.2.1.2.1 [] [] [] (z.1.length : Int) z1 (z1.length : Int) 0) none) none

def zono_Times (K : Nat) (z : ZN) (by_ : SP) (bits : Int) : Option (ZN × Int × Unit) := zono_Times_b (zono_Times_l0 K K) z by_ bits

def S.zono_Times (x : ZN × SP × Int × Unit) : Option (ZN × Int × Unit) := L.zono_Times 100 x.1 x.2.1 x.2.2.1
end Go.L

/-! DC -/
namespace Go.L
open Go.PM
set_option exponentiation.threshold 20000
set_option linter.unusedVariables false
set_option linter.unusedSimpArgs false

/-- A state of a set: the middle, the ways times numbers of size 1 at most, and so much more at each place. -/
def Mem (n m : Nat) (c r : Nat → Rat) (g : Nat → Nat → Rat) (p : Nat → Rat) : Prop := ∃ t : Nat → Rat, (∀ k < m, qabs (t k) ≤ 1) ∧ ∀ i < n, qabs (p i - (c i + sumQ (fun k => t k * g k i) m)) ≤ r i
theorem tmul_abs {t x y : Rat} (ht : qabs t ≤ 1) (hx : qabs x ≤ y) : qabs (t * x) ≤ y := by
  have := qmul_le ht hx (qabs_pos _) (by decide +kernel)
  rw [← qabs_mul] at this; grind
theorem Mem_Tq {n m : Nat} {c r : Nat → Rat} {g : Nat → Nat → Rat} {p q : Nat → Rat} (h : Mem n m c r g p) : sumQ (fun i => p i * q i) n ≤ Tq c r g q n m := by
  obtain ⟨t, ht, hp⟩ := h
  have h1 : sumQ (fun i => p i * q i) n ≤ sumQ (fun i => c i * q i + (sumQ (fun k => t k * (g k i * q i)) m + r i * qabs (q i))) n := sumQ_le fun i hi => by
    have a := Rat.mul_le_mul_of_nonneg_right (hp i hi) (qabs_pos (q i))
    rw [← qabs_mul] at a
    have b := qabs_ge ((p i - (c i + sumQ (fun k => t k * g k i) m)) * q i)
    have e : sumQ (fun k => t k * (g k i * q i)) m = q i * sumQ (fun k => t k * g k i) m := by
      rw [← sumQ_mul]; exact sumQ_congr fun k _ => by grind
    rw [e]; grind
  have h2 : sumQ (fun i => sumQ (fun k => t k * (g k i * q i)) m) n ≤ sumQ (fun k => qabs (sumQ (fun i => g k i * q i) n)) m := by
    rw [sumQ_comm]
    refine sumQ_le fun k hk => ?_
    rw [sumQ_mul]
    have a := tmul_abs (ht k hk) (Rat.le_refl (a := qabs (sumQ (fun i => g k i * q i) n)))
    have b := qabs_ge (t k * sumQ (fun i => g k i * q i) n)
    grind
  rw [sumQ_add, sumQ_add] at h1
  unfold Tq
  grind
theorem pnt_sum {q0 : Nat → Rat} {q : Nat → Nat → Rat} {t : Nat → Rat} {i : Nat} : ∀ m, pnt q0 q t m i = q0 i + sumQ (fun k => t k * q k i) m
  | 0 => by simp only [pnt, sumQ]; grind
  | m + 1 => by simp only [pnt, sumQ]; rw [pnt_sum m]; grind
theorem sum_off {m : Nat} {t x y z : Nat → Rat} (ht : ∀ k < m, qabs (t k) ≤ 1) (h : ∀ k < m, qabs (x k - y k) ≤ z k) : qabs (sumQ (fun k => t k * x k) m - sumQ (fun k => t k * y k) m) ≤ sumQ z m := by
  have e : sumQ (fun k => t k * x k) m - sumQ (fun k => t k * y k) m = sumQ (fun k => t k * (x k - y k)) m := by
    have h1 : sumQ (fun k => t k * (x k - y k) + t k * y k) m = sumQ (fun k => t k * x k) m := sumQ_congr fun k _ => by grind
    rw [sumQ_add] at h1
    grind
  rw [e]
  exact Rat.le_trans (sumQ_abs m) (sumQ_le fun k hk => tmul_abs (ht k hk) (h k hk))
theorem Of_mem {n m : Nat} {q0 : Nat → Rat} {q : Nat → Nat → Rat} {t : Nat → Rat} {b B j : Nat} (h0 : ∀ i < n, big (q0 i) j) (h : ∀ k < m, ∀ i < n, big (q k i) j) (hB : b + 32 * j + 1 ≤ B) (ht : ∀ k < m, qabs (t k) ≤ 1) :
    Mem n m (fun i => dv (md (nrs q0 b B) b i) (-(B : Int) - 1)) (fun i => dv (zr q0 q b B m i) (-(B : Int) - 1)) (fun k i => dv (md (nrs (q k) b B) b i) (-(B : Int) - 1)) (pnt q0 q t m) := by
  refine ⟨t, ht, fun i hi => ?_⟩
  have n0 := nrs_in (b := b) h0 hB i hi
  have a0 := mo_ge (f := nrs q0 b B) (b := b) (i := i) n0.1 n0.2
  have ak : ∀ k < m, qabs (q k i - dv (md (nrs (q k) b B) b i) (-(B : Int) - 1)) ≤ dv (mo (nrs (q k) b B) b i) (-(B : Int) - 1) := fun k hk => by
    have nk := nrs_in (b := b) (h k hk) hB i hi
    exact mo_ge (f := nrs (q k) b B) (b := b) (i := i) nk.1 nk.2
  have z := zr_ge (q0 := q0) (q := q) (b := b) (B := B) (i := i) (e := -(B : Int) - 1) m
  have s := sum_off ht ak
  have b0 := qabs_ge (q0 i - dv (md (nrs q0 b B) b i) (-(B : Int) - 1))
  have bs := qabs_ge (sumQ (fun k => t k * q k i) m - sumQ (fun k => t k * dv (md (nrs (q k) b B) b i) (-(B : Int) - 1)) m)
  show qabs (pnt q0 q t m i - (dv (md (nrs q0 b B) b i) (-(B : Int) - 1) + sumQ (fun k => t k * dv (md (nrs (q k) b B) b i) (-(B : Int) - 1)) m)) ≤ dv (zr q0 q b B m i) (-(B : Int) - 1)
  rw [pnt_sum]
  exact qabs_le' (by grind) (by grind)
theorem inn_sum2 {f g : Nat → Int × Int} {p q : Nat → Rat} {e e' : Int} {n b : Nat} (hp : ∀ i < n, dv (f i).1 e ≤ p i ∧ p i ≤ dv (f i).2 e) (hq : ∀ i < n, dv (g i).1 e' ≤ q i ∧ q i ≤ dv (g i).2 e') : ∀ i ≤ n, dv (inn f g b i).1 (e + e') ≤ sumQ (fun i => p i * q i) i ∧ sumQ (fun i => p i * q i) i ≤ dv (inn f g b i).2 (e + e')
  | 0, _ => by simp only [inn, sumQ, dv_zero]; exact ⟨Rat.le_refl, Rat.le_refl⟩
  | i + 1, h => by
    obtain ⟨i1, i2⟩ := inn_sum2 (e := e) (b := b) hp hq i (by omega)
    have h1 := hp i (by omega)
    have h2 := hq i (by omega)
    obtain ⟨m1, m2⟩ := q_mul_mid h1.1 h1.2 h2.1 h2.2
    simp only [inn, sumQ]
    have r1 := rup_ge (mhi (f i).1 (f i).2 (g i).1 (g i).2) b
    have r2 := rup_ge ((inn f g b i).2 + rup (mhi (f i).1 (f i).2 (g i).1 (g i).2) b) b
    have r3 := rdn_le (mlo (f i).1 (f i).2 (g i).1 (g i).2) b
    have r4 := rdn_le ((inn f g b i).1 + rdn (mlo (f i).1 (f i).2 (g i).1 (g i).2) b) b
    have d1 : dv ((inn f g b i).2 + mhi (f i).1 (f i).2 (g i).1 (g i).2) (e + e') ≤ dv (rup ((inn f g b i).2 + rup (mhi (f i).1 (f i).2 (g i).1 (g i).2) b) b) (e + e') := dv_le.2 (by omega)
    have d2 : dv (rdn ((inn f g b i).1 + rdn (mlo (f i).1 (f i).2 (g i).1 (g i).2) b) b) (e + e') ≤ dv ((inn f g b i).1 + mlo (f i).1 (f i).2 (g i).1 (g i).2) (e + e') := dv_le.2 (by omega)
    rw [dv_add] at d1 d2
    grind
theorem ir_ge {A : Nat → Nat → Int × Int} {c : Nat → Int} {g : Nat → Nat → Int} {b n i : Nat} {e : Int} : ∀ k, dv (mo (tim A (pts c) b n) b i) e + sumQ (fun k => dv (mo (tim A (pts (g k)) b n) b i) e) k ≤ dv (ir A c g b n k i) e
  | 0 => by simp only [sumQ, ir]; grind
  | k + 1 => by
    have h1 := ir_ge (A := A) (c := c) (g := g) (b := b) (n := n) (i := i) (e := e) k
    have h2 := (dv_le (e := e)).2 (rup_ge (ir A c g b n k i + mo (tim A (pts (g k)) b n) b i) b)
    rw [dv_add] at h2
    simp only [sumQ, ir]; grind
/-- What a table makes of a state. -/
def app2 (a : Nat → Nat → Rat) (p : Nat → Rat) (n i : Nat) : Rat := sumQ (fun j => a i j * p j) n
theorem Image_mem {n m : Nat} {A : Nat → Nat → Int × Int} {a : Nat → Nat → Rat} {c r : Nat → Int} {g : Nat → Nat → Int} {p : Nat → Rat} {e e' : Int} {b : Nat} (ha : ∀ i < n, ∀ j < n, dv (A i j).1 e' ≤ a i j ∧ a i j ≤ dv (A i j).2 e') (hr : ∀ i < n, 0 ≤ r i)
    (h : Mem n m (fun i => dv (c i) e) (fun i => dv (r i) e) (fun k i => dv (g k i) e) p) :
    Mem n m (fun i => dv (md (tim A (pts c) b n) b i) (e' + e - 1)) (fun i => dv (irz A c r g b n m i) (e' + e - 1)) (fun k i => dv (md (tim A (pts (g k)) b n) b i) (e' + e - 1)) (app2 a p n) := by
  obtain ⟨t, ht, hp⟩ := h
  refine ⟨t, ht, fun i hi => ?_⟩
  have exact_ : ∀ d : Nat → Int, qabs (sumQ (fun j => a i j * dv (d j) e) n - dv (md (tim A (pts d) b n) b i) (e' + e - 1)) ≤ dv (mo (tim A (pts d) b n) b i) (e' + e - 1) := fun d => by
    have s := inn_sum2 (b := b) (f := A i) (g := pts d) (q := fun j => dv (d j) e) (ha i hi) (fun j _ => ⟨Rat.le_refl, Rat.le_refl⟩) n (Nat.le_refl _)
    exact mo_ge (f := tim A (pts d) b n) (e := e' + e) s.1 s.2
  have a0 := exact_ c
  have ak : ∀ k < m, qabs (sumQ (fun j => a i j * dv (g k j) e) n - dv (md (tim A (pts (g k)) b n) b i) (e' + e - 1)) ≤ dv (mo (tim A (pts (g k)) b n) b i) (e' + e - 1) := fun k _ => exact_ (g k)
  have s := sum_off ht ak
  -- what is left over
  have hrho : ∀ j < n, dv (evn r j).1 e ≤ p j - (dv (c j) e + sumQ (fun k => t k * dv (g k j) e) m) ∧ p j - (dv (c j) e + sumQ (fun k => t k * dv (g k j) e) m) ≤ dv (evn r j).2 e := fun j hj => by
    have h1 := hp j hj
    have h2 := qabs_ge (p j - (dv (c j) e + sumQ (fun k => t k * dv (g k j) e) m))
    have e1 : ((r j).natAbs : Int) = r j := by have := hr j hj; omega
    show dv (-((r j).natAbs : Int)) e ≤ _ ∧ _ ≤ dv ((r j).natAbs : Int) e
    rw [e1, dv_neg]
    exact ⟨by grind, by grind⟩
  have sr := inn_sum2 (b := b) (ha i hi) hrho n (Nat.le_refl _)
  have sz := dv_sz2 sr.1 sr.2
  have hz := (dv_le (e := e' + e - 1)).2 (rup_ge (ir A c g b n m i + sz2 (inn (A i) (evn r) b n) * 2) b)
  rw [dv_add, dv_dbl] at hz
  have hir := ir_ge (A := A) (c := c) (g := g) (b := b) (n := n) (i := i) (e := e' + e - 1) m
  -- the parts together
  have split : app2 a p n i = sumQ (fun j => a i j * dv (c j) e) n + sumQ (fun k => t k * sumQ (fun j => a i j * dv (g k j) e) n) m + sumQ (fun j => a i j * (p j - (dv (c j) e + sumQ (fun k => t k * dv (g k j) e) m))) n := by
    have e1 : sumQ (fun k => t k * sumQ (fun j => a i j * dv (g k j) e) n) m = sumQ (fun j => a i j * sumQ (fun k => t k * dv (g k j) e) m) n := by
      have e2 : ∀ k, t k * sumQ (fun j => a i j * dv (g k j) e) n = sumQ (fun j => t k * (a i j * dv (g k j) e)) n := fun k => (sumQ_mul (t k) n).symm
      rw [sumQ_congr fun k _ => e2 k, ← sumQ_comm]
      refine sumQ_congr fun j _ => ?_
      rw [← sumQ_mul]
      exact sumQ_congr fun k _ => by grind
    rw [e1, ← sumQ_add, ← sumQ_add]
    unfold app2
    exact sumQ_congr fun j _ => by grind
  have b0 := qabs_ge (sumQ (fun j => a i j * dv (c j) e) n - dv (md (tim A (pts c) b n) b i) (e' + e - 1))
  have bs := qabs_ge (sumQ (fun k => t k * sumQ (fun j => a i j * dv (g k j) e) n) m - sumQ (fun k => t k * dv (md (tim A (pts (g k)) b n) b i) (e' + e - 1)) m)
  have br := qabs_ge (sumQ (fun j => a i j * (p j - (dv (c j) e + sumQ (fun k => t k * dv (g k j) e) m))) n)
  show qabs (app2 a p n i - (dv (md (tim A (pts c) b n) b i) (e' + e - 1) + sumQ (fun k => t k * dv (md (tim A (pts (g k)) b n) b i) (e' + e - 1)) m)) ≤ dv (irz A c r g b n m i) (e' + e - 1)
  rw [split]
  unfold irz
  exact qabs_le' (by grind) (by grind)
abbrev g2 (m : Nat) (g g' : Nat → Nat → Int) (k i : Nat) : Int := if k < m then g k i else g' (k - m) i
end Go.L
