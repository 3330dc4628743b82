/-
  the laws of sets: both ways round. the laws of sets: sums. the laws of sets: not much more. the laws of sets: not much more: the law. the laws of sets: tables.
  No condition beyond those that each theorem names.
-/
import Derived.Test.YtdgldaahflpndaaGreatDoorV

/-! DG -/
namespace Go.L
open Go.PM
set_option exponentiation.threshold 20000
set_option linter.unusedVariables false
set_option linter.unusedSimpArgs false

end Go.L

/-! DH -/
namespace Go.L
open Go.PM
set_option exponentiation.threshold 20000
set_option linter.unusedVariables false
set_option linter.unusedSimpArgs false

theorem quarter : Yd 1 (-2) = Yd (2 ^ 299) oe ∧ dv (2 ^ 299) oe = 1 / 4 := by
  constructor
  · have := Yd_scale 1 299 oe
    rw [Int.one_mul] at this
    rw [this]; rfl
  · have := dv_scale 1 oe 299
    rw [Int.one_mul] at this
    rw [this]; decide +kernel
theorem of_m3 : S.dyad_Of ((-3 : Int), (-1 : Int), ()) = some (Yd (-3) (-1), ()) := by
  rw [Yd_odd (by decide)]
  decide +kernel
theorem gens_append {n m l : Nat} {g g' : Nat → Nat → Int} {e : Int} : Vx m (fun k => Dx n (g k) e) ++ Vx l (fun k => Dx n (g' k) e) = Vx (m + l) (fun k => Dx n (fun i => g2 m g g' k i * 2) (e - 1)) := by
  rw [Vx_append]
  refine Vx_congr fun k _ => ?_
  rw [← Dx_dbl]
  unfold g2
  by_cases hk : k < m
  · rw [if_pos hk]
    exact Vx_congr fun i _ => by
      show Yd (g k i) e = Yd (if k < m then g k i else g' (k - m) i) e
      rw [if_pos hk]
  · rw [if_neg hk]
    exact Vx_congr fun i _ => by
      show Yd (g' (k - m) i) e = Yd (if k < m then g k i else g' (k - m) i) e
      rw [if_neg hk]
/-- The quarter that a bit tells. -/
def qw (w : Int) (k : Nat) : Rat := Rat.divInt (ibits .and .i64 (w.fdiv (2 ^ (min k 64))) 1 * 2 - 1) 4
theorem qw_abs (w : Int) (k : Nat) : qabs (qw w k) ≤ 1 / 4 ∧ big (qw w k) 1 := by
  have h := bit01 (w.fdiv (2 ^ (min k 64)))
  unfold qw
  rcases (show ibits .and .i64 (w.fdiv (2 ^ (min k 64))) 1 = 0 ∨ ibits .and .i64 (w.fdiv (2 ^ (min k 64))) 1 = 1 by omega) with e | e <;> rw [e] <;> exact ⟨by decide +kernel, by unfold big; decide +kernel⟩
/-- w16_ZonoSums: one round of loop 2. -/
def w16_ZonoSums_s2 (κ0 : (List RT) → (List RT) → (List (List RT)) → (List RT) → (List (List RT)) → (List DY) → (List (List DY)) → (List DY) → (List DY) → (List (List DY)) → (List DY) → (List DY) → (List (List DY)) → (List DY) → Int → Int → Option (Bool × Unit)) (κ1 : (List RT) → (List RT) → (List (List RT)) → (List RT) → (List (List RT)) → (List DY) → (List (List DY)) → (List DY) → (List DY) → (List (List DY)) → (List DY) → (List DY) → (List (List DY)) → (List DY) → Int → (List RT) → (List RT) → Int → Int → Int → Int → Option (Bool × Unit)) (κ2 : (List RT) → (List RT) → (List (List RT)) → (List RT) → (List (List RT)) → (List DY) → (List (List DY)) → (List DY) → (List DY) → (List (List DY)) → (List DY) → (List DY) → (List (List DY)) → (List DY) → (List RT) → Int → Int → Int → Int → Option (Bool × Unit)) (dir : List RT) (a_0 : List RT) (a_1 : List (List RT)) (b_0 : List RT) (b_1 : List (List RT)) (s_0 : List DY) (s_1 : List (List DY)) (s_2 : List DY) (t_0 : List DY) (t_1 : List (List DY)) (t_2 : List DY) (w_0 : List DY) (w_1 : List (List DY)) (w_2 : List DY) (p : List RT) (t118 : Int) (t119 : Int) (t171 : Int) (t172 : Int) : Option (Bool × Unit) :=
  cond (decide (t172 < t171))
    (
      (S.w16_corner ((b_0, b_1, ()), t172, ())).bind fun z33 =>
      (S.vec_Add (p, z33.1, ())).bind fun z34 =>
      (S.w16_within ((s_0, s_1, s_2, ()), z34.1, dir, 40, ())).bind fun z35 =>
      cond (!z35.1) (some (false, ()))
        (
          κ2 dir a_0 a_1 b_0 b_1 s_0 s_1 s_2 t_0 t_1 t_2 w_0 w_1 w_2 p t118 t119 t171 (IntKind.i64.wrap (t172 + 1))))
    (
      κ0 dir a_0 a_1 b_0 b_1 s_0 s_1 s_2 t_0 t_1 t_2 w_0 w_1 w_2 t118 (IntKind.i64.wrap (t119 + 1)))

def w16_ZonoSums_l2 (K : Nat) (κ0 : (List RT) → (List RT) → (List (List RT)) → (List RT) → (List (List RT)) → (List DY) → (List (List DY)) → (List DY) → (List DY) → (List (List DY)) → (List DY) → (List DY) → (List (List DY)) → (List DY) → Int → Int → Option (Bool × Unit)) (κ1 : (List RT) → (List RT) → (List (List RT)) → (List RT) → (List (List RT)) → (List DY) → (List (List DY)) → (List DY) → (List DY) → (List (List DY)) → (List DY) → (List DY) → (List (List DY)) → (List DY) → Int → (List RT) → (List RT) → Int → Int → Int → Int → Option (Bool × Unit)) : Nat → (List RT) → (List RT) → (List (List RT)) → (List RT) → (List (List RT)) → (List DY) → (List (List DY)) → (List DY) → (List DY) → (List (List DY)) → (List DY) → (List DY) → (List (List DY)) → (List DY) → (List RT) → Int → Int → Int → Int → Option (Bool × Unit)
  | 0, _, _, _, _, _, _, _, _, _, _, _, _, _, _, _, _, _, _, _ => none
  | n + 1, dir, a_0, a_1, b_0, b_1, s_0, s_1, s_2, t_0, t_1, t_2, w_0, w_1, w_2, p, t118, t119, t171, t172 => w16_ZonoSums_s2 κ0 κ1 (w16_ZonoSums_l2 K κ0 κ1 n) dir a_0 a_1 b_0 b_1 s_0 s_1 s_2 t_0 t_1 t_2 w_0 w_1 w_2 p t118 t119 t171 t172

/-- w16_ZonoSums: one round of loop 1. -/
def w16_ZonoSums_s1 (I2 : (List RT) → (List RT) → (List (List RT)) → (List RT) → (List (List RT)) → (List DY) → (List (List DY)) → (List DY) → (List DY) → (List (List DY)) → (List DY) → (List DY) → (List (List DY)) → (List DY) → (List RT) → Int → Int → Int → Int → Option (Bool × Unit)) (κ0 : (List RT) → (List RT) → (List (List RT)) → (List RT) → (List (List RT)) → (List DY) → (List (List DY)) → (List DY) → (List DY) → (List (List DY)) → (List DY) → (List DY) → (List (List DY)) → (List DY) → Int → Int → Option (Bool × Unit)) (κ1 : (List RT) → (List RT) → (List (List RT)) → (List RT) → (List (List RT)) → (List DY) → (List (List DY)) → (List DY) → (List DY) → (List (List DY)) → (List DY) → (List DY) → (List (List DY)) → (List DY) → Int → (List RT) → (List RT) → Int → Int → Int → Int → Option (Bool × Unit)) (dir : List RT) (a_0 : List RT) (a_1 : List (List RT)) (b_0 : List RT) (b_1 : List (List RT)) (s_0 : List DY) (s_1 : List (List DY)) (s_2 : List DY) (t_0 : List DY) (t_1 : List (List DY)) (t_2 : List DY) (w_0 : List DY) (w_1 : List (List DY)) (w_2 : List DY) (which : Int) (p : List RT) (far : List RT) (t118 : Int) (t119 : Int) (t140 : Int) (t141 : Int) : Option (Bool × Unit) :=
  cond (decide (t141 < t140))
    (
      cond (decide (0 ≤ t141))
        (
          cond (decide (t141 < (far.length : Int)))
            (
              let z22 := far.getD t141.toNat ((false, ([], ())), ([], ()))
              cond (decide (0 ≤ t141))
                (
                  (S.ratio_Of ((IntKind.i64.wrap ((IntKind.i64.wrap ((ibits .and .i64 (which.fdiv (2 ^ (min t141.toNat 64))) 1) * 2)) - 1)), 4, ())).bind fun z27 =>
                  (S.ratio_Add (((z22.1.1, z22.1.2.1, ()), z22.2.1, ()), ((z27.1.1.1, z27.1.1.2.1, ()), z27.1.2.1, ()), ())).bind fun z28 =>
                  cond (decide (0 ≤ t141))
                    (
                      cond (decide (t141 < (far.length : Int)))
                        (
                          κ1 dir a_0 a_1 b_0 b_1 s_0 s_1 s_2 t_0 t_1 t_2 w_0 w_1 w_2 which p (far.set t141.toNat ((z28.1.1.1, z28.1.1.2.1, ()), z28.1.2.1, ())) t118 t119 t140 (IntKind.i64.wrap (t141 + 1))) none) none) none) none) none)
    (
      (S.w16_within ((w_0, w_1, w_2, ()), far, dir, 40, ())).bind fun z31 =>
      cond (!z31.1) (some (false, ()))
        (
          cond (decide (0 ≤ (b_1.length : Int)))
            (
              I2 dir a_0 a_1 b_0 b_1 s_0 s_1 s_2 t_0 t_1 t_2 w_0 w_1 w_2 p t118 t119 (IntKind.i64.wrap (1 * 2 ^ (min (b_1.length : Int).toNat 64))) 0) none))

def w16_ZonoSums_l1 (K : Nat) (κ0 : (List RT) → (List RT) → (List (List RT)) → (List RT) → (List (List RT)) → (List DY) → (List (List DY)) → (List DY) → (List DY) → (List (List DY)) → (List DY) → (List DY) → (List (List DY)) → (List DY) → Int → Int → Option (Bool × Unit)) : Nat → (List RT) → (List RT) → (List (List RT)) → (List RT) → (List (List RT)) → (List DY) → (List (List DY)) → (List DY) → (List DY) → (List (List DY)) → (List DY) → (List DY) → (List (List DY)) → (List DY) → Int → (List RT) → (List RT) → Int → Int → Int → Int → Option (Bool × Unit)
  | 0, _, _, _, _, _, _, _, _, _, _, _, _, _, _, _, _, _, _, _, _, _ => none
  | n + 1, dir, a_0, a_1, b_0, b_1, s_0, s_1, s_2, t_0, t_1, t_2, w_0, w_1, w_2, which, p, far, t118, t119, t140, t141 => w16_ZonoSums_s1 (w16_ZonoSums_l2 K κ0 (w16_ZonoSums_l1 K κ0 n) K) κ0 (w16_ZonoSums_l1 K κ0 n) dir a_0 a_1 b_0 b_1 s_0 s_1 s_2 t_0 t_1 t_2 w_0 w_1 w_2 which p far t118 t119 t140 t141

/-- w16_ZonoSums: one round of loop 0. -/
def w16_ZonoSums_s0 (I1 : (List RT) → (List RT) → (List (List RT)) → (List RT) → (List (List RT)) → (List DY) → (List (List DY)) → (List DY) → (List DY) → (List (List DY)) → (List DY) → (List DY) → (List (List DY)) → (List DY) → Int → (List RT) → (List RT) → Int → Int → Int → Int → Option (Bool × Unit)) (κ0 : (List RT) → (List RT) → (List (List RT)) → (List RT) → (List (List RT)) → (List DY) → (List (List DY)) → (List DY) → (List DY) → (List (List DY)) → (List DY) → (List DY) → (List (List DY)) → (List DY) → Int → Int → Option (Bool × Unit)) (dir : List RT) (a_0 : List RT) (a_1 : List (List RT)) (b_0 : List RT) (b_1 : List (List RT)) (s_0 : List DY) (s_1 : List (List DY)) (s_2 : List DY) (t_0 : List DY) (t_1 : List (List DY)) (t_2 : List DY) (w_0 : List DY) (w_1 : List (List DY)) (w_2 : List DY) (t118 : Int) (t119 : Int) : Option (Bool × Unit) :=
  cond (decide (t119 < t118))
    (
      (S.w16_corner ((a_0, a_1, ()), t119, ())).bind fun z17 =>
      (S.ratio_Of ((-3 : Int), 2, ())).bind fun z18 =>
      (S.vec_Scale (z17.1, ((z18.1.1.1, z18.1.1.2.1, ()), z18.1.2.1, ()), ())).bind fun z19 =>
      (S.w16_within ((t_0, t_1, t_2, ()), z19.1, dir, 40, ())).bind fun z20 =>
      cond (!z20.1) (some (false, ()))
        (
          cond (decide ((([] : List RT).length + z17.1.length) * 56 ≤ 140737488351232))
            (
              let z21 := ([] : List RT) ++ z17.1
              I1 dir a_0 a_1 b_0 b_1 s_0 s_1 s_2 t_0 t_1 t_2 w_0 w_1 w_2 t119 z17.1 z21 t118 t119 (z21.length : Int) 0) none)) (some (true, ()))

def w16_ZonoSums_l0 (K : Nat) : Nat → (List RT) → (List RT) → (List (List RT)) → (List RT) → (List (List RT)) → (List DY) → (List (List DY)) → (List DY) → (List DY) → (List (List DY)) → (List DY) → (List DY) → (List (List DY)) → (List DY) → Int → Int → Option (Bool × Unit)
  | 0, _, _, _, _, _, _, _, _, _, _, _, _, _, _, _, _ => none
  | n + 1, dir, a_0, a_1, b_0, b_1, s_0, s_1, s_2, t_0, t_1, t_2, w_0, w_1, w_2, t118, t119 => w16_ZonoSums_s0 (w16_ZonoSums_l1 K (w16_ZonoSums_l0 K n) K) (w16_ZonoSums_l0 K n) dir a_0 a_1 b_0 b_1 s_0 s_1 s_2 t_0 t_1 t_2 w_0 w_1 w_2 t118 t119

/-- girdlelaw16.ZonoSums -/
def w16_ZonoSums_b (I0 : (List RT) → (List RT) → (List (List RT)) → (List RT) → (List (List RT)) → (List DY) → (List (List DY)) → (List DY) → (List DY) → (List (List DY)) → (List DY) → (List DY) → (List (List DY)) → (List DY) → Int → Int → Option (Bool × Unit)) (a : ZR) (b : ZR) (dir : List RT) : Option (Bool × Unit) :=
  (S.w16_spreads (())).bind fun z1 =>
  cond (!z1.1) (some (false, ()))
    (
      (S.w16_fit ((a.1, a.2.1, ()), (dir.length : Int), ())).bind fun z2 =>
      cond (!z2.1) (some (true, ()))
        (
          (S.w16_fit ((b.1, b.2.1, ()), (dir.length : Int), ())).bind fun z3 =>
          cond (!z3.1) (some (true, ()))
            (
              (S.w16_numbers (dir, (dir.length : Int), ())).bind fun z4 =>
              cond (!z4.1) (some (true, ()))
                (
                  cond (decide (6 < (IntKind.i64.wrap ((a.2.1.length : Int) + (b.2.1.length : Int))))) (some (true, ()))
                    (
                      (S.zono_Of ((a.1, a.2.1, ()), 40, ())).bind fun z6 =>
                      (S.zono_Of ((b.1, b.2.1, ()), 40, ())).bind fun z7 =>
                      (S.zono_Add ((z6.1.1, z6.1.2.1, z6.1.2.2.1, ()), (z7.1.1, z7.1.2.1, z7.1.2.2.1, ()), 40, ())).bind fun z8 =>
                      (S.dyad_Of ((-3 : Int), (-1 : Int), ())).bind fun z9 =>
                      (S.span_Point (((z9.1.1.1, z9.1.1.2.1, ()), z9.1.2.1, ()), ())).bind fun z10 =>
                      (S.zono_Times ((z6.1.1, z6.1.2.1, z6.1.2.2.1, ()), (((z10.1.1.1.1, z10.1.1.1.2.1, ()), z10.1.1.2.1, ()), ((z10.1.2.1.1.1, z10.1.2.1.1.2.1, ()), z10.1.2.1.2.1, ()), ()), 40, ())).bind fun z11 =>
                      (S.dyad_Of (1, (-2 : Int), ())).bind fun z12 =>
                      (S.zono_Wider ((z6.1.1, z6.1.2.1, z6.1.2.2.1, ()), ((z12.1.1.1, z12.1.1.2.1, ()), z12.1.2.1, ()), 40, ())).bind fun z13 =>
                      cond (!(decide (z8.2.1 = 0))) (some (false, ()))
                        (
                          cond (!(decide (z11.2.1 = 0))) (some (false, ()))
                            (
                              cond (!(decide (z13.2.1 = 0))) (some (false, ()))
                                (
                                  (S.zono_Check ((z8.1.1, z8.1.2.1, z8.1.2.2.1, ()), (dir.length : Int), ())).bind fun z14 =>
                                  cond (!(decide (z14.1 = 0))) (some (false, ()))
                                    (
                                      cond (!(decide ((z8.1.2.1.length : Int) = (IntKind.i64.wrap ((a.2.1.length : Int) + (b.2.1.length : Int)))))) (some (false, ()))
                                        (
                                          cond (decide (0 ≤ (a.2.1.length : Int)))
                                            (
                                              I0 dir a.1 a.2.1 b.1 b.2.1 z8.1.1 z8.1.2.1 z8.1.2.2.1 z11.1.1 z11.1.2.1 z11.1.2.2.1 z13.1.1 z13.1.2.1 z13.1.2.2.1 (IntKind.i64.wrap (1 * 2 ^ (min (a.2.1.length : Int).toNat 64))) 0) none))))))))))

def w16_ZonoSums (K : Nat) (a : ZR) (b : ZR) (dir : List RT) : Option (Bool × Unit) := w16_ZonoSums_b (w16_ZonoSums_l0 K K) a b dir

def S.w16_ZonoSums (x : ZR × ZR × List RT × Unit) : Option (Bool × Unit) := L.w16_ZonoSums 100 x.1 x.2.1 x.2.2.1
theorem ZonoSums_true {a b : ZR} {dir : List RT} (ha : inZ a) (hb : inZ b) (hd : ∀ d ∈ dir, inR d) : w16_ZonoSums 100 a b dir = some (true, ()) := by
  unfold w16_ZonoSums w16_ZonoSums_b
  rw [w16_spreads_true, Option.bind_some]
  simp only [Bool.not_true, cond_false]
  generalize hN : dir.length = n
  rcases w16_fit_in (n := n) ha with e | ⟨e, n1, n4, m, q0, q, hm, rfl, b0, bk⟩
  · rw [e]; rfl
  rw [e, Option.bind_some]
  simp only [Bool.not_true, cond_false]
  rcases w16_fit_in (n := n) hb with e | ⟨e, _, _, l, p0, p, hl, rfl, c0, ck⟩
  · rw [e]; rfl
  rw [e, Option.bind_some]
  simp only [Bool.not_true, cond_false]
  rcases w16_numbers_in (n := n) (by omega) hd with e | ⟨e, qd, rfl, bd⟩
  · rw [e]; rfl
  rw [e, Option.bind_some]
  simp only [Bool.not_true, cond_false, Vx_len]
  rw [wi64 (by omega) (by omega)]
  by_cases h6 : 6 < (m : Int) + (l : Int)
  · rw [ct h6]
  rw [cf h6]
  obtain ⟨kc, kg, kr⟩ := of_bounds (b := 40) (show m ≤ 6 by omega) (by omega) (by omega) b0 bk
  obtain ⟨kc', kg', kr'⟩ := of_bounds (b := 40) (show l ≤ 6 by omega) (by omega) (by omega) c0 ck
  have hr0 : ∀ i < n, 0 ≤ orr q0 q 40 m i := fun i _ => zr_pos _ _ _ _ _ _
  have hr0' : ∀ i < n, 0 ≤ orr p0 p 40 l i := fun i _ => zr_pos _ _ _ _ _ _
  have z1 := of_set (b := 40) n4 (show m ≤ 6 by omega) (by omega) (by omega) b0 bk
  have z2 := of_set (b := 40) n4 (show l ≤ 6 by omega) (by omega) (by omega) c0 ck
  have z3 := zono_Add_Dx (e := oe) (b := 40) (g := og q 40) (g' := og p 40) (show n ≤ 16 by omega) (show m ≤ 16 by omega) (show l ≤ 16 by omega) kc kr kc' kr' (by decide) (by decide) (by decide) (by decide) (by decide)
  rw [gens_append] at z3
  have l3 : lt2 (-3) (-3) 1 := ⟨by decide +kernel, by decide +kernel⟩
  have z4 := zono_Times_Dx (e := oe) (e' := -1) (b := 40) (show n ≤ 16 by omega) (show m ≤ 16 by omega) l3 kc kr kg (by decide) (by decide) (by decide) (by decide) (by decide) (by decide) (by decide)
  have b299 : ((2 : Int) ^ 299).natAbs < P 33 := by decide +kernel
  have z5 := zono_Wider_Dx (C := Dx n (oc q0 40) oe) (G := Vx m (fun k => Dx n (og q 40 k) oe)) (e := oe) (b := 40) (show n ≤ 16 by omega) kr b299 (by decide) (by decide) (by decide) (by decide) (by decide)
  rw [← quarter.1] at z5
  have d12 : S.dyad_Of (1, (-2 : Int), ()) = some (Yd 1 (-2), ()) := dyad_Of_one (by decide) (by decide)
  have ka := adc_abs (b := 40) kc kc'
  have kb := adr_abs (b := 40) kc kc' kr kr'
  have kab : nb n (adc (oc q0 40) (oc p0 40) 40) 43 := nb_up ka (by decide)
  have pos3 : ∀ i < n, 0 ≤ adr (oc q0 40) (oc p0 40) (orr q0 q 40 m) (orr p0 p 40 l) 40 i := fun i hi => by
    have h1 := hr0 i hi
    have h2 := hr0' i hi
    have h3 := mo_pos (pls (pts (oc q0 40)) (pts (oc p0 40)) 40) 40 i
    exact rup_pos (by have := rup_pos (x := mo (pls (pts (oc q0 40)) (pts (oc p0 40)) 40) 40 i + orr q0 q 40 m i * 2) (by omega) 40; omega) 40
  have kg3 : ∀ k < m + l, nb n (fun i => g2 m (og q 40) (og p 40) k i * 2) 43 := fun k hk i hi => by
    show (g2 m (og q 40) (og p 40) k i * 2).natAbs < P 43
    unfold g2
    split
    · exact nA_up (nA_two (kg k (by assumption) i hi)) (by decide)
    · exact nA_up (nA_two (kg' (k - m) (by omega) i hi)) (by decide)
  have z6 := zono_Check_Dx (e := oe - 1) (show n ≤ 16 by omega) (show m + l ≤ 16 by omega) kab kb pos3 kg3 (by decide) (by decide) (by decide)
  rw [show ((40 : Nat) : Int) = 40 from rfl] at z1 z2 z3 z4 z5
  rw [show S.zono_Of _ = _ from z1, Option.bind_some, show S.zono_Of _ = _ from z2, Option.bind_some, show S.zono_Add _ = _ from z3, Option.bind_some, of_m3, Option.bind_some, Point_eq, Option.bind_some, show S.zono_Times _ = _ from z4, Option.bind_some, d12, Option.bind_some, show S.zono_Wider _ = _ from z5, Option.bind_some]
  simp only [decide_true, Bool.not_true, cond_false]
  rw [show S.zono_Check _ = _ from z6, Option.bind_some]
  simp only [decide_true, Bool.not_true, cond_false, Vx_len]
  rw [show (!decide (((m + l : Nat) : Int) = (m : Int) + (l : Int))) = false by rw [decide_eq_true (by omega)]; rfl, cond_false]
  obtain ⟨e64, h64⟩ := two_pow32 (show m ≤ 6 by omega)
  obtain ⟨e64', h64'⟩ := two_pow32 (show l ≤ 6 by omega)
  rw [ct (by omega), Int.toNat_natCast, e64]
  -- the three sets
  generalize hS0 : Dx n (adc (oc q0 40) (oc p0 40) 40) (oe - 1) = S0
  generalize hS1 : Vx (m + l) (fun k => Dx n (fun i => g2 m (og q 40) (og p 40) k i * 2) (oe - 1)) = S1
  generalize hS2 : Dx n (adr (oc q0 40) (oc p0 40) (orr q0 q 40 m) (orr p0 p 40 l) 40) (oe - 1) = S2
  generalize hT0 : Dx n (md (tim (diag (-3) (-3)) (pts (oc q0 40)) 40 n) 40) (-1 + oe - 1) = T0
  generalize hT1 : Vx m (fun k => Dx n (md (tim (diag (-3) (-3)) (pts (og q 40 k)) 40 n) 40) (-1 + oe - 1)) = T1
  generalize hT2 : Dx n (irz (diag (-3) (-3)) (oc q0 40) (orr q0 q 40 m) (og q 40) 40 n m) (-1 + oe - 1) = T2
  generalize hW0 : Dx n (oc q0 40) oe = W0
  generalize hW1 : Vx m (fun k => Dx n (og q 40 k) oe) = W1
  generalize hW2 : Dx n (fun i => rup (orr q0 q 40 m i + (((2 : Int) ^ 299).natAbs : Int)) 40) oe = W2
  generalize hA1 : Vx m (fun k => Rx n (q k)) = A1
  generalize hB1 : Vx l (fun k => Rx n (p k)) = B1
  refine loop_up (2 ^ m) (fun _ => ()) (fun k s i => w16_ZonoSums_l0 100 k (Rx n qd) (Rx n q0) A1 (Rx n p0) B1 S0 S1 S2 T0 T1 T2 W0 W1 W2 ((2 ^ m : Nat) : Int) i) _ (fun k w hw => ?_) (fun k => ?_) 100 (by omega)
  · simp only [w16_ZonoSums_l0, w16_ZonoSums_s0]
    have c1 := w16_corner_R (w := (w : Int)) (show n ≤ 16 by omega) (show m ≤ 16 by omega) b0 bk
    rw [hA1] at c1
    have pb := corner_big (w := (w : Int)) (show m ≤ 6 by omega) b0 bk
    have hM := of_corner (b := 40) (w := (w : Int)) (by omega) b0 bk
    have o2 : S.ratio_Of ((-3 : Int), 2, ()) = some (R (Rat.divInt (-3) 2), ()) := ratio_Of_R (by decide) (by decide) (by decide) (by decide) (by decide)
    have b32 : big (Rat.divInt (-3) 2) 1 := by unfold big; decide +kernel
    have s1 := vec_Scale_R (t := Rat.divInt (-3) 2) (show n ≤ 16 by omega) pb b32 (by decide)
    have hT := Image_mem (A := diag (-3) (-3)) (a := fun i j => if j = i then Rat.divInt (-3) 2 else 0) (e' := -1) (b := 40) (fun i _ j _ => by
      show dv (diag (-3) (-3) i j).1 (-1) ≤ (if j = i then Rat.divInt (-3) 2 else 0) ∧ (if j = i then Rat.divInt (-3) 2 else 0) ≤ dv (diag (-3) (-3) i j).2 (-1)
      unfold diag
      split <;> exact ⟨by decide +kernel, by decide +kernel⟩) hr0 hM
    have hT' := Mem_congr (p' := fun i => pnt q0 q (cw w) m i * Rat.divInt (-3) 2) hT (fun i hi => by rw [app_diag hi]; grind)
    have w1 := w16_within_true (b := 40) n4 (show m ≤ 6 by omega) (by omega) (by omega) (nb_up (md_abs (tim_abs (b := 40) (fun i _ => diag_bb l3 i) (pts_bb kc))) (by omega)) (nb_up (irz_abs (b := 40) (fun i _ => diag_bb l3 i) kc kr kg) (by omega)) (fun i _ => irz_pos _ _ _ _ _ _ _ _) (fun k hk => nb_up (md_abs (tim_abs (b := 40) (fun i _ => diag_bb l3 i) (pts_bb (kg k hk)))) (by omega)) (show -2000 ≤ -1 + oe - 1 by decide) (by decide) (fun i hi => (big_mul (pb i hi) b32).mono (by decide)) bd hT'
    rw [show ((40 : Nat) : Int) = 40 from rfl, hT0, hT1, hT2] at w1
    rw [ct (by omega), show S.w16_corner _ = _ from c1, Option.bind_some, o2, Option.bind_some, show S.vec_Scale _ = _ from s1, Option.bind_some, show S.w16_within _ = _ from w1, Option.bind_some]
    simp only [Bool.not_true, cond_false, List.length_nil, List.nil_append, Vx_len]
    rw [ct (by omega)]
    generalize hpp : pnt q0 q (cw w) m = pp at pb hM c1 ⊢
    -- further on by a quarter
    have hstart : Rx n pp = Vx n (fun j => if j < 0 then R (pp j + qw w j) else R (pp j)) := Vx_congr fun j _ => by rw [if_neg (by omega)]
    have hloop := loop_up n (fun i => Vx n (fun j => if j < i then R (pp j + qw w j) else R (pp j))) (fun k2 s i => w16_ZonoSums_l1 100 (w16_ZonoSums_l0 100 k) k2 (Rx n qd) (Rx n q0) A1 (Rx n p0) B1 S0 S1 S2 T0 T1 T2 W0 W1 W2 (w : Int) (Rx n pp) s ((2 ^ m : Nat) : Int) (w : Int) (n : Int) i) (w16_ZonoSums_l0 100 k (Rx n qd) (Rx n q0) A1 (Rx n p0) B1 S0 S1 S2 T0 T1 T2 W0 W1 W2 ((2 ^ m : Nat) : Int) ((w + 1 : Nat) : Int)) (fun k2 i hi => ?_) (fun k2 => ?_) 100 (by omega)
    · rw [← hstart] at hloop
      exact hloop
    · simp only [w16_ZonoSums_l1, w16_ZonoSums_s1, Vx_len]
      have hbt := bit01 ((w : Int).fdiv (2 ^ (min i 64)))
      have o4 : S.ratio_Of (IntKind.i64.wrap (IntKind.i64.wrap (ibits .and .i64 ((w : Int).fdiv (2 ^ (min i 64))) 1 * 2) - 1), 4, ()) = some (R (qw w i), ()) := by
        rw [wi64 (by rw [wi64 (by omega) (by omega)]; omega) (by rw [wi64 (by omega) (by omega)]; omega), wi64 (by omega) (by omega)]
        exact ratio_Of_R (by omega) (by omega) (by decide) (by decide) (by decide)
      have ad := ratio_Add_R (pb i hi) (qw_abs w i).2 (by decide)
      rw [ct (by omega), ct (by omega), ct (by omega), ct (by omega), Int.toNat_natCast, Vx_get hi, if_neg (by omega : ¬ i < i), show S.ratio_Of _ = _ from o4, Option.bind_some, show S.ratio_Add _ = _ from ad, Option.bind_some, ct (by omega), ct (by omega), wi1 (by omega)]
      have hset : (Vx n (fun j => if j < i then R (pp j + qw w j) else R (pp j))).set i (R (pp i + qw w i)) = Vx n (fun j => if j < i + 1 then R (pp j + qw w j) else R (pp j)) := by
        rw [Vx_set hi]
        refine Vx_congr fun j _ => ?_
        by_cases h1 : j = i
        · subst h1; rw [if_pos rfl, if_pos (by omega)]
        · rw [if_neg h1]
          by_cases h2 : j < i
          · rw [if_pos h2, if_pos (by omega)]
          · rw [if_neg h2, if_neg (by omega)]
      exact congrArg (fun s => w16_ZonoSums_l1 100 (w16_ZonoSums_l0 100 k) k2 (Rx n qd) (Rx n q0) A1 (Rx n p0) B1 S0 S1 S2 T0 T1 T2 W0 W1 W2 (w : Int) (Rx n pp) s ((2 ^ m : Nat) : Int) (w : Int) (n : Int) ((i + 1 : Nat) : Int)) hset
    · simp only [w16_ZonoSums_l1, w16_ZonoSums_s1]
      have hfull : Vx n (fun j => if j < n then R (pp j + qw w j) else R (pp j)) = Rx n (fun j => pp j + qw w j) := Vx_congr fun j hj => by rw [if_pos hj]
      have hW := Wider_mem (x := 2 ^ 299) (b := 40) (p' := fun j => pp j + qw w j) hM (by decide +kernel) (fun i hi => by
        rw [quarter.2, show pp i + qw w i - pp i = qw w i by grind]
        exact (qw_abs w i).1)
      have w2 := w16_within_true (b := 40) n4 (show m ≤ 6 by omega) (by omega) (by omega) (nb_up kc (by decide)) (fun i hi => nA_up (rup_abs (b := 40) (nA_add (kr i hi) (show (((2 : Int) ^ 299).natAbs : Int).natAbs < P 33 by rw [Int.natAbs_natCast]; exact b299))) (by decide)) (fun i hi => rup_pos (by have := hr0 i hi; omega) 40) (fun k hk => nb_up (kg k hk) (by decide)) (show -2000 ≤ oe by decide) (by decide) (fun i hi => (big_add (pb i hi) (qw_abs w i).2).mono (by decide)) bd hW
      rw [show ((40 : Nat) : Int) = 40 from rfl, hW0, hW1, hW2] at w2
      rw [cf (by omega), hfull, show S.w16_within _ = _ from w2, Option.bind_some]
      simp only [Bool.not_true, cond_false]
      have hBl : B1.length = l := by rw [← hB1, Vx_len]
      rw [hBl, ct (by omega), Int.toNat_natCast, e64']
      refine loop_up (2 ^ l) (fun _ => ()) (fun k3 s i => w16_ZonoSums_l2 100 (w16_ZonoSums_l0 100 k) (w16_ZonoSums_l1 100 (w16_ZonoSums_l0 100 k) k2) k3 (Rx n qd) (Rx n q0) A1 (Rx n p0) B1 S0 S1 S2 T0 T1 T2 W0 W1 W2 (Rx n pp) ((2 ^ m : Nat) : Int) (w : Int) ((2 ^ l : Nat) : Int) i) _ (fun k3 u hu => ?_) (fun k3 => ?_) 100 (by omega)
      · simp only [w16_ZonoSums_l2, w16_ZonoSums_s2]
        have c2 := w16_corner_R (w := (u : Int)) (show n ≤ 16 by omega) (show l ≤ 16 by omega) c0 ck
        rw [hB1] at c2
        have pb2 := corner_big (w := (u : Int)) (show l ≤ 6 by omega) c0 ck
        have hM2 := of_corner (b := 40) (w := (u : Int)) (by omega) c0 ck
        have s2 := vec_Add_R (show n ≤ 16 by omega) pb pb2 (by decide)
        have hS := Add_mem (b := 40) hr0 hr0' hM hM2
        have w3 := w16_within_true (b := 40) n4 (show m + l ≤ 6 by omega) (by omega) (by omega) (nb_up ka (by decide)) (nb_up kb (by decide)) pos3 (fun k hk => nb_up (kg3 k hk) (by decide)) (show -2000 ≤ oe - 1 by decide) (by decide) (fun i hi => (big_add (pb i hi) (pb2 i hi)).mono (by decide)) bd hS
        rw [show ((40 : Nat) : Int) = 40 from rfl, hS0, hS1, hS2] at w3
        rw [ct (by omega), show S.w16_corner _ = _ from c2, Option.bind_some, show S.vec_Add _ = _ from s2, Option.bind_some, show S.w16_within _ = _ from w3, Option.bind_some]
        simp only [Bool.not_true, cond_false]
        rw [wi1 (by omega)]
      · simp only [w16_ZonoSums_l2, w16_ZonoSums_s2]
        rw [cf (by omega), wi1 (by omega)]
  · simp only [w16_ZonoSums_l0, w16_ZonoSums_s0]
    rw [cf (by omega)]
end Go.L

/-! DI -/
namespace Go.L
open Go.PM
set_option exponentiation.threshold 20000
set_option linter.unusedVariables false
set_option linter.unusedSimpArgs false

end Go.L

/-! DJ -/
namespace Go.L
open Go.PM
set_option exponentiation.threshold 20000
set_option linter.unusedVariables false
set_option linter.unusedSimpArgs false

end Go.L

/-! DK -/
namespace Go.L
open Go.PM
set_option exponentiation.threshold 20000
set_option linter.unusedVariables false
set_option linter.unusedSimpArgs false

end Go.L
