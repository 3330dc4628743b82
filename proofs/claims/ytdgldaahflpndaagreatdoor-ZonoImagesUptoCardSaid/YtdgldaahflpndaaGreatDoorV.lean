/-
  the laws of sets: what they share. the laws of sets: nothing less. sets: a window on a row is not written.
  No condition beyond those that each theorem names.
-/
import Derived.Test.YtdgldaahflpndaaGreatDoorU

/-! DD -/
namespace Go.L
open Go.PM
set_option exponentiation.threshold 20000
set_option linter.unusedVariables false
set_option linter.unusedSimpArgs false

/-- vec.Unit -/
def vec_Unit (n : Int) (at_ : Int) : Option ((List RT) × Unit) :=
  (S.vec_Zero (n, ())).bind fun z1 =>
  cond (decide (0 ≤ at_))
    (
      cond (decide (at_ < (z1.1.length : Int)))
        (
          (S.ratio_Of (1, 1, ())).bind fun z2 =>
          cond (decide (0 ≤ at_))
            (
              cond (decide (at_ < (z1.1.length : Int))) (some ((z1.1.set at_.toNat ((z2.1.1.1, z2.1.1.2.1, ()), z2.1.2.1, ())), ())) none) none) (some (z1.1, ()))) (some (z1.1, ()))

def S.vec_Unit (x : Int × Int × Unit) : Option (List RT × Unit) := L.vec_Unit x.1 x.2.1
/-- mat_Near: one round of loop 0. -/
def mat_Near_s0 (κ0 : Int → (List (List SP)) → (List (List RT)) → Int → Int → Option ((List (List SP)) × Int × Unit)) (bits : Int) (out : List (List SP)) (t14 : List (List RT)) (t15 : Int) (t16 : Int) : Option ((List (List SP)) × Int × Unit) :=
  cond (decide (t16 < t15))
    (
      cond (decide (0 ≤ t16))
        (
          cond (decide (t16 < (t14.length : Int)))
            (
              (S.vec_Near ((t14.getD t16.toNat []), bits, ())).bind fun z3 =>
              cond (!(decide (z3.2.1 = 0))) (some ([], z3.2.1, ()))
                (
                  cond (decide (0 ≤ t16))
                    (
                      cond (decide (t16 < (out.length : Int))) (κ0 bits (out.set t16.toNat z3.1) t14 t15 (IntKind.i64.wrap (t16 + 1))) none) none)) none) none) (some (out, 0, ()))

def mat_Near_l0 (K : Nat) : Nat → Int → (List (List SP)) → (List (List RT)) → Int → Int → Option ((List (List SP)) × Int × Unit)
  | 0, _, _, _, _, _ => none
  | n + 1, bits, out, t14, t15, t16 => mat_Near_s0 (mat_Near_l0 K n) bits out t14 t15 t16

/-- mat.Near -/
def mat_Near_b (I0 : Int → (List (List SP)) → (List (List RT)) → Int → Int → Option ((List (List SP)) × Int × Unit)) (a : List (List RT)) (bits : Int) : Option ((List (List SP)) × Int × Unit) :=
  cond (decide (0 ≤ (a.length : Int)))
    (
      cond (decide ((a.length : Int) * 24 ≤ 140737488351232))
        (
          I0 bits (List.replicate a.length [] : List (List SP)) a (a.length : Int) 0) none) none

def mat_Near (K : Nat) (a : List (List RT)) (bits : Int) : Option ((List (List SP)) × Int × Unit) := mat_Near_b (mat_Near_l0 K K) a bits

def S.mat_Near (x : List (List RT) × Int × Unit) : Option (List (List SP) × Int × Unit) := L.mat_Near 100 x.1 x.2.1
/-- mat_Apply: one round of loop 0. -/
def mat_Apply_s0 (κ0 : (List RT) → (List RT) → (List (List RT)) → Int → Int → Option ((List RT) × Int × Unit)) (x : List RT) (out : List RT) (t14 : List (List RT)) (t15 : Int) (t16 : Int) : Option ((List RT) × Int × Unit) :=
  cond (decide (t16 < t15))
    (
      cond (decide (0 ≤ t16))
        (
          cond (decide (t16 < (t14.length : Int)))
            (
              (S.vec_Dot ((t14.getD t16.toNat []), x, ())).bind fun z3 =>
              cond (!(decide (z3.2.1 = 0))) (some ([], z3.2.1, ()))
                (
                  cond (decide (0 ≤ t16))
                    (
                      cond (decide (t16 < (out.length : Int)))
                        (
                          κ0 x (out.set t16.toNat ((z3.1.1.1, z3.1.1.2.1, ()), z3.1.2.1, ())) t14 t15 (IntKind.i64.wrap (t16 + 1))) none) none)) none) none) (some (out, 0, ()))

def mat_Apply_l0 (K : Nat) : Nat → (List RT) → (List RT) → (List (List RT)) → Int → Int → Option ((List RT) × Int × Unit)
  | 0, _, _, _, _, _ => none
  | n + 1, x, out, t14, t15, t16 => mat_Apply_s0 (mat_Apply_l0 K n) x out t14 t15 t16

/-- mat.Apply -/
def mat_Apply_b (I0 : (List RT) → (List RT) → (List (List RT)) → Int → Int → Option ((List RT) × Int × Unit)) (a : List (List RT)) (x : List RT) : Option ((List RT) × Int × Unit) :=
  cond (decide (0 ≤ (a.length : Int)))
    (
      cond (decide ((a.length : Int) * 56 ≤ 140737488351232))
        (
          I0 x (List.replicate a.length ((false, ([], ())), ([], ())) : List RT) a (a.length : Int) 0) none) none

def mat_Apply (K : Nat) (a : List (List RT)) (x : List RT) : Option ((List RT) × Int × Unit) := mat_Apply_b (mat_Apply_l0 K K) a x

def S.mat_Apply (x : List (List RT) × List RT × Unit) : Option (List RT × Int × Unit) := L.mat_Apply 100 x.1 x.2.1
/-- girdlelaw16.spreads -/
def w16_spreads  : Option (Bool × Unit) :=
  (S.vec_Unit (2, 0, ())).bind fun z1 =>
  (S.vec_Unit (2, 0, ())).bind fun z2 =>
  (S.vec_Unit (2, 1, ())).bind fun z3 =>
  (S.zono_Of ((z1.1, [z2.1, z3.1], ()), 30, ())).bind fun z4 =>
  (S.ratio_Zero (())).bind fun z5 =>
  (S.ratio_Of ((-2 : Int), 1, ())).bind fun z6 =>
  (S.ratio_Of (1, 1, ())).bind fun z7 =>
  (S.ratio_Zero (())).bind fun z8 =>
  (S.mat_Near ([[((z5.1.1.1, z5.1.1.2.1, ()), z5.1.2.1, ()), ((z6.1.1.1, z6.1.1.2.1, ()), z6.1.2.1, ())], [((z7.1.1.1, z7.1.1.2.1, ()), z7.1.2.1, ()), ((z8.1.1.1, z8.1.1.2.1, ()), z8.1.2.1, ())]], 30, ())).bind fun z9 =>
  (S.zono_Image (z9.1, (z4.1.1, z4.1.2.1, z4.1.2.2.1, ()), 30, ())).bind fun z10 =>
  (S.zono_Add ((z10.1.1, z10.1.2.1, z10.1.2.2.1, ()), (z4.1.1, z4.1.2.1, z4.1.2.2.1, ()), 30, ())).bind fun z11 =>
  (S.vec_Unit (2, 0, ())).bind fun z12 =>
  (S.vec_Near (z12.1, 30, ())).bind fun z13 =>
  (S.zono_Support ((z11.1.1, z11.1.2.1, z11.1.2.2.1, ()), z13.1, 30, ())).bind fun z14 =>
  (S.zono_Box ((z11.1.1, z11.1.2.1, z11.1.2.2.1, ()), 30, ())).bind fun z15 =>
  (S.zono_Reach ((z11.1.1, z11.1.2.1, z11.1.2.2.1, ()), 30, ())).bind fun z16 =>
  (S.dyad_Of (1, 0, ())).bind fun z17 =>
  (S.zono_Wider ((z4.1.1, z4.1.2.1, z4.1.2.2.1, ()), ((z17.1.1.1, z17.1.1.2.1, ()), z17.1.2.1, ()), 30, ())).bind fun z18 =>
  (S.zono_Support ((z18.1.1, z18.1.2.1, z18.1.2.2.1, ()), z13.1, 30, ())).bind fun z19 =>
  (S.dyad_Of (3, 0, ())).bind fun z20 =>
  (S.span_Point (((z20.1.1.1, z20.1.1.2.1, ()), z20.1.2.1, ()), ())).bind fun z21 =>
  (S.zono_Times ((z4.1.1, z4.1.2.1, z4.1.2.2.1, ()), (((z21.1.1.1.1, z21.1.1.1.2.1, ()), z21.1.1.2.1, ()), ((z21.1.2.1.1.1, z21.1.2.1.1.2.1, ()), z21.1.2.1.2.1, ()), ()), 30, ())).bind fun z22 =>
  (S.zono_Support ((z22.1.1, z22.1.2.1, z22.1.2.2.1, ()), z13.1, 30, ())).bind fun z23 =>
  cond (decide ((IntKind.i64.wrap ((IntKind.i64.wrap ((IntKind.i64.wrap ((IntKind.i64.wrap ((IntKind.i64.wrap ((IntKind.i64.wrap ((IntKind.i64.wrap ((IntKind.i64.wrap ((IntKind.i64.wrap ((IntKind.i64.wrap (z4.2.1 + z9.2.1)) + z10.2.1)) + z11.2.1)) + z14.2.1)) + z15.2.1)) + z16.2.1)) + z18.2.1)) + z19.2.1)) + z22.2.1)) + z23.2.1)) = 0))
    (
      cond (decide ((z11.1.2.1.length : Int) = 4))
        (
          (S.dyad_Of (4, 0, ())).bind fun z34 =>
          (S.dyad_Compare (((z14.1.1.1, z14.1.1.2.1, ()), z14.1.2.1, ()), ((z34.1.1.1, z34.1.1.2.1, ()), z34.1.2.1, ()), ())).bind fun z35 =>
          cond (decide (z35.1 = 0))
            (
              cond (decide ((z15.1.length : Int) = 2))
                (
                  cond (decide (0 < (z15.1.length : Int)))
                    (
                      let z36 := (z15.1.getD 0 (((false, ([], ())), (0, ())), (((false, ([], ())), (0, ())), ()))).1
                      (S.dyad_Of ((-2 : Int), 0, ())).bind fun z37 =>
                      (S.dyad_Compare (((z36.1.1, z36.1.2.1, ()), z36.2.1, ()), ((z37.1.1.1, z37.1.1.2.1, ()), z37.1.2.1, ()), ())).bind fun z38 =>
                      cond (decide (z38.1 = 0))
                        (
                          (S.dyad_Of (4, 0, ())).bind fun z39 =>
                          (S.dyad_Compare (((z16.1.1.1, z16.1.1.2.1, ()), z16.1.2.1, ()), ((z39.1.1.1, z39.1.1.2.1, ()), z39.1.2.1, ()), ())).bind fun z40 =>
                          cond (decide (z40.1 = 0))
                            (
                              (S.dyad_Of (3, 0, ())).bind fun z41 =>
                              (S.dyad_Compare (((z19.1.1.1, z19.1.1.2.1, ()), z19.1.2.1, ()), ((z41.1.1.1, z41.1.1.2.1, ()), z41.1.2.1, ()), ())).bind fun z42 =>
                              cond (decide (z42.1 = 0))
                                (
                                  (S.dyad_Of (6, 0, ())).bind fun z43 =>
                                  (S.dyad_Compare (((z23.1.1.1, z23.1.1.2.1, ()), z23.1.2.1, ()), ((z43.1.1.1, z43.1.1.2.1, ()), z43.1.2.1, ()), ())).bind fun z44 =>
                                  cond (decide (z44.1 = 0))
                                    (
                                      (S.zono_Check ((z11.1.1, z11.1.2.1, z11.1.2.2.1, ()), 2, ())).bind fun z45 =>
                                      cond (decide (z45.1 = 0))
                                        (
                                          (S.zono_Point (3, ())).bind fun z46 =>
                                          (S.zono_Check ((z46.1.1, z46.1.2.1, z46.1.2.2.1, ()), 3, ())).bind fun z47 =>
                                          cond (decide (z47.1 = 0))
                                            (
                                              (S.zono_Check ((z11.1.1, z11.1.2.1, z11.1.2.2.1, ()), 3, ())).bind fun z48 =>
                                              cond (decide (z48.1 = 20)) (some (true, ())) (some (false, ()))) (some (false, ()))) (some (false, ()))) (some (false, ()))) (some (false, ()))) (some (false, ()))) (some (false, ()))) none) (some (false, ()))) (some (false, ()))) (some (false, ()))) (some (false, ()))

def S.w16_spreads (x : Unit) : Option (Bool × Unit) := L.w16_spreads
theorem w16_spreads_true : S.w16_spreads () = some (true, ()) := by
  show L.w16_spreads = _
  decide +kernel
/-- w16_numbers: one round of loop 0. -/
def w16_numbers_s0 (κ0 : (List RT) → Int → Int → Option (Bool × Unit)) (t11 : List RT) (t12 : Int) (t13 : Int) : Option (Bool × Unit) :=
  cond (decide (t13 < t12))
    (
      cond (decide (0 ≤ t13))
        (
          cond (decide (t13 < (t11.length : Int)))
            (
              let z2 := t11.getD t13.toNat ((false, ([], ())), ([], ()))
              cond (decide (1 < (z2.1.2.1.length : Int))) (some (false, ()))
                (
                  cond (decide (1 < (z2.2.1.length : Int))) (some (false, ())) (κ0 t11 t12 (IntKind.i64.wrap (t13 + 1))))) none) none) (some (true, ()))

def w16_numbers_l0 (K : Nat) : Nat → (List RT) → Int → Int → Option (Bool × Unit)
  | 0, _, _, _ => none
  | n + 1, t11, t12, t13 => w16_numbers_s0 (w16_numbers_l0 K n) t11 t12 t13

/-- girdlelaw16.numbers -/
def w16_numbers_b (I0 : (List RT) → Int → Int → Option (Bool × Unit)) (l : List RT) (n : Int) : Option (Bool × Unit) :=
  (S.vec_Check (l, n, ())).bind fun z1 =>
  cond (!(decide (z1.1 = 0))) (some (false, ())) (I0 l (l.length : Int) 0)

def w16_numbers (K : Nat) (l : List RT) (n : Int) : Option (Bool × Unit) := w16_numbers_b (w16_numbers_l0 K K) l n

def S.w16_numbers (x : List RT × Int × Unit) : Option (Bool × Unit) := L.w16_numbers 100 x.1 x.2.1
def big1 (n : Nat) (q : Nat → Rat) : Prop := ∀ i < n, big (q i) 1
theorem w16_numbers_in {l : List RT} {n : Nat} (hn : n ≤ 16) (h : ∀ d ∈ l, inR d) : S.w16_numbers (l, (n : Int), ()) = some (false, ()) ∨ (S.w16_numbers (l, (n : Int), ()) = some (true, ()) ∧ ∃ q : Nat → Rat, l = Rx n q ∧ big1 n q) := by
  simp only [S.w16_numbers, L.w16_numbers, w16_numbers_b]
  rcases vec_Check_in hn h with ⟨c, c0, e⟩ | ⟨e, q, el, hb⟩
  · left; rw [e, Option.bind_some]; simp only; rw [decide_eq_false c0]; rfl
  rw [e, Option.bind_some]
  simp only [decide_true, Bool.not_true, cond_false]
  subst el
  rw [Vx_len]
  rcases loop_or n (fun _ => ()) (fun k s i => w16_numbers_l0 100 k (Rx n q) (n : Int) i) (fun r => r = some (false, ())) (fun i => big (q i) 1) (fun k j hk hj => by
      simp only [w16_numbers_l0, w16_numbers_s0, Vx_len]
      rw [ct (by omega), ct (by omega), ct (by omega), Int.toNat_natCast, Vx_get hj]
      by_cases l1 : 1 < (D (q j).num.natAbs).length
      · right; rw [ct (show 1 < (((R (q j)).1.2.1).length : Int) by show 1 < ((D (q j).num.natAbs).length : Int); omega)]
      rw [cf (show ¬ 1 < (((R (q j)).1.2.1).length : Int) by show ¬ 1 < ((D (q j).num.natAbs).length : Int); omega)]
      by_cases l2 : 1 < (D (q j).den).length
      · right; rw [ct (show 1 < (((R (q j)).2.1).length : Int) by show 1 < ((D (q j).den).length : Int); omega)]
      rw [cf (show ¬ 1 < (((R (q j)).2.1).length : Int) by show ¬ 1 < ((D (q j).den).length : Int); omega), wi1 (by omega)]
      exact .inl ⟨rfl, big_len (m := 0) (by omega) (by omega)⟩) 100 (by omega) with h | ⟨k, e2, h⟩
  · exact .inl h
  right
  have e3 : w16_numbers_l0 100 100 (Rx n q) (n : Int) 0 = _ := e2
  rw [e3]
  simp only [w16_numbers_l0, w16_numbers_s0]
  rw [cf (by omega)]
  exact ⟨rfl, q, rfl, h⟩
/-- w16_fit: one round of loop 0. -/
def w16_fit_s0 (κ0 : Int → (List (List RT)) → Int → Int → Option (Bool × Unit)) (n2 : Int) (t31 : List (List RT)) (t32 : Int) (t33 : Int) : Option (Bool × Unit) :=
  cond (decide (t33 < t32))
    (
      cond (decide (0 ≤ t33))
        (
          cond (decide (t33 < (t31.length : Int)))
            (
              (S.w16_numbers ((t31.getD t33.toNat []), n2, ())).bind fun z4 =>
              cond (!z4.1) (some (false, ())) (κ0 n2 t31 t32 (IntKind.i64.wrap (t33 + 1)))) none) none) (some (true, ()))

def w16_fit_l0 (K : Nat) : Nat → Int → (List (List RT)) → Int → Int → Option (Bool × Unit)
  | 0, _, _, _, _ => none
  | n + 1, n2, t31, t32, t33 => w16_fit_s0 (w16_fit_l0 K n) n2 t31 t32 t33

/-- girdlelaw16.fit -/
def w16_fit_b (I0 : Int → (List (List RT)) → Int → Int → Option (Bool × Unit)) (z : ZR) (n : Int) : Option (Bool × Unit) :=
  cond (decide (n < 1)) (some (false, ()))
    (
      cond (decide (4 < n)) (some (false, ()))
        (
          cond (decide (5 < (z.2.1.length : Int))) (some (false, ()))
            (
              (S.vec_Check (z.1, n, ())).bind fun z1 =>
              cond (!(decide (z1.1 = 0))) (some (false, ()))
                (
                  cond (decide ((([z.1]).length + z.2.1.length) * 24 ≤ 140737488351232))
                    (
                      let z2 := ([z.1]) ++ z.2.1
                      I0 n z2 (z2.length : Int) 0) none))))

def w16_fit (K : Nat) (z : ZR) (n : Int) : Option (Bool × Unit) := w16_fit_b (w16_fit_l0 K K) z n

def S.w16_fit (x : ZR × Int × Unit) : Option (Bool × Unit) := L.w16_fit 100 x.1 x.2.1
theorem w16_fit_in {z : ZR} {n : Nat} (hz : inZ z) : S.w16_fit (z, (n : Int), ()) = some (false, ()) ∨ (S.w16_fit (z, (n : Int), ()) = some (true, ()) ∧ 1 ≤ n ∧ n ≤ 4 ∧ ∃ (m : Nat) (q0 : Nat → Rat) (q : Nat → Nat → Rat), m ≤ 5 ∧ z = (Rx n q0, Vx m (fun k => Rx n (q k)), ()) ∧ big1 n q0 ∧ ∀ k < m, big1 n (q k)) := by
  simp only [S.w16_fit, L.w16_fit, w16_fit_b]
  by_cases g1 : (n : Int) < 1
  · left; rw [ct g1]
  rw [cf g1]
  by_cases g2 : 4 < (n : Int)
  · left; rw [ct g2]
  rw [cf g2]
  by_cases g3 : 5 < (z.2.1.length : Int)
  · left; rw [ct g3]
  rw [cf g3]
  rcases vec_Check_in (n := n) (by omega) hz.1 with ⟨c, c0, e⟩ | ⟨e, q, el, hb⟩
  · left; rw [e, Option.bind_some]; simp only; rw [decide_eq_false c0]; rfl
  rw [e, Option.bind_some]
  simp only [decide_true, Bool.not_true, cond_false]
  generalize hm : z.2.1.length = m at g3 ⊢
  have hls : ([z.1] ++ z.2.1).length = m + 1 := by rw [List.length_append, List.length_singleton, hm]; omega
  have hin := fun i (hi : i < m + 1) => inZ_get hz (show i < ([z.1] ++ z.2.1).length by omega)
  rw [ct (by rw [List.length_singleton]; omega), hls]
  generalize hL : [z.1] ++ z.2.1 = ls at hls hin ⊢
  rcases loop_or (m + 1) (fun _ => ()) (fun k s i => w16_fit_l0 100 k (n : Int) ls ((m + 1 : Nat) : Int) i) (fun r => r = some (false, ())) (fun i => ∃ q : Nat → Rat, ls.getD i [] = Rx n q ∧ big1 n q) (fun k i hk hi => by
      simp only [w16_fit_l0, w16_fit_s0]
      rw [ct (by omega), ct (by omega), ct (by omega), Int.toNat_natCast]
      rcases w16_numbers_in (n := n) (by omega) (hin i hi) with e | ⟨e, q, el, hbq⟩
      · right; rw [e]; rfl
      · left
        rw [e, Option.bind_some]
        simp only [Bool.not_true, cond_false]
        rw [wi1 (by omega)]
        exact ⟨rfl, q, el, hbq⟩) 100 (by omega) with h | ⟨k, e2, h⟩
  · exact .inl h
  right
  have e3 : w16_fit_l0 100 100 (n : Int) ls ((m + 1 : Nat) : Int) 0 = _ := e2
  rw [e3]
  obtain ⟨q0, q, e4, s0, sq⟩ := rows_of (Q := big1 n) hm (by rw [hL]; exact h)
  simp only [w16_fit_l0, w16_fit_s0]
  rw [cf (by omega)]
  exact ⟨rfl, by omega, by omega, m, q0, q, by omega, e4, s0, sq⟩
theorem bit01 (p : Int) : 0 ≤ ibits .and .i64 p 1 ∧ ibits .and .i64 p 1 ≤ 1 := by
  simp only [ibits, BitVec.toNat_and]
  have h : (BitVec.ofInt IntKind.i64.bits p).toNat &&& (BitVec.ofInt IntKind.i64.bits 1).toNat ≤ 1 := Nat.and_le_right
  generalize (BitVec.ofInt IntKind.i64.bits p).toNat &&& (BitVec.ofInt IntKind.i64.bits 1).toNat = m at h
  rw [wi64 (by omega) (by omega)]
  omega
theorem model_Point_ok {n m : Nat} {q0 : Nat → Rat} {q : Nat → Nat → Rat} {t : Nat → Rat} {j l : Nat} (hn : n ≤ 16) (hm : m ≤ 16) (h0 : ∀ i < n, big (q0 i) j) (h : ∀ k < m, ∀ i < n, big (q k i) j) (ht : ∀ k < m, big (t k) l) (hj : j + (j + l + 1) * m ≤ 250) (hl : l ≤ 250) (h1 : ∀ k < m, qabs (t k) ≤ 1) :
    S.model_Point ((Rx n q0, Vx m (fun k => Rx n (q k)), ()), Rx m t, ()) = some (Rx n (pnt q0 q t m), 0, ()) := by
  have e0 : S.model_Point ((Rx n q0, Vx m (fun k => Rx n (q k)), ()), Rx m t, ()) = model_Point_l0 100 100 (Rx m t) (Rx n q0) (Vx m (fun k => Rx n (q k))) (m : Int) 0 := by
    simp only [S.model_Point, L.model_Point, model_Point_b, Vx_len, List.length_replicate, decide_true, Bool.not_true, cond_false]
    rw [ct (by omega), ct (by omega), List.drop_eq_nil_of_le (by rw [List.length_replicate]; exact Nat.le_refl _), List.append_nil, List.take_of_length_le (by rw [Vx_len]; exact Nat.le_refl _)]
  rw [e0]
  have hmul : ∀ k ≤ m, j + (j + l + 1) * k ≤ 250 := fun k hk => Nat.le_trans (Nat.add_le_add_left (Nat.mul_le_mul_left _ hk) _) hj
  refine loop_up m (fun k => Rx n (pnt q0 q t k)) (fun k s i => model_Point_l0 100 k (Rx m t) s (Vx m (fun k => Rx n (q k))) (m : Int) i) _ (fun k i hi => ?_) (fun k => ?_) 100 (by omega)
  · simp only [model_Point_l0, model_Point_s0, Vx_len]
    rw [ct (by omega), ct (by omega), ct (by omega), ct (by omega), ct (by omega), Int.toNat_natCast, Vx_get hi, Vx_get hi]
    have a1 := ratio_Abs_R (ht i hi) (by omega)
    have c1 := ratio_Compare_R (big_qabs (ht i hi)) (show big 1 1 by unfold big; decide +kernel) (by omega)
    rw [show S.ratio_Abs _ = _ from a1, Option.bind_some, ratio_one, Option.bind_some, show S.ratio_Compare _ = _ from c1, Option.bind_some]
    simp only [decide_true, Bool.not_true, cond_false]
    have hmi := hmul (i + 1) (by omega)
    rw [Nat.mul_add, Nat.mul_one] at hmi
    have s1 := vec_Scale_R hn (h i hi) (ht i hi) (by omega)
    rw [cf (show ¬ 0 < sgq (qabs (t i)) 1 by have := sgq_le (h1 i hi); omega), ct (by omega), ct (by omega), show S.vec_Scale _ = _ from s1, Option.bind_some]
    simp only [decide_true, Bool.not_true, cond_false]
    have s2 := vec_Add_R hn (pnt_big h0 h ht i (by omega)) (fun p hp => big_mul (h i hi p hp) (ht i hi)) (by omega)
    rw [show S.vec_Add _ = _ from s2, Option.bind_some]
    simp only [decide_true, Bool.not_true, cond_false]
    rw [wi1 (by omega)]
    rfl
  · simp only [model_Point_l0, model_Point_s0]
    rw [cf (by omega)]
/-- w16_corner: one round of loop 0. -/
def w16_corner_s0 (κ0 : Int → (List RT) → (List (List RT)) → (List RT) → Int → Int → Option ((List RT) × Unit)) (which : Int) (z_0 : List RT) (z_1 : List (List RT)) (by_ : List RT) (t11 : Int) (t12 : Int) : Option ((List RT) × Unit) :=
  cond (decide (t12 < t11))
    (
      cond (decide (0 ≤ t12))
        (
          (S.ratio_Of ((IntKind.i64.wrap ((IntKind.i64.wrap ((ibits .and .i64 (which.fdiv (2 ^ (min t12.toNat 64))) 1) * 2)) - 1)), 1, ())).bind fun z5 =>
          cond (decide ((by_.length + ([((z5.1.1.1, z5.1.1.2.1, ()), z5.1.2.1, ())]).length) * 56 ≤ 140737488351232))
            (
              κ0 which z_0 z_1 (by_ ++ ([((z5.1.1.1, z5.1.1.2.1, ()), z5.1.2.1, ())])) t11 (IntKind.i64.wrap (t12 + 1))) none) none)
    (
      (S.model_Point ((z_0, z_1, ()), by_, ())).bind fun z8 =>
      some (z8.1, ()))

def w16_corner_l0 (K : Nat) : Nat → Int → (List RT) → (List (List RT)) → (List RT) → Int → Int → Option ((List RT) × Unit)
  | 0, _, _, _, _, _, _ => none
  | n + 1, which, z_0, z_1, by_, t11, t12 => w16_corner_s0 (w16_corner_l0 K n) which z_0 z_1 by_ t11 t12

/-- girdlelaw16.corner -/
def w16_corner_b (I0 : Int → (List RT) → (List (List RT)) → (List RT) → Int → Int → Option ((List RT) × Unit)) (z : ZR) (which : Int) : Option ((List RT) × Unit) :=
  I0 which z.1 z.2.1 [] (z.2.1.length : Int) 0

def w16_corner (K : Nat) (z : ZR) (which : Int) : Option ((List RT) × Unit) := w16_corner_b (w16_corner_l0 K K) z which

def S.w16_corner (x : ZR × Int × Unit) : Option (List RT × Unit) := L.w16_corner 100 x.1 x.2.1
/-- 1 or -1, as a bit tells. -/
def cw (w : Int) (k : Nat) : Rat := Rat.divInt (ibits .and .i64 (w.fdiv (2 ^ (min k 64))) 1 * 2 - 1) 1
theorem cw_abs (w : Int) (k : Nat) : qabs (cw w k) ≤ 1 ∧ big (cw w k) 1 := by
  have h := bit01 (w.fdiv (2 ^ (min k 64)))
  unfold cw
  rcases (show ibits .and .i64 (w.fdiv (2 ^ (min k 64))) 1 = 0 ∨ ibits .and .i64 (w.fdiv (2 ^ (min k 64))) 1 = 1 by omega) with e | e <;> rw [e] <;> exact ⟨by decide +kernel, by unfold big; decide +kernel⟩
theorem w16_corner_R {n m : Nat} {q0 : Nat → Rat} {q : Nat → Nat → Rat} {w : Int} (hn : n ≤ 16) (hm : m ≤ 16) (h0 : big1 n q0) (h : ∀ k < m, big1 n (q k)) : S.w16_corner ((Rx n q0, Vx m (fun k => Rx n (q k)), ()), w, ()) = some (Rx n (pnt q0 q (cw w) m), ()) := by
  simp only [S.w16_corner, L.w16_corner, w16_corner_b, Vx_len]
  have hp := model_Point_ok hn hm h0 h (fun k _ => (cw_abs w k).2) (by omega) (by decide) (fun k _ => (cw_abs w k).1)
  generalize Vx m (fun k => Rx n (q k)) = G at hp ⊢
  refine loop_up m (fun i => Rx i (cw w)) (fun k s i => w16_corner_l0 100 k w (Rx n q0) G s (m : Int) i) _ (fun k i hi => ?_) (fun k => ?_) 100 (by omega)
  · simp only [w16_corner_l0, w16_corner_s0, Vx_len]
    have hb := bit01 (w.fdiv (2 ^ (min i 64)))
    have o1 : S.ratio_Of (IntKind.i64.wrap (IntKind.i64.wrap (ibits .and .i64 (w.fdiv (2 ^ (min i 64))) 1 * 2) - 1), 1, ()) = some (R (cw w i), ()) := by
      rw [wi64 (by rw [wi64 (by omega) (by omega)]; omega) (by rw [wi64 (by omega) (by omega)]; omega), wi64 (by omega) (by omega)]
      exact ratio_Of_R (by omega) (by omega) (by decide) (by decide) (by decide)
    rw [ct (by omega), ct (by omega), Int.toNat_natCast, show S.ratio_Of _ = _ from o1, Option.bind_some]
    simp only [List.length_singleton]
    rw [ct (by omega), wi1 (by omega)]
    exact congrArg (fun s => w16_corner_l0 100 k w (Rx n q0) G s (m : Int) ((i + 1 : Nat) : Int)) (Vx_succ i (fun k => R (cw w k)))
  · simp only [w16_corner_l0, w16_corner_s0]
    rw [cf (by omega), show S.model_Point _ = _ from hp, Option.bind_some]
/-- girdlelaw16.within -/
def w16_within (z : ZN) (p : List RT) (dir : List RT) (bits : Int) : Option (Bool × Unit) :=
  (S.vec_Near (dir, bits, ())).bind fun z1 =>
  (S.zono_Support ((z.1, z.2.1, z.2.2.1, ()), z1.1, bits, ())).bind fun z2 =>
  (S.vec_Dot (p, dir, ())).bind fun z3 =>
  (S.dyad_Cmp (((z2.1.1.1, z2.1.1.2.1, ()), z2.1.2.1, ()), ((z3.1.1.1, z3.1.1.2.1, ()), z3.1.2.1, ()), ())).bind fun z4 =>
  cond (decide (z1.2.1 = 0))
    (
      cond (decide (z2.2.1 = 0))
        (
          cond (decide (z3.2.1 = 0))
            (
              cond (decide (z4.2.1 = 0)) (some (decide (0 ≤ z4.1), ())) (some (false, ()))) (some (false, ()))) (some (false, ()))) (some (false, ()))

def S.w16_within (x : ZN × List RT × List RT × Int × Unit) : Option (Bool × Unit) := L.w16_within x.1 x.2.1 x.2.2.1 x.2.2.2.1
theorem big_sum {f : Nat → Rat} {n k : Nat} (h : ∀ i < n, big (f i) k) : ∀ i ≤ n, big (sumQ f i) (1 + (k + 1) * i)
  | 0, _ => by
    rw [Nat.mul_zero]
    show big 0 1
    unfold big; decide +kernel
  | i + 1, hi => by
    have h1 := big_add (big_sum h i (by omega)) (h i (by omega))
    exact h1.mono (by rw [Nat.mul_add, Nat.mul_one]; omega)
theorem w16_within_true {n m : Nat} {c r : Nat → Int} {g : Nat → Nat → Int} {p q : Nat → Rat} {e : Int} {b : Nat} (hn : n ≤ 4) (hm : m ≤ 6) (hb : 8 ≤ b) (hb' : b ≤ 100) (hc : nb n c 100) (hr : nb n r 100) (hr0 : ∀ i < n, 0 ≤ r i) (hg : ∀ k < m, nb n (g k) 100) (h0 : -2000 ≤ e) (h1 : e ≤ 0) (hp : ∀ i < n, big (p i) 80) (hq : big1 n q)
    (hM : Mem n m (fun i => dv (c i) e) (fun i => dv (r i) e) (fun k i => dv (g k i) e) p) :
    S.w16_within ((Dx n c e, Vx m (fun k => Dx n (g k) e), Dx n r e, ()), Rx n p, Rx n q, (b : Int), ()) = some (true, ()) := by
  have nd := nrs_in (b := b) (B := 300) hq (by omega)
  have D0 := nrs_small (b := b) (B := 300) hq (by decide) (by omega) (by omega) (by decide)
  have v1 := vec_Near_nr (b := b) (B := 300) (show n ≤ 16 by omega) hq (by decide) (by omega) (by omega) (by omega)
  have v2 := zono_Support_Dx (e := e) (e' := -((300 : Nat) : Int)) (b := b) (show n ≤ 16 by omega) (show m ≤ 16 by omega) hc hr hg D0 (by decide) (by omega) (by omega) (by decide) (by decide) (by omega) (by omega)
  have hs := big_sum (f := fun i => p i * q i) (n := n) (k := 81) (fun i hi => big_mul (hp i hi) (hq i hi))
  have v3 := vec_Dot_R (k := 329) (show n ≤ 16 by omega) hp hq (fun i hi => (hs i (by omega)).mono (by omega)) (by decide)
  have bx := zsup_abs (b := b) hc hr hg D0
  have v4 := dyad_Cmp_Yn (x := zsup c r g (nrs q b 300) b n m) (q := sumQ (fun i => p i * q i) n) (e := e + -((300 : Nat) : Int)) (k := 146) (i := 146) (j := 329) (nA_up bx (by omega)) (by decide) (by decide) (by omega) (by omega) (by omega) ((hs n (Nat.le_refl _)).mono (by omega)) (by decide)
  have ge := zsup_ge (b := b) (c := c) (g := g) (m := m) (e := e) hr0 nd
  have mq := Mem_Tq (q := q) hM
  simp only [S.w16_within, L.w16_within]
  rw [show S.vec_Near _ = _ from v1, Option.bind_some, show S.zono_Support _ = _ from v2, Option.bind_some, v3, Option.bind_some, show S.dyad_Cmp _ = _ from v4, Option.bind_some]
  simp only [decide_true, cond_true]
  rw [decide_eq_true (sgq_ge (Rat.le_trans mq ge))]
end Go.L

/-! DE -/
namespace Go.L
open Go.PM
set_option exponentiation.threshold 20000
set_option linter.unusedVariables false
set_option linter.unusedSimpArgs false

/-- What is kept of a set of small ratios. -/
abbrev oc (q0 : Nat → Rat) (b : Nat) : Nat → Int := md (nrs q0 b 300) b
abbrev og (q : Nat → Nat → Rat) (b : Nat) (k : Nat) : Nat → Int := md (nrs (q k) b 300) b
abbrev orr (q0 : Nat → Rat) (q : Nat → Nat → Rat) (b m : Nat) : Nat → Int := zr q0 q b 300 m
abbrev oe : Int := -((300 : Nat) : Int) - 1
theorem of_bounds {n m : Nat} {q0 : Nat → Rat} {q : Nat → Nat → Rat} {b : Nat} (hm : m ≤ 6) (hb : 8 ≤ b) (hb' : b ≤ 100) (h0 : big1 n q0) (h : ∀ k < m, big1 n (q k)) : nb n (oc q0 b) 33 ∧ (∀ k < m, nb n (og q b k) 33) ∧ nb n (orr q0 q b m) 33 := by
  have B0 := nrs_small (b := b) (B := 300) h0 (by decide) (by omega) (by omega) (by decide)
  have Bk : ∀ k < m, bb n (nrs (q k) b 300) 17 := fun k hk => nrs_small (b := b) (B := 300) (h k hk) (by decide) (by omega) (by omega) (by decide)
  exact ⟨fun j hj => nA_up (md_abs B0 j hj) (by decide), fun k hk j hj => nA_up (md_abs (Bk k hk) j hj) (by decide), fun j hj => nA_up (zr_abs (b := b) B0 Bk m (Nat.le_refl _) j hj) (by omega)⟩
theorem nb_up {n : Nat} {d : Nat → Int} {j k : Nat} (h : nb n d j) (hjk : j ≤ k) : nb n d k := fun i hi => nA_up (h i hi) hjk
theorem of_set {n m : Nat} {q0 : Nat → Rat} {q : Nat → Nat → Rat} {b : Nat} (hn : n ≤ 4) (hm : m ≤ 6) (hb : 8 ≤ b) (hb' : b ≤ 100) (h0 : big1 n q0) (h : ∀ k < m, big1 n (q k)) :
    S.zono_Of ((Rx n q0, Vx m (fun k => Rx n (q k)), ()), (b : Int), ()) = some ((Dx n (oc q0 b) oe, Vx m (fun k => Dx n (og q b k) oe), Dx n (orr q0 q b m) oe, ()), 0, ()) :=
  zono_Of_R (b := b) (B := 300) (show n ≤ 16 by omega) (show m ≤ 16 by omega) h0 h (by decide) (by omega) (by omega) (by omega) (by decide)
theorem of_corner {n m : Nat} {q0 : Nat → Rat} {q : Nat → Nat → Rat} {b : Nat} {w : Int} (hb' : b ≤ 100) (h0 : big1 n q0) (h : ∀ k < m, big1 n (q k)) : Mem n m (fun i => dv (oc q0 b i) oe) (fun i => dv (orr q0 q b m i) oe) (fun k i => dv (og q b k i) oe) (pnt q0 q (cw w) m) :=
  Of_mem (b := b) (B := 300) h0 h (by omega) (fun k _ => (cw_abs w k).1)
theorem two_pow32 {m : Nat} (hm : m ≤ 6) : IntKind.i64.wrap (1 * 2 ^ min m 64) = ((2 ^ m : Nat) : Int) ∧ 2 ^ m ≤ 64 := by
  have h64 := two_le64 hm
  refine ⟨?_, h64⟩
  rw [show min m 64 = m by omega, Int.one_mul, pow_cast]
  generalize 2 ^ m = k at h64 ⊢
  rw [wi64 (by omega) (by omega)]
end Go.L

/-! DF -/
namespace Go.L
open Go.PM
set_option linter.unusedVariables false
set_option linter.unusedSimpArgs false

theorem cond_yes {α : Type} {c : Bool} {x : Option α} {y : α} (h : cond c x none = some y) : x = some y := by
  cases c
  · cases h
  · exact h
theorem zono_wider_w_row (K : Nat) : ∀ (n : Nat) (a : List DY) (off len : Nat) (b : List DY) (bits : Int) (out : List DY) (p q : Int) (y : List DY × List DY × Int × Unit), zono_wider_w_l0 K n a off len b bits out p q = some y → y.1 = a := by
  intro n
  induction n with
  | zero => intro a off len b bits out p q y h; cases h
  | succ n ih =>
    intro a off len b bits out p q y h
    simp only [zono_wider_w_l0, zono_wider_w_s0] at h
    cases h1 : decide (q < p) with
    | false => rw [h1] at h; cases h; rfl
    | true =>
      rw [h1] at h
      have h := cond_yes (cond_yes (cond_yes (cond_yes h)))
      obtain ⟨z4, _, h⟩ := Option.bind_eq_some_iff.1 h
      obtain ⟨z5, _, h⟩ := Option.bind_eq_some_iff.1 h
      obtain ⟨z6, _, h⟩ := Option.bind_eq_some_iff.1 h
      cases h2 : !decide (z6.2.1 = 0) with
      | true => rw [h2] at h; cases h; rfl
      | false =>
        rw [h2] at h
        exact ih _ _ _ _ _ _ _ _ _ (cond_yes (cond_yes h))
theorem zono_wider_w_len (x : List DY × Int × Int × List DY × Int × Unit) (y : List DY × List DY × Int × Unit) (h : S.zono_wider_w x = some y) : y.1.length = x.1.length := by
  simp only [S.zono_wider_w, L.zono_wider_w, zono_wider_w_b] at h
  rw [zono_wider_w_row _ _ _ _ _ _ _ _ _ _ _ (cond_yes (cond_yes h))]
end Go.L
