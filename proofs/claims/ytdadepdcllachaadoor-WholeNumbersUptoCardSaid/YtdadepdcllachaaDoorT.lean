/-
  states of a set of ratios. numbers in texts: a ratio's text is one token. numbers in texts: the law.
  No condition beyond those that each theorem names.
-/
import Derived.Test.YtdadepdcllachaaDoorS

/-! CA -/
namespace Go.L
open Go.PM
set_option exponentiation.threshold 20000
set_option linter.unusedVariables false
set_option linter.unusedSimpArgs false

/-- vec.Scale$1 -/
def vec_Scale_1 (x : (Bool × (List Int) × Unit) × (List Int) × Unit) (__ : (Bool × (List Int) × Unit) × (List Int) × Unit) (t2 : (Bool × (List Int) × Unit) × (List Int) × Unit) : Option (((Bool × (List Int) × Unit) × (List Int) × Unit) × Int × Unit) :=
  (S.ratio_Mul (((x.1.1, x.1.2.1, ()), x.2.1, ()), ((t2.1.1, t2.1.2.1, ()), t2.2.1, ()), ())).bind fun z1 =>
  some (((z1.1.1.1, z1.1.1.2.1, ()), z1.1.2.1, ()), z1.2.1, ())

def S.vec_Scale_1 (x : RT × RT × RT × Unit) : Option (RT × Int × Unit) := L.vec_Scale_1 x.1 x.2.1 x.2.2.1
/-- vec.Scale -/
def vec_Scale (a : List ((Bool × (List Int) × Unit) × (List Int) × Unit)) (by_ : (Bool × (List Int) × Unit) × (List Int) × Unit) : Option ((List ((Bool × (List Int) × Unit) × (List Int) × Unit)) × Int × Unit) :=
  (S.vec_each (a, a, (fun z => S.vec_Scale_1 (z.1, z.2.1, ((by_.1.1, by_.1.2.1, ()), by_.2.1, ()), ())), ())).bind fun z1 =>
  some (z1.1, z1.2.1, ())

def S.vec_Scale (x : List RT × RT × Unit) : Option (List RT × Int × Unit) := L.vec_Scale x.1 x.2.1
theorem vec_Scale_R {n : Nat} {f : Nat → Rat} {t : Rat} {j k : Nat} (hn : n ≤ 16) (hf : ∀ i < n, big (f i) j) (ht : big t k) (h : j + k ≤ 512) : S.vec_Scale (Rx n f, R t, ()) = some (Rx n (fun i => f i * t), 0, ()) := by
  have e0 : ∀ (a : List RT) (b : RT), S.vec_Scale (a, b, ()) = (S.vec_each (a, a, (fun z => S.vec_Scale_1 (z.1, z.2.1, b, ())), ())).bind fun z1 => some z1 := fun _ _ => rfl
  have e1 : ∀ x y b : RT, S.vec_Scale_1 (x, y, b, ()) = (S.ratio_Mul (x, b, ())).bind fun z1 => some z1 := fun _ _ _ => rfl
  rw [e0, vec_each_R (h := fun i => f i * t) hn (fun i hi => by
    show S.vec_Scale_1 (R (f i), R (f i), R t, ()) = _
    rw [e1, ratio_Mul_R (hf i hi) ht h, Option.bind_some]), Option.bind_some]
/-- vec.Add -/
def vec_Add (a : List ((Bool × (List Int) × Unit) × (List Int) × Unit)) (b : List ((Bool × (List Int) × Unit) × (List Int) × Unit)) : Option ((List ((Bool × (List Int) × Unit) × (List Int) × Unit)) × Int × Unit) :=
  (S.vec_each (a, b, S.ratio_Add, ())).bind fun z1 =>
  some (z1.1, z1.2.1, ())

def S.vec_Add (x : List RT × List RT × Unit) : Option (List RT × Int × Unit) := L.vec_Add x.1 x.2.1
theorem vec_Add_R {n : Nat} {f g : Nat → Rat} {j k : Nat} (hn : n ≤ 16) (hf : ∀ i < n, big (f i) j) (hg : ∀ i < n, big (g i) k) (h : j + k + 1 ≤ 512) : S.vec_Add (Rx n f, Rx n g, ()) = some (Rx n (fun i => f i + g i), 0, ()) := by
  have e0 : ∀ a b : List RT, S.vec_Add (a, b, ()) = (S.vec_each (a, b, S.ratio_Add, ())).bind fun z1 => some z1 := fun _ _ => rfl
  rw [e0, vec_each_R (h := fun i => f i + g i) hn (fun i hi => ratio_Add_R (hf i hi) (hg i hi) h), Option.bind_some]
/-- model_Point: one round of loop 0. -/
def model_Point_s0 (κ0 : (List ((Bool × (List Int) × Unit) × (List Int) × Unit)) → (List ((Bool × (List Int) × Unit) × (List Int) × Unit)) → (List (List ((Bool × (List Int) × Unit) × (List Int) × Unit))) → Int → Int → Option ((List ((Bool × (List Int) × Unit) × (List Int) × Unit)) × Int × Unit)) (by_ : List ((Bool × (List Int) × Unit) × (List Int) × Unit)) (out : List ((Bool × (List Int) × Unit) × (List Int) × Unit)) (t28 : List (List ((Bool × (List Int) × Unit) × (List Int) × Unit))) (t29 : Int) (t30 : Int) : Option ((List ((Bool × (List Int) × Unit) × (List Int) × Unit)) × Int × Unit) :=
  cond (decide (t30 < t29))
    (
      cond (decide (0 ≤ t30))
        (
          cond (decide (t30 < (t28.length : Int)))
            (
              cond (decide (0 ≤ t30))
                (
                  cond (decide (t30 < (by_.length : Int)))
                    (
                      let z3 := by_.getD t30.toNat ((false, ([], ())), ([], ()))
                      (S.ratio_Abs (((z3.1.1, z3.1.2.1, ()), z3.2.1, ()), ())).bind fun z4 =>
                      (S.ratio_Of (1, 1, ())).bind fun z5 =>
                      (S.ratio_Compare (((z4.1.1.1, z4.1.1.2.1, ()), z4.1.2.1, ()), ((z5.1.1.1, z5.1.1.2.1, ()), z5.1.2.1, ()), ())).bind fun z6 =>
                      cond (!(decide (z6.2.1 = 0))) (some ([], 1, ()))
                        (
                          cond (decide (0 < z6.1)) (some ([], 1, ()))
                            (
                              cond (decide (0 ≤ t30))
                                (
                                  cond (decide (t30 < (by_.length : Int)))
                                    (
                                      let z7 := by_.getD t30.toNat ((false, ([], ())), ([], ()))
                                      (S.vec_Scale ((t28.getD t30.toNat []), ((z7.1.1, z7.1.2.1, ()), z7.2.1, ()), ())).bind fun z8 =>
                                      cond (!(decide (z8.2.1 = 0))) (some ([], z8.2.1, ()))
                                        (
                                          (S.vec_Add (out, z8.1, ())).bind fun z9 =>
                                          cond (!(decide (z9.2.1 = 0))) (some ([], z9.2.1, ())) (κ0 by_ z9.1 t28 t29 (IntKind.i64.wrap (t30 + 1))))) none) none))) none) none) none) none) (some (out, 0, ()))

def model_Point_l0 (K : Nat) : Nat → (List ((Bool × (List Int) × Unit) × (List Int) × Unit)) → (List ((Bool × (List Int) × Unit) × (List Int) × Unit)) → (List (List ((Bool × (List Int) × Unit) × (List Int) × Unit))) → Int → Int → Option ((List ((Bool × (List Int) × Unit) × (List Int) × Unit)) × Int × Unit)
  | 0, _, _, _, _, _ => none
  | n + 1, by_, out, t28, t29, t30 => model_Point_s0 (model_Point_l0 K n) by_ out t28 t29 t30

/-- model.Point -/
def model_Point_b (I0 : (List ((Bool × (List Int) × Unit) × (List Int) × Unit)) → (List ((Bool × (List Int) × Unit) × (List Int) × Unit)) → (List (List ((Bool × (List Int) × Unit) × (List Int) × Unit))) → Int → Int → Option ((List ((Bool × (List Int) × Unit) × (List Int) × Unit)) × Int × Unit)) (z : (List ((Bool × (List Int) × Unit) × (List Int) × Unit)) × (List (List ((Bool × (List Int) × Unit) × (List Int) × Unit))) × Unit) (by_ : List ((Bool × (List Int) × Unit) × (List Int) × Unit)) : Option ((List ((Bool × (List Int) × Unit) × (List Int) × Unit)) × Int × Unit) :=
  cond (!(decide ((by_.length : Int) = (z.2.1.length : Int)))) (some ([], 20, ()))
    (
      cond (decide (0 ≤ (z.1.length : Int)))
        (
          cond (decide ((z.1.length : Int) * 56 ≤ 140737488351232))
            (
              let z1 := (List.replicate z.1.length ((false, ([], ())), ([], ())) : List ((Bool × (List Int) × Unit) × (List Int) × Unit))
              I0 by_ (z.1.take z1.length ++ z1.drop z.1.length) z.2.1 (z.2.1.length : Int) 0) none) none)

def model_Point (K : Nat) (z : (List ((Bool × (List Int) × Unit) × (List Int) × Unit)) × (List (List ((Bool × (List Int) × Unit) × (List Int) × Unit))) × Unit) (by_ : List ((Bool × (List Int) × Unit) × (List Int) × Unit)) : Option ((List ((Bool × (List Int) × Unit) × (List Int) × Unit)) × Int × Unit) := model_Point_b (model_Point_l0 K K) z by_

def S.model_Point (x : ZR × List RT × Unit) : Option (List RT × Int × Unit) := L.model_Point 100 x.1 x.2.1
/-- A set's state: its middle, and each way times a number. -/
def pnt (q0 : Nat → Rat) (q : Nat → Nat → Rat) (t : Nat → Rat) : Nat → Nat → Rat
  | 0 => q0
  | k + 1 => fun i => pnt q0 q t k i + q k i * t k
theorem pnt_big {n m : Nat} {q0 : Nat → Rat} {q : Nat → Nat → Rat} {t : Nat → Rat} {j l : Nat} (h0 : ∀ i < n, big (q0 i) j) (h : ∀ k < m, ∀ i < n, big (q k i) j) (ht : ∀ k < m, big (t k) l) : ∀ k ≤ m, ∀ i < n, big (pnt q0 q t k i) (j + (j + l + 1) * k)
  | 0, _, i, hi => h0 i hi
  | k + 1, hk, i, hi => by
    have h1 := pnt_big h0 h ht k (by omega) i hi
    have h2 := big_add h1 (big_mul (h k (by omega) i hi) (ht k (by omega)))
    exact h2.mono (by rw [Nat.mul_add, Nat.mul_one]; omega)
theorem ratio_one : S.ratio_Of (1, 1, ()) = some (R 1, ()) := by rw [ratio_Of_R (by decide) (by decide) (by decide) (by decide) (by decide)]; rfl
theorem model_Point_R {n m : Nat} {q0 : Nat → Rat} {q : Nat → Nat → Rat} {t : Nat → Rat} {j l : Nat} (hn : n ≤ 16) (hm : m ≤ 16) (h0 : ∀ i < n, big (q0 i) j) (h : ∀ k < m, ∀ i < n, big (q k i) j) (ht : ∀ k < m, big (t k) l) (hj : j + (j + l + 1) * m ≤ 250) (hl : l ≤ 250) :
    S.model_Point ((Rx n q0, Vx m (fun k => Rx n (q k)), ()), Rx m t, ()) = some ([], 1, ()) ∨ (S.model_Point ((Rx n q0, Vx m (fun k => Rx n (q k)), ()), Rx m t, ()) = some (Rx n (pnt q0 q t m), 0, ()) ∧ ∀ k < m, qabs (t k) ≤ 1) := by
  have e0 : S.model_Point ((Rx n q0, Vx m (fun k => Rx n (q k)), ()), Rx m t, ()) = model_Point_l0 100 100 (Rx m t) (Rx n q0) (Vx m (fun k => Rx n (q k))) (m : Int) 0 := by
    simp only [S.model_Point, L.model_Point, model_Point_b, Vx_len, List.length_replicate, decide_true, Bool.not_true, cond_false]
    rw [ct (by omega), ct (by omega), List.drop_eq_nil_of_le (by rw [List.length_replicate]; exact Nat.le_refl _), List.append_nil, List.take_of_length_le (by rw [Vx_len]; exact Nat.le_refl _)]
  rw [e0]
  have hmul : ∀ k ≤ m, j + (j + l + 1) * k ≤ 250 := fun k hk => Nat.le_trans (Nat.add_le_add_left (Nat.mul_le_mul_left _ hk) _) hj
  rcases loop_or m (fun k => Rx n (pnt q0 q t k)) (fun k s i => model_Point_l0 100 k (Rx m t) s (Vx m (fun k => Rx n (q k))) (m : Int) i) (fun r => r = some ([], 1, ())) (fun k => qabs (t k) ≤ 1) (fun k i hk hi => by
      simp only [model_Point_l0, model_Point_s0, Vx_len]
      rw [ct (by omega), ct (by omega), ct (by omega), ct (by omega), ct (by omega), Int.toNat_natCast, Vx_get hi, Vx_get hi]
      have a1 := ratio_Abs_R (ht i hi) (by omega)
      have c1 := ratio_Compare_R (big_qabs (ht i hi)) (show big 1 1 by unfold big; decide +kernel) (by omega)
      rw [show S.ratio_Abs _ = _ from a1, Option.bind_some, ratio_one, Option.bind_some, show S.ratio_Compare _ = _ from c1, Option.bind_some]
      simp only [decide_true, Bool.not_true, cond_false]
      by_cases h1 : 0 < sgq (qabs (t i)) 1
      · right; rw [ct h1]
      left
      rw [cf h1]
      have hle : qabs (t i) ≤ 1 := by
        unfold sgq at h1
        split at h1
        · exact Rat.le_of_lt (by assumption)
        · split at h1
          · exact absurd (by decide) h1
          · exact Rat.not_lt.1 (by assumption)
      have hmi := hmul (i + 1) (by omega)
      rw [Nat.mul_add, Nat.mul_one] at hmi
      have s1 := vec_Scale_R hn (h i hi) (ht i hi) (by omega)
      rw [ct (by omega), ct (by omega), show S.vec_Scale _ = _ from s1, Option.bind_some]
      simp only [decide_true, Bool.not_true, cond_false]
      have s2 := vec_Add_R hn (pnt_big h0 h ht i (by omega)) (fun p hp => big_mul (h i hi p hp) (ht i hi)) (by omega)
      rw [show S.vec_Add _ = _ from s2, Option.bind_some]
      simp only [decide_true, Bool.not_true, cond_false]
      rw [wi1 (by omega)]
      exact ⟨rfl, hle⟩) 100 (by omega) with hh | ⟨k, e2, hh⟩
  · exact .inl hh
  right
  refine ⟨?_, hh⟩
  have e3 : model_Point_l0 100 100 (Rx m t) (Rx n q0) (Vx m (fun k => Rx n (q k))) (m : Int) 0 = _ := e2
  rw [e3]
  simp only [model_Point_l0, model_Point_s0]
  rw [cf (by omega)]
end Go.L

/-! CB -/
namespace Go.L
open Go.PM
set_option exponentiation.threshold 20000
set_option linter.unusedVariables false
set_option linter.unusedSimpArgs false

/-- vec_Same: one round of loop 0. -/
def vec_Same_s0 (κ0 : (List ((Bool × (List Int) × Unit) × (List Int) × Unit)) → (List ((Bool × (List Int) × Unit) × (List Int) × Unit)) → Int → Int → Option (Bool × Unit)) (a : List ((Bool × (List Int) × Unit) × (List Int) × Unit)) (b : List ((Bool × (List Int) × Unit) × (List Int) × Unit)) (t16 : Int) (t17 : Int) : Option (Bool × Unit) :=
  cond (decide (t17 < t16))
    (
      cond (decide (0 ≤ t17))
        (
          cond (decide (t17 < (a.length : Int)))
            (
              let z1 := a.getD t17.toNat ((false, ([], ())), ([], ()))
              cond (decide (0 ≤ t17))
                (
                  cond (decide (t17 < (b.length : Int)))
                    (
                      let z2 := b.getD t17.toNat ((false, ([], ())), ([], ()))
                      (S.ratio_Compare (((z1.1.1, z1.1.2.1, ()), z1.2.1, ()), ((z2.1.1, z2.1.2.1, ()), z2.2.1, ()), ())).bind fun z3 =>
                      cond (decide (z3.2.1 = 0))
                        (
                          cond (!(decide (z3.1 = 0))) (some (false, ()))
                            (
                              cond (decide (0 ≤ t17))
                                (
                                  cond (decide (t17 < (a.length : Int)))
                                    (
                                      let z4 := a.getD t17.toNat ((false, ([], ())), ([], ()))
                                      cond (decide (0 ≤ t17))
                                        (
                                          cond (decide (t17 < (b.length : Int)))
                                            (
                                              let z5 := b.getD t17.toNat ((false, ([], ())), ([], ()))
                                              cond (!(decide (z3.2.1 = 0)))
                                                (
                                                  cond (!(z4.1.1 == z5.1.1)) (some (false, ()))
                                                    (
                                                      (S.slices_Equal_api_Nat_uint32 (z4.1.2.1, z5.1.2.1, ())).bind fun z6 =>
                                                      cond (!z6.1) (some (false, ()))
                                                        (
                                                          (S.slices_Equal_api_Nat_uint32 (z4.2.1, z5.2.1, ())).bind fun z7 =>
                                                          cond (!z7.1) (some (false, ())) (κ0 a b t16 (IntKind.i64.wrap (t17 + 1)))))) (κ0 a b t16 (IntKind.i64.wrap (t17 + 1)))) none) none) none) none))
                        (
                          cond (decide (0 ≤ t17))
                            (
                              cond (decide (t17 < (a.length : Int)))
                                (
                                  let z10 := a.getD t17.toNat ((false, ([], ())), ([], ()))
                                  cond (decide (0 ≤ t17))
                                    (
                                      cond (decide (t17 < (b.length : Int)))
                                        (
                                          let z11 := b.getD t17.toNat ((false, ([], ())), ([], ()))
                                          cond (!(decide (z3.2.1 = 0)))
                                            (
                                              cond (!(z10.1.1 == z11.1.1)) (some (false, ()))
                                                (
                                                  (S.slices_Equal_api_Nat_uint32 (z10.1.2.1, z11.1.2.1, ())).bind fun z12 =>
                                                  cond (!z12.1) (some (false, ()))
                                                    (
                                                      (S.slices_Equal_api_Nat_uint32 (z10.2.1, z11.2.1, ())).bind fun z13 =>
                                                      cond (!z13.1) (some (false, ())) (κ0 a b t16 (IntKind.i64.wrap (t17 + 1)))))) (κ0 a b t16 (IntKind.i64.wrap (t17 + 1)))) none) none) none) none)) none) none) none) none) (some (true, ()))

def vec_Same_l0 (K : Nat) : Nat → (List ((Bool × (List Int) × Unit) × (List Int) × Unit)) → (List ((Bool × (List Int) × Unit) × (List Int) × Unit)) → Int → Int → Option (Bool × Unit)
  | 0, _, _, _, _ => none
  | n + 1, a, b, t16, t17 => vec_Same_s0 (vec_Same_l0 K n) a b t16 t17

/-- vec.Same -/
def vec_Same_b (I0 : (List ((Bool × (List Int) × Unit) × (List Int) × Unit)) → (List ((Bool × (List Int) × Unit) × (List Int) × Unit)) → Int → Int → Option (Bool × Unit)) (a : List ((Bool × (List Int) × Unit) × (List Int) × Unit)) (b : List ((Bool × (List Int) × Unit) × (List Int) × Unit)) : Option (Bool × Unit) :=
  cond (!(decide ((a.length : Int) = (b.length : Int)))) (some (false, ())) (I0 a b (a.length : Int) 0)

def vec_Same (K : Nat) (a : List ((Bool × (List Int) × Unit) × (List Int) × Unit)) (b : List ((Bool × (List Int) × Unit) × (List Int) × Unit)) : Option (Bool × Unit) := vec_Same_b (vec_Same_l0 K K) a b

def S.vec_Same (x : List RT × List RT × Unit) : Option (Bool × Unit) := L.vec_Same 100 x.1 x.2.1
theorem vec_Same_one {q : Rat} {k : Nat} (hq : big q k) (hk : k ≤ 256) : S.vec_Same ([R q], [R q], ()) = some (true, ()) := by
  have hs : sgq q q = 0 := by unfold sgq; rw [if_neg Rat.lt_irrefl, if_neg Rat.lt_irrefl]
  have c1 := ratio_Compare_R hq hq (by omega)
  rw [hs] at c1
  simp only [S.vec_Same, L.vec_Same, vec_Same_b, List.length_singleton, decide_true, Bool.not_true, cond_false]
  have step : ∀ k, vec_Same_l0 100 (k + 1) [R q] [R q] ((1 : Nat) : Int) 0 = vec_Same_l0 100 k [R q] [R q] ((1 : Nat) : Int) 1 := by
    intro k
    simp only [vec_Same_l0, vec_Same_s0, List.length_singleton]
    rw [ct (by omega), ct (by omega), ct (by omega), ct (by omega), ct (by omega)]
    have g : ([R q] : List RT).getD (Int.toNat 0) ((false, ([], ())), ([], ())) = R q := rfl
    rw [g, show S.ratio_Compare _ = _ from c1, Option.bind_some]
    simp only [decide_true, Bool.not_true, cond_false, cond_true]
    rw [ct (by omega), ct (by omega), ct (by omega), ct (by omega)]
    rfl
  have fin : ∀ k, vec_Same_l0 100 (k + 1) [R q] [R q] ((1 : Nat) : Int) 1 = some (true, ()) := by
    intro k
    simp only [vec_Same_l0, vec_Same_s0]
    rw [cf (by omega)]
  exact (step 99).trans (fin 98)
/-- lex.digit -/
def lex_digit (b : Int) : Option (Bool × Unit) :=
  cond (decide (48 ≤ b)) (some (decide (b ≤ 57), ())) (some (false, ()))

def S.lex_digit (x : Int × Unit) : Option (Bool × Unit) := L.lex_digit x.1
/-- lex.letter -/
def lex_letter (b : Int) : Option (Bool × Unit) :=
  cond (decide (97 ≤ b))
    (
      cond (decide (b ≤ 122)) (some (true, ()))
        (
          cond (decide (65 ≤ b)) (some (decide (b ≤ 90), ())) (some (false, ()))))
    (
      cond (decide (65 ≤ b)) (some (decide (b ≤ 90), ())) (some (false, ())))

def S.lex_letter (x : Int × Unit) : Option (Bool × Unit) := L.lex_letter x.1
/-- lex.Scan$1 -/
def lex_Scan_1 (b : Int) : Option (Bool × Unit) :=
  some (!(decide (b = 10)), ())

def S.lex_Scan_1 (x : Int × Unit) : Option (Bool × Unit) := L.lex_Scan_1 x.1
/-- lex_run: one round of loop 0. -/
def lex_run_s0 (κ0 : ByteArray → Int → (((Int × Unit) → Option (Bool × Unit))) → Option (Int × Unit)) (s : ByteArray) (at_ : Int) (sort : ((Int × Unit) → Option (Bool × Unit))) : Option (Int × Unit) :=
  cond (decide (at_ < (s.size : Int)))
    (
      cond (decide (0 ≤ at_))
        (
          cond (decide (at_ < (s.size : Int)))
            (
              (sort ((bt s at_), ())).bind fun z2 =>
              cond (z2.1) (κ0 s (IntKind.i64.wrap (at_ + 1)) sort) (some (at_, ()))) none) none) (some (at_, ()))

def lex_run_l0 (K : Nat) : Nat → ByteArray → Int → (((Int × Unit) → Option (Bool × Unit))) → Option (Int × Unit)
  | 0, _, _, _ => none
  | n + 1, s, at_, sort => lex_run_s0 (lex_run_l0 K n) s at_ sort

/-- lex.run -/
def lex_run_b (I0 : ByteArray → Int → (((Int × Unit) → Option (Bool × Unit))) → Option (Int × Unit)) (s : ByteArray) (at_ : Int) (sort : ((Int × Unit) → Option (Bool × Unit))) : Option (Int × Unit) :=
  I0 s at_ sort

def lex_run (K : Nat) (s : ByteArray) (at_ : Int) (sort : ((Int × Unit) → Option (Bool × Unit))) : Option (Int × Unit) := lex_run_b (lex_run_l0 K K) s at_ sort

def S.lex_run (x : ByteArray × Int × (Int × Unit → Option (Bool × Unit)) × Unit) : Option (Int × Unit) := L.lex_run 20000 x.1 x.2.1 x.2.2.1
def isD (c : UInt8) : Prop := 48 ≤ c.toNat ∧ c.toNat ≤ 57
theorem digit_yes {c : UInt8} (h : isD c) : S.lex_digit ((c.toNat : Int), ()) = some (true, ()) := by
  obtain ⟨h1, h2⟩ := h
  simp only [S.lex_digit, L.lex_digit]
  rw [ct (by omega), decide_eq_true (by omega)]
theorem digit_no {c : UInt8} (h : ¬ isD c) : S.lex_digit ((c.toNat : Int), ()) = some (false, ()) := by
  unfold isD at h
  simp only [S.lex_digit, L.lex_digit]
  by_cases h1 : 48 ≤ (c.toNat : Int)
  · rw [ct h1, decide_eq_false (by omega)]
  · rw [cf h1]
theorem getD_mid8 (p : List UInt8) (c : UInt8) (r : List UInt8) : (p ++ c :: r).getD p.length 0 = c := by
  rw [List.getD_eq_getElem?_getD, List.getElem?_append_right (Nat.le_refl _), Nat.sub_self]; rfl
theorem run_loop (M : Nat) {r : List UInt8} (hr : r = [] ∨ ∃ c r', r = c :: r' ∧ ¬ isD c) : ∀ (d p : List UInt8) (K : Nat), (∀ c ∈ d, isD c) → (p ++ d ++ r).length < 1000000 → d.length < K → lex_run_l0 M K (mk (p ++ d ++ r)) (p.length : Int) S.lex_digit = some (((p.length + d.length : Nat) : Int), ()) := by
  intro d
  induction d with
  | nil =>
    intro p K hd hl hK
    obtain ⟨K, rfl⟩ := Nat.exists_eq_succ_of_ne_zero (by omega : K ≠ 0)
    rw [List.append_nil] at hl ⊢
    simp only [lex_run_l0, lex_run_s0]
    rcases hr with rfl | ⟨c, r', rfl, hc⟩
    · rw [List.append_nil]
      have hz := mk_size p
      rw [cf (by omega)]; rfl
    · have hz := mk_size (p ++ c :: r')
      rw [List.length_append, List.length_cons] at hz
      rw [ct (by omega), ct (by omega), ct (by omega), mk_bt, Int.toNat_natCast, getD_mid8, digit_no hc, Option.bind_some]; rfl
  | cons c d ih =>
    intro p K hd hl hK
    rw [List.length_cons] at hK
    obtain ⟨K, rfl⟩ := Nat.exists_eq_succ_of_ne_zero (by omega : K ≠ 0)
    have hc := hd c List.mem_cons_self
    have e : p ++ (c :: d) ++ r = (p ++ [c]) ++ d ++ r := by simp
    have hz := mk_size (p ++ (c :: d) ++ r)
    rw [List.length_append, List.length_append, List.length_cons] at hz
    have hb : bt (mk (p ++ (c :: d) ++ r)) (p.length : Int) = (c.toNat : Int) := by
      rw [mk_bt, Int.toNat_natCast, List.append_assoc, List.cons_append, getD_mid8]
    simp only [lex_run_l0, lex_run_s0]
    rw [ct (by omega), ct (by omega), ct (by omega), hb, digit_yes hc, Option.bind_some]
    simp only [cond_true]
    have := ih (p ++ [c]) K (fun x hx => hd x (List.mem_cons_of_mem _ hx)) (by rw [← e]; exact hl) (by omega)
    have hp : p.length < 1000000 := by rw [List.length_append, List.length_append] at hl; omega
    rw [wi1 hp, e]
    rw [List.length_append, List.length_singleton] at this
    rw [this, List.length_cons, show p.length + 1 + d.length = p.length + (d.length + 1) by omega]
theorem run_digits {p d r : List UInt8} (hd : ∀ c ∈ d, isD c) (hr : r = [] ∨ ∃ c r', r = c :: r' ∧ ¬ isD c) (hl : (p ++ d ++ r).length < 15000) : S.lex_run (mk (p ++ d ++ r), (p.length : Int), S.lex_digit, ()) = some (((p.length + d.length : Nat) : Int), ()) := by
  have h1 : d.length < 20000 := by rw [List.length_append, List.length_append] at hl; omega
  exact run_loop 20000 hr d p 20000 hd (by omega) h1
/-- lex.number -/
def lex_number (s : ByteArray) (at_ : Int) : Option (Int × Unit) :=
  cond (decide (at_ < (s.size : Int)))
    (
      cond (decide (0 ≤ at_))
        (
          cond (decide (at_ < (s.size : Int)))
            (
              cond (decide ((bt s at_) = 45))
                (
                  let z2 := IntKind.i64.wrap (at_ + 1)
                  (S.lex_run (s, z2, S.lex_digit, ())).bind fun z3 =>
                  cond (decide (z3.1 = z2)) (some ((-1 : Int), ()))
                    (
                      cond (decide (z3.1 < (s.size : Int)))
                        (
                          cond (decide (0 ≤ z3.1))
                            (
                              cond (decide (z3.1 < (s.size : Int)))
                                (
                                  cond (decide ((bt s z3.1) = 46))
                                    (
                                      (S.lex_run (s, (IntKind.i64.wrap (z3.1 + 1)), S.lex_digit, ())).bind fun z6 =>
                                      cond (decide (z6.1 = (IntKind.i64.wrap (z3.1 + 1)))) (some ((-1 : Int), ())) (some (z6.1, ())))
                                    (
                                      cond (decide (0 ≤ z3.1))
                                        (
                                          cond (decide (z3.1 < (s.size : Int)))
                                            (
                                              cond (decide ((bt s z3.1) = 47))
                                                (
                                                  (S.lex_run (s, (IntKind.i64.wrap (z3.1 + 1)), S.lex_digit, ())).bind fun z10 =>
                                                  cond (decide (z10.1 = (IntKind.i64.wrap (z3.1 + 1)))) (some ((-1 : Int), ())) (some (z10.1, ()))) (some (z3.1, ()))) none) none)) none) none) (some (z3.1, ()))))
                (
                  (S.lex_run (s, at_, S.lex_digit, ())).bind fun z12 =>
                  cond (decide (z12.1 = at_)) (some ((-1 : Int), ()))
                    (
                      cond (decide (z12.1 < (s.size : Int)))
                        (
                          cond (decide (0 ≤ z12.1))
                            (
                              cond (decide (z12.1 < (s.size : Int)))
                                (
                                  cond (decide ((bt s z12.1) = 46))
                                    (
                                      (S.lex_run (s, (IntKind.i64.wrap (z12.1 + 1)), S.lex_digit, ())).bind fun z15 =>
                                      cond (decide (z15.1 = (IntKind.i64.wrap (z12.1 + 1)))) (some ((-1 : Int), ())) (some (z15.1, ())))
                                    (
                                      cond (decide (0 ≤ z12.1))
                                        (
                                          cond (decide (z12.1 < (s.size : Int)))
                                            (
                                              cond (decide ((bt s z12.1) = 47))
                                                (
                                                  (S.lex_run (s, (IntKind.i64.wrap (z12.1 + 1)), S.lex_digit, ())).bind fun z19 =>
                                                  cond (decide (z19.1 = (IntKind.i64.wrap (z12.1 + 1)))) (some ((-1 : Int), ())) (some (z19.1, ()))) (some (z12.1, ()))) none) none)) none) none) (some (z12.1, ()))))) none) none)
    (
      (S.lex_run (s, at_, S.lex_digit, ())).bind fun z21 =>
      cond (decide (z21.1 = at_)) (some ((-1 : Int), ()))
        (
          cond (decide (z21.1 < (s.size : Int)))
            (
              cond (decide (0 ≤ z21.1))
                (
                  cond (decide (z21.1 < (s.size : Int)))
                    (
                      cond (decide ((bt s z21.1) = 46))
                        (
                          (S.lex_run (s, (IntKind.i64.wrap (z21.1 + 1)), S.lex_digit, ())).bind fun z24 =>
                          cond (decide (z24.1 = (IntKind.i64.wrap (z21.1 + 1)))) (some ((-1 : Int), ())) (some (z24.1, ())))
                        (
                          cond (decide (0 ≤ z21.1))
                            (
                              cond (decide (z21.1 < (s.size : Int)))
                                (
                                  cond (decide ((bt s z21.1) = 47))
                                    (
                                      (S.lex_run (s, (IntKind.i64.wrap (z21.1 + 1)), S.lex_digit, ())).bind fun z28 =>
                                      cond (decide (z28.1 = (IntKind.i64.wrap (z21.1 + 1)))) (some ((-1 : Int), ())) (some (z28.1, ()))) (some (z21.1, ()))) none) none)) none) none) (some (z21.1, ()))))

def S.lex_number (x : ByteArray × Int × Unit) : Option (Int × Unit) := L.lex_number x.1 x.2.1
theorem digits_isD (n : Nat) : ∀ c ∈ (decL n).map dbyte, isD c := fun c hc => dig_range hc
theorem digits_ne (n : Nat) : ∃ c r, (decL n).map dbyte = c :: r := by
  cases h : (decL n).map dbyte with
  | nil =>
    have h1 := (decL_props n).2.2.1
    have h2 := congrArg List.length h
    rw [List.length_map, List.length_nil] at h2
    omega
  | cons c r => exact ⟨c, r, rfl⟩
/-- A text of digits, and of digits behind a stroke. -/
theorem number_form {sg d tl : List UInt8} (hs : sg = [] ∨ sg = [45]) (hd : ∀ c ∈ d, isD c) (hd0 : d ≠ []) (ht : tl = [] ∨ ∃ es, tl = 47 :: es ∧ es ≠ [] ∧ ∀ c ∈ es, isD c) (hl : (sg ++ d ++ tl).length < 15000) :
    S.lex_number (mk (sg ++ d ++ tl), 0, ()) = some (((sg ++ d ++ tl).length : Int), ()) := by
  have hdl : 0 < d.length := List.length_pos_iff.2 hd0
  have htl : tl = [] ∨ ∃ c r', tl = c :: r' ∧ ¬ isD c := by
    rcases ht with h | ⟨es, h, _⟩
    · exact .inl h
    · exact .inr ⟨47, es, h, by unfold isD; decide⟩
  have run1 := run_digits (p := sg) hd htl hl
  have hsz : (sg ++ d ++ tl).length = sg.length + d.length + tl.length := by rw [List.length_append, List.length_append]
  have fin : ∀ (a : Int), a = (sg.length : Int) → ((S.lex_run (mk (sg ++ d ++ tl), a, S.lex_digit, ())).bind fun z3 =>
      cond (decide (z3.1 = a)) (some ((-1 : Int), ()))
        (cond (decide (z3.1 < ((mk (sg ++ d ++ tl)).size : Int)))
          (cond (decide (0 ≤ z3.1))
            (cond (decide (z3.1 < ((mk (sg ++ d ++ tl)).size : Int)))
              (cond (decide ((bt (mk (sg ++ d ++ tl)) z3.1) = 46))
                ((S.lex_run (mk (sg ++ d ++ tl), (IntKind.i64.wrap (z3.1 + 1)), S.lex_digit, ())).bind fun z6 =>
                  cond (decide (z6.1 = (IntKind.i64.wrap (z3.1 + 1)))) (some ((-1 : Int), ())) (some (z6.1, ())))
                (cond (decide (0 ≤ z3.1))
                  (cond (decide (z3.1 < ((mk (sg ++ d ++ tl)).size : Int)))
                    (cond (decide ((bt (mk (sg ++ d ++ tl)) z3.1) = 47))
                      ((S.lex_run (mk (sg ++ d ++ tl), (IntKind.i64.wrap (z3.1 + 1)), S.lex_digit, ())).bind fun z10 =>
                        cond (decide (z10.1 = (IntKind.i64.wrap (z3.1 + 1)))) (some ((-1 : Int), ())) (some (z10.1, ()))) (some (z3.1, ()))) none) none)) none) none) (some (z3.1, ())))) = some (((sg ++ d ++ tl).length : Int), ()) := by
    intro a ha
    subst ha
    have hz := mk_size (sg ++ d ++ tl)
    rw [run1, Option.bind_some, cf (by omega)]
    rcases ht with rfl | ⟨es, rfl, he0, hes⟩
    · rw [List.length_nil] at hsz
      rw [cf (by omega), hsz]; rfl
    · have hel : 0 < es.length := List.length_pos_iff.2 he0
      rw [List.length_cons] at hsz
      have hb : bt (mk (sg ++ d ++ 47 :: es)) ((sg.length + d.length : Nat) : Int) = 47 := by
        rw [mk_bt, Int.toNat_natCast, show sg.length + d.length = (sg ++ d).length by rw [List.length_append], getD_mid8]; rfl
      rw [ct (by omega), ct (by omega), ct (by omega), hb, cf (by decide), ct (by omega), ct (by omega), ct (by decide), wi1 (by omega)]
      have e2 : sg ++ d ++ 47 :: es = (sg ++ d ++ [47]) ++ es ++ [] := by simp
      have run2 := run_digits (p := sg ++ d ++ [47]) hes (.inl rfl) (by rw [← e2]; exact hl)
      rw [← e2] at run2
      have e3 : (sg ++ d ++ [(47 : UInt8)]).length = sg.length + d.length + 1 := by rw [List.length_append, List.length_append, List.length_singleton]
      rw [e3] at run2
      rw [run2, Option.bind_some, cf (by omega), hsz, show sg.length + d.length + 1 + es.length = sg.length + d.length + (es.length + 1) by omega]
  have hpos : (0 : Int) < ((mk (sg ++ d ++ tl)).size : Int) := by rw [mk_size]; omega
  simp only [S.lex_number, L.lex_number]
  rw [ct hpos, ct (by omega), ct hpos]
  rcases hs with rfl | rfl
  · obtain ⟨c, r, rfl⟩ : ∃ c r, d = c :: r := by
      cases d with
      | nil => exact absurd rfl hd0
      | cons c r => exact ⟨c, r, rfl⟩
    have hc := hd c List.mem_cons_self
    have hb : bt (mk ([] ++ (c :: r) ++ tl)) 0 = (c.toNat : Int) := rfl
    unfold isD at hc
    rw [hb, cf (by omega)]
    exact fin 0 rfl
  · have hb : bt (mk ([45] ++ d ++ tl)) 0 = 45 := rfl
    rw [hb, ct (by decide)]
    exact fin (IntKind.i64.wrap (0 + 1)) (by decide)
theorem ratL_form (q : Rat) : ∃ sg d tl : List UInt8, ratL q = sg ++ d ++ tl ∧ (sg = [] ∨ sg = [45]) ∧ (∀ c ∈ d, isD c) ∧ d ≠ [] ∧ (tl = [] ∨ ∃ es, tl = 47 :: es ∧ es ≠ [] ∧ ∀ c ∈ es, isD c) := by
  have tail : ∃ tl : List UInt8, (if q.den = 1 then intL q.num else intL q.num ++ 47 :: (decL q.den).map dbyte) = intL q.num ++ tl ∧ (tl = [] ∨ ∃ es, tl = 47 :: es ∧ es ≠ [] ∧ ∀ c ∈ es, isD c) := by
    by_cases h : q.den = 1
    · exact ⟨[], by rw [if_pos h, List.append_nil], .inl rfl⟩
    · obtain ⟨c, r, hc⟩ := digits_ne q.den
      exact ⟨47 :: (decL q.den).map dbyte, by rw [if_neg h], .inr ⟨_, rfl, by rw [hc]; exact List.cons_ne_nil _ _, digits_isD _⟩⟩
  obtain ⟨tl, h1, h2⟩ := tail
  obtain ⟨c, r, hc⟩ := digits_ne q.num.natAbs
  unfold ratL
  rw [h1]
  by_cases hn : q.num < 0
  · refine ⟨[45], (decL q.num.natAbs).map dbyte, tl, ?_, .inr rfl, digits_isD _, by rw [hc]; exact List.cons_ne_nil _ _, h2⟩
    unfold intL; rw [if_pos hn]; rfl
  · refine ⟨[], (decL q.num.natAbs).map dbyte, tl, ?_, .inl rfl, digits_isD _, by rw [hc]; exact List.cons_ne_nil _ _, h2⟩
    unfold intL; rw [if_neg hn]; rfl
def str_3e3d203c_17 : ByteArray := (⟨#[62, 61, 32, 60, 61, 32, 91, 32, 93, 32, 44, 32, 59, 32, 43, 32, 61]⟩ : ByteArray)
/-- lex_Scan: one round of loop 0. -/
def lex_Scan_s0 (κ0 : ByteArray → Int → Int → (List (Int × Int × ByteArray × Unit)) → Int → Option ((List (Int × Int × ByteArray × Unit)) × (Int × Int × Unit) × Unit)) (s : ByteArray) (t3_0 : Int) (t3_1 : Int) (out : List (Int × Int × ByteArray × Unit)) (at_ : Int) : Option ((List (Int × Int × ByteArray × Unit)) × (Int × Int × Unit) × Unit) :=
  cond (decide (at_ < (s.size : Int)))
    (
      cond (decide (0 ≤ at_))
        (
          cond (decide (at_ < (s.size : Int)))
            (
              cond (decide ((bt s at_) = 35))
                (
                  (S.lex_run (s, at_, S.lex_Scan_1, ())).bind fun z2 =>
                  κ0 s t3_0 t3_1 out z2.1)
                (
                  cond (decide ((bt s at_) = 32)) (κ0 s t3_0 t3_1 out (IntKind.i64.wrap (at_ + 1)))
                    (
                      cond (decide ((bt s at_) = 9)) (κ0 s t3_0 t3_1 out (IntKind.i64.wrap (at_ + 1)))
                        (
                          cond (decide ((bt s at_) = 13)) (κ0 s t3_0 t3_1 out (IntKind.i64.wrap (at_ + 1)))
                            (
                              cond (decide ((bt s at_) = 10))
                                (
                                  let z6 := IntKind.i64.wrap (at_ + 1)
                                  cond (decide (z6 ≤ at_)) (some ([], (2, at_, ()), ()))
                                    (
                                      cond (decide ((out.length : Int) = 16384)) (some ([], (3, at_, ()), ()))
                                        (
                                          cond (decide (0 ≤ at_))
                                            (
                                              cond (decide (at_ ≤ z6))
                                                (
                                                  cond (decide (z6 ≤ (s.size : Int)))
                                                    (
                                                      let z7 := s.extract at_.toNat z6.toNat
                                                      cond (decide ((out.length + ([(3, at_, z7, ())]).length) * 32 ≤ 140737488351232)) (κ0 s t3_0 t3_1 (out ++ ([(3, at_, z7, ())])) z6) none) none) none) none)))
                                (
                                  (S.lex_letter ((bt s at_), ())).bind fun z9 =>
                                  cond (z9.1)
                                    (
                                      (S.lex_run (s, at_, S.lex_letter, ())).bind fun z10 =>
                                      cond (decide (z10.1 ≤ at_)) (some ([], (2, at_, ()), ()))
                                        (
                                          cond (decide ((out.length : Int) = 16384)) (some ([], (3, at_, ()), ()))
                                            (
                                              cond (decide (0 ≤ at_))
                                                (
                                                  cond (decide (at_ ≤ z10.1))
                                                    (
                                                      cond (decide (z10.1 ≤ (s.size : Int)))
                                                        (
                                                          let z11 := s.extract at_.toNat z10.1.toNat
                                                          cond (decide ((out.length + ([(0, at_, z11, ())]).length) * 32 ≤ 140737488351232)) (κ0 s t3_0 t3_1 (out ++ ([(0, at_, z11, ())])) z10.1) none) none) none) none)))
                                    (
                                      cond (decide ((bt s at_) = 45))
                                        (
                                          (S.lex_number (s, at_, ())).bind fun z13 =>
                                          cond (decide (z13.1 ≤ at_)) (some ([], (2, at_, ()), ()))
                                            (
                                              cond (decide ((out.length : Int) = 16384)) (some ([], (3, at_, ()), ()))
                                                (
                                                  cond (decide (0 ≤ at_))
                                                    (
                                                      cond (decide (at_ ≤ z13.1))
                                                        (
                                                          cond (decide (z13.1 ≤ (s.size : Int)))
                                                            (
                                                              let z14 := s.extract at_.toNat z13.1.toNat
                                                              cond (decide ((out.length + ([(1, at_, z14, ())]).length) * 32 ≤ 140737488351232)) (κ0 s t3_0 t3_1 (out ++ ([(1, at_, z14, ())])) z13.1) none) none) none) none)))
                                        (
                                          (S.lex_digit ((bt s at_), ())).bind fun z16 =>
                                          cond (z16.1)
                                            (
                                              (S.lex_number (s, at_, ())).bind fun z17 =>
                                              cond (decide (z17.1 ≤ at_)) (some ([], (2, at_, ()), ()))
                                                (
                                                  cond (decide ((out.length : Int) = 16384)) (some ([], (3, at_, ()), ()))
                                                    (
                                                      cond (decide (0 ≤ at_))
                                                        (
                                                          cond (decide (at_ ≤ z17.1))
                                                            (
                                                              cond (decide (z17.1 ≤ (s.size : Int)))
                                                                (
                                                                  let z18 := s.extract at_.toNat z17.1.toNat
                                                                  cond (decide ((out.length + ([(1, at_, z18, ())]).length) * 32 ≤ 140737488351232)) (κ0 s t3_0 t3_1 (out ++ ([(1, at_, z18, ())])) z17.1) none) none) none) none))) none)))))))) none) none)
    (
      cond (decide ((out.length + ([(4, (s.size : Int), (⟨#[]⟩ : ByteArray), ())]).length) * 32 ≤ 140737488351232)) (some ((out ++ ([(4, (s.size : Int), (⟨#[]⟩ : ByteArray), ())])), (0, 0, ()), ())) none)

def lex_Scan_l0 (K : Nat) : Nat → ByteArray → Int → Int → (List (Int × Int × ByteArray × Unit)) → Int → Option ((List (Int × Int × ByteArray × Unit)) × (Int × Int × Unit) × Unit)
  | 0, _, _, _, _, _ => none
  | n + 1, s, t3_0, t3_1, out, at_ => lex_Scan_s0 (lex_Scan_l0 K n) s t3_0 t3_1 out at_

/-- lex.Scan -/
def lex_Scan_b (I0 : ByteArray → Int → Int → (List (Int × Int × ByteArray × Unit)) → Int → Option ((List (Int × Int × ByteArray × Unit)) × (Int × Int × Unit) × Unit)) (s : ByteArray) : Option ((List (Int × Int × ByteArray × Unit)) × (Int × Int × Unit) × Unit) :=
  cond (decide (65536 < (s.size : Int))) (some ([], (3, 65536, ()), ())) (I0 s 0 0 [] 0)

def lex_Scan (K : Nat) (s : ByteArray) : Option ((List (Int × Int × ByteArray × Unit)) × (Int × Int × Unit) × Unit) := lex_Scan_b (lex_Scan_l0 K K) s

def S.lex_Scan (x : ByteArray × Unit) : Option ((List (Int × Int × ByteArray × Unit)) × (Int × Int × Unit) × Unit) := L.lex_Scan 100 x.1
theorem letter_no {b : Int} (h : b ≤ 57) : S.lex_letter (b, ()) = some (false, ()) := by
  simp only [S.lex_letter, L.lex_letter]
  rw [cf (by omega), cf (by omega)]
theorem Scan_ratL {q : Rat} (hl : (ratL q).length < 15000) : S.lex_Scan (mk (ratL q), ()) = some ([(1, 0, mk (ratL q), ()), (4, ((ratL q).length : Int), (⟨#[]⟩ : ByteArray), ())], (0, 0, ()), ()) := by
  obtain ⟨sg, d, tl, e, hs, hd, hd0, ht⟩ := ratL_form q
  have hnum := number_form hs hd hd0 ht (by rw [← e]; exact hl)
  rw [← e] at hnum
  have hlen : 0 < (ratL q).length := by rw [e, List.length_append, List.length_append]; have := List.length_pos_iff.2 hd0; omega
  have hfirst : ∃ c : UInt8, bt (mk (ratL q)) 0 = (c.toNat : Int) ∧ (c.toNat = 45 ∨ isD c) := by
    rw [e]
    rcases hs with rfl | rfl
    · cases d with
      | nil => exact absurd rfl hd0
      | cons c r => exact ⟨c, rfl, .inr (hd c List.mem_cons_self)⟩
    · exact ⟨45, rfl, .inl rfl⟩
  generalize hL : ratL q = l at hnum hlen hl hfirst ⊢
  obtain ⟨c, hb, hc⟩ := hfirst
  have hr : 45 ≤ c.toNat ∧ c.toNat ≤ 57 := by unfold isD at hc; omega
  have hz := mk_size l
  simp only [S.lex_Scan, L.lex_Scan, lex_Scan_b]
  rw [cf (by omega)]
  have step : ∀ k, lex_Scan_l0 100 (k + 1) (mk l) 0 0 [] 0 = lex_Scan_l0 100 k (mk l) 0 0 [(1, 0, mk l, ())] (l.length : Int) := by
    intro k
    have ex : (mk l).extract (Int.toNat 0) (Int.toNat (l.length : Int)) = mk l := by
      rw [mk_extract, Int.toNat_natCast, List.take_of_length_le (Nat.le_refl _)]; rfl
    simp only [lex_Scan_l0, lex_Scan_s0]
    rw [ct (by omega), ct (by omega), ct (by omega), hb, cf (by omega), cf (by omega), cf (by omega), cf (by omega), cf (by omega), letter_no (by omega), Option.bind_some]
    simp only [cond_false]
    rcases hc with hc | hc
    · rw [ct (by omega), hnum, Option.bind_some]
      rw [ex, List.length_nil, List.length_singleton, cf (by omega), cf (by omega), ct (by omega), ct (by omega), ct (by omega), ct (by omega)]
      rfl
    · have hc' := hc
      unfold isD at hc'
      rw [cf (by omega), digit_yes hc, Option.bind_some]
      simp only [cond_true]
      rw [hnum, Option.bind_some]
      rw [ex, List.length_nil, List.length_singleton, cf (by omega), cf (by omega), ct (by omega), ct (by omega), ct (by omega), ct (by omega)]
      rfl
  have fin : ∀ k, lex_Scan_l0 100 (k + 1) (mk l) 0 0 [(1, 0, mk l, ())] (l.length : Int) = some ([(1, 0, mk l, ()), (4, (l.length : Int), (⟨#[]⟩ : ByteArray), ())], (0, 0, ()), ()) := by
    intro k
    simp only [lex_Scan_l0, lex_Scan_s0]
    rw [cf (by omega), ct (by show (1 + 1) * 32 ≤ _; omega)]
    rfl
  exact (step 99).trans (fin 98)
end Go.L

/-! CC -/
namespace Go.L
open Go.PM
set_option exponentiation.threshold 20000
set_option linter.unusedVariables false
set_option linter.unusedSimpArgs false

/-- girdletop_WholeNumbers: one round of loop 1. -/
def girdletop_WholeNumbers_s1 (κ0 : (List ((Bool × (List Int) × Unit) × (List Int) × Unit)) → (List ((Bool × (List Int) × Unit) × (List Int) × Unit)) → (List (List ((Bool × (List Int) × Unit) × (List Int) × Unit))) → Int → (List (List ((Bool × (List Int) × Unit) × (List Int) × Unit))) → Int → Int → Option (Bool × Unit)) (κ1 : (List ((Bool × (List Int) × Unit) × (List Int) × Unit)) → (List ((Bool × (List Int) × Unit) × (List Int) × Unit)) → (List (List ((Bool × (List Int) × Unit) × (List Int) × Unit))) → Int → (List (List ((Bool × (List Int) × Unit) × (List Int) × Unit))) → Int → Int → (List ((Bool × (List Int) × Unit) × (List Int) × Unit)) → Int → Int → Option (Bool × Unit)) (by_ : List ((Bool × (List Int) × Unit) × (List Int) × Unit)) (z_0 : List ((Bool × (List Int) × Unit) × (List Int) × Unit)) (z_1 : List (List ((Bool × (List Int) × Unit) × (List Int) × Unit))) (n2 : Int) (t63 : List (List ((Bool × (List Int) × Unit) × (List Int) × Unit))) (t64 : Int) (t65 : Int) (t73 : List ((Bool × (List Int) × Unit) × (List Int) × Unit)) (t74 : Int) (t75 : Int) : Option (Bool × Unit) :=
  cond (decide (t75 < t74))
    (
      cond (decide (0 ≤ t75))
        (
          cond (decide (t75 < (t73.length : Int)))
            (
              let z6 := t73.getD t75.toNat ((false, ([], ())), ([], ()))
              cond (decide (3 < (z6.1.2.1.length : Int))) (some (true, ()))
                (
                  cond (decide (3 < (z6.2.1.length : Int))) (some (true, ())) (κ1 by_ z_0 z_1 n2 t63 t64 t65 t73 t74 (IntKind.i64.wrap (t75 + 1))))) none) none) (κ0 by_ z_0 z_1 n2 t63 t64 (IntKind.i64.wrap (t65 + 1)))

def girdletop_WholeNumbers_l1 (K : Nat) (κ0 : (List ((Bool × (List Int) × Unit) × (List Int) × Unit)) → (List ((Bool × (List Int) × Unit) × (List Int) × Unit)) → (List (List ((Bool × (List Int) × Unit) × (List Int) × Unit))) → Int → (List (List ((Bool × (List Int) × Unit) × (List Int) × Unit))) → Int → Int → Option (Bool × Unit)) : Nat → (List ((Bool × (List Int) × Unit) × (List Int) × Unit)) → (List ((Bool × (List Int) × Unit) × (List Int) × Unit)) → (List (List ((Bool × (List Int) × Unit) × (List Int) × Unit))) → Int → (List (List ((Bool × (List Int) × Unit) × (List Int) × Unit))) → Int → Int → (List ((Bool × (List Int) × Unit) × (List Int) × Unit)) → Int → Int → Option (Bool × Unit)
  | 0, _, _, _, _, _, _, _, _, _, _ => none
  | n + 1, by_, z_0, z_1, n2, t63, t64, t65, t73, t74, t75 => girdletop_WholeNumbers_s1 κ0 (girdletop_WholeNumbers_l1 K κ0 n) by_ z_0 z_1 n2 t63 t64 t65 t73 t74 t75

/-- girdletop_WholeNumbers: one round of loop 3. -/
def girdletop_WholeNumbers_s3 (κ0 : (List ((Bool × (List Int) × Unit) × (List Int) × Unit)) → (List ((Bool × (List Int) × Unit) × (List Int) × Unit)) → (List (List ((Bool × (List Int) × Unit) × (List Int) × Unit))) → Int → (List (List ((Bool × (List Int) × Unit) × (List Int) × Unit))) → Int → Int → Option (Bool × Unit)) (κ2 : (List ((Bool × (List Int) × Unit) × (List Int) × Unit)) → (List ((Bool × (List Int) × Unit) × (List Int) × Unit)) → (List (List ((Bool × (List Int) × Unit) × (List Int) × Unit))) → (List ((Bool × (List Int) × Unit) × (List Int) × Unit)) → Int → Int → Option (Bool × Unit)) (κ3 : (List ((Bool × (List Int) × Unit) × (List Int) × Unit)) → Int → Int → Option (Bool × Unit)) (t126 : List ((Bool × (List Int) × Unit) × (List Int) × Unit)) (t127 : Int) (t128 : Int) : Option (Bool × Unit) :=
  cond (decide (t128 < t127))
    (
      cond (decide (0 ≤ t128))
        (
          cond (decide (t128 < (t126.length : Int)))
            (
              let z13 := t126.getD t128.toNat ((false, ([], ())), ([], ()))
              (S.ratio_Text (((z13.1.1, z13.1.2.1, ()), z13.2.1, ()), ())).bind fun z14 =>
              (S.lex_Scan (z14.1, ())).bind fun z15 =>
              cond (!(decide (z15.2.1.1 = 0))) (some (false, ()))
                (
                  cond (!(decide ((z15.1.length : Int) = 2))) (some (false, ()))
                    (
                      cond (decide (0 < (z15.1.length : Int)))
                        (
                          cond (!(decide (((z15.1.getD 0 (0, (0, ((⟨#[]⟩ : ByteArray), ())))).1) = 1))) (some (false, ()))
                            (
                              cond (decide (0 < (z15.1.length : Int)))
                                (
                                  (S.ratio_Parse (((((z15.1.getD 0 (0, (0, ((⟨#[]⟩ : ByteArray), ())))).2).2).1), ())).bind fun z18 =>
                                  cond (!(decide (z18.2.1 = 0))) (some (false, ()))
                                    (
                                      (S.vec_Same ([((z13.1.1, z13.1.2.1, ()), z13.2.1, ())], [((z18.1.1.1, z18.1.1.2.1, ()), z18.1.2.1, ())], ())).bind fun z19 =>
                                      cond (!z19.1) (some (false, ())) (κ3 t126 t127 (IntKind.i64.wrap (t128 + 1))))) none)) none))) none) none) (some (true, ()))

def girdletop_WholeNumbers_l3 (K : Nat) (κ0 : (List ((Bool × (List Int) × Unit) × (List Int) × Unit)) → (List ((Bool × (List Int) × Unit) × (List Int) × Unit)) → (List (List ((Bool × (List Int) × Unit) × (List Int) × Unit))) → Int → (List (List ((Bool × (List Int) × Unit) × (List Int) × Unit))) → Int → Int → Option (Bool × Unit)) (κ2 : (List ((Bool × (List Int) × Unit) × (List Int) × Unit)) → (List ((Bool × (List Int) × Unit) × (List Int) × Unit)) → (List (List ((Bool × (List Int) × Unit) × (List Int) × Unit))) → (List ((Bool × (List Int) × Unit) × (List Int) × Unit)) → Int → Int → Option (Bool × Unit)) : Nat → (List ((Bool × (List Int) × Unit) × (List Int) × Unit)) → Int → Int → Option (Bool × Unit)
  | 0, _, _, _ => none
  | n + 1, t126, t127, t128 => girdletop_WholeNumbers_s3 κ0 κ2 (girdletop_WholeNumbers_l3 K κ0 κ2 n) t126 t127 t128

/-- girdletop_WholeNumbers: one round of loop 2. -/
def girdletop_WholeNumbers_s2 (I3 : (List ((Bool × (List Int) × Unit) × (List Int) × Unit)) → Int → Int → Option (Bool × Unit)) (κ0 : (List ((Bool × (List Int) × Unit) × (List Int) × Unit)) → (List ((Bool × (List Int) × Unit) × (List Int) × Unit)) → (List (List ((Bool × (List Int) × Unit) × (List Int) × Unit))) → Int → (List (List ((Bool × (List Int) × Unit) × (List Int) × Unit))) → Int → Int → Option (Bool × Unit)) (κ2 : (List ((Bool × (List Int) × Unit) × (List Int) × Unit)) → (List ((Bool × (List Int) × Unit) × (List Int) × Unit)) → (List (List ((Bool × (List Int) × Unit) × (List Int) × Unit))) → (List ((Bool × (List Int) × Unit) × (List Int) × Unit)) → Int → Int → Option (Bool × Unit)) (by_ : List ((Bool × (List Int) × Unit) × (List Int) × Unit)) (z_0 : List ((Bool × (List Int) × Unit) × (List Int) × Unit)) (z_1 : List (List ((Bool × (List Int) × Unit) × (List Int) × Unit))) (t92 : List ((Bool × (List Int) × Unit) × (List Int) × Unit)) (t93 : Int) (t94 : Int) : Option (Bool × Unit) :=
  cond (decide (t94 < t93))
    (
      cond (decide (0 ≤ t94))
        (
          cond (decide (t94 < (t92.length : Int)))
            (
              let z9 := t92.getD t94.toNat ((false, ([], ())), ([], ()))
              (S.ratio_Check (((z9.1.1, z9.1.2.1, ()), z9.2.1, ()), ())).bind fun z10 =>
              cond (!(decide (z10.1 = 0))) (some (true, ()))
                (
                  cond (decide (3 < (z9.1.2.1.length : Int))) (some (true, ()))
                    (
                      cond (decide (3 < (z9.2.1.length : Int))) (some (true, ())) (κ2 by_ z_0 z_1 t92 t93 (IntKind.i64.wrap (t94 + 1)))))) none) none)
    (
      (S.model_Point ((z_0, z_1, ()), by_, ())).bind fun z12 =>
      cond (!(decide (z12.2.1 = 0))) (some (decide ((z12.1.length : Int) = 0), ())) (I3 z12.1 (z12.1.length : Int) 0))

def girdletop_WholeNumbers_l2 (K : Nat) (κ0 : (List ((Bool × (List Int) × Unit) × (List Int) × Unit)) → (List ((Bool × (List Int) × Unit) × (List Int) × Unit)) → (List (List ((Bool × (List Int) × Unit) × (List Int) × Unit))) → Int → (List (List ((Bool × (List Int) × Unit) × (List Int) × Unit))) → Int → Int → Option (Bool × Unit)) : Nat → (List ((Bool × (List Int) × Unit) × (List Int) × Unit)) → (List ((Bool × (List Int) × Unit) × (List Int) × Unit)) → (List (List ((Bool × (List Int) × Unit) × (List Int) × Unit))) → (List ((Bool × (List Int) × Unit) × (List Int) × Unit)) → Int → Int → Option (Bool × Unit)
  | 0, _, _, _, _, _, _ => none
  | n + 1, by_, z_0, z_1, t92, t93, t94 => girdletop_WholeNumbers_s2 (girdletop_WholeNumbers_l3 K κ0 (girdletop_WholeNumbers_l2 K κ0 n) K) κ0 (girdletop_WholeNumbers_l2 K κ0 n) by_ z_0 z_1 t92 t93 t94

/-- girdletop_WholeNumbers: one round of loop 0. -/
def girdletop_WholeNumbers_s0 (I1 : (List ((Bool × (List Int) × Unit) × (List Int) × Unit)) → (List ((Bool × (List Int) × Unit) × (List Int) × Unit)) → (List (List ((Bool × (List Int) × Unit) × (List Int) × Unit))) → Int → (List (List ((Bool × (List Int) × Unit) × (List Int) × Unit))) → Int → Int → (List ((Bool × (List Int) × Unit) × (List Int) × Unit)) → Int → Int → Option (Bool × Unit)) (I2 : (List ((Bool × (List Int) × Unit) × (List Int) × Unit)) → (List ((Bool × (List Int) × Unit) × (List Int) × Unit)) → (List (List ((Bool × (List Int) × Unit) × (List Int) × Unit))) → (List ((Bool × (List Int) × Unit) × (List Int) × Unit)) → Int → Int → Option (Bool × Unit)) (κ0 : (List ((Bool × (List Int) × Unit) × (List Int) × Unit)) → (List ((Bool × (List Int) × Unit) × (List Int) × Unit)) → (List (List ((Bool × (List Int) × Unit) × (List Int) × Unit))) → Int → (List (List ((Bool × (List Int) × Unit) × (List Int) × Unit))) → Int → Int → Option (Bool × Unit)) (by_ : List ((Bool × (List Int) × Unit) × (List Int) × Unit)) (z_0 : List ((Bool × (List Int) × Unit) × (List Int) × Unit)) (z_1 : List (List ((Bool × (List Int) × Unit) × (List Int) × Unit))) (n2 : Int) (t63 : List (List ((Bool × (List Int) × Unit) × (List Int) × Unit))) (t64 : Int) (t65 : Int) : Option (Bool × Unit) :=
  cond (decide (t65 < t64))
    (
      cond (decide (0 ≤ t65))
        (
          cond (decide (t65 < (t63.length : Int)))
            (
              let z4 := t63.getD t65.toNat []
              (S.vec_Check (z4, n2, ())).bind fun z5 =>
              cond (!(decide (z5.1 = 0))) (some (true, ())) (I1 by_ z_0 z_1 n2 t63 t64 t65 z4 (z4.length : Int) 0)) none) none) (I2 by_ z_0 z_1 by_ (by_.length : Int) 0)

def girdletop_WholeNumbers_l0 (K : Nat) : Nat → (List ((Bool × (List Int) × Unit) × (List Int) × Unit)) → (List ((Bool × (List Int) × Unit) × (List Int) × Unit)) → (List (List ((Bool × (List Int) × Unit) × (List Int) × Unit))) → Int → (List (List ((Bool × (List Int) × Unit) × (List Int) × Unit))) → Int → Int → Option (Bool × Unit)
  | 0, _, _, _, _, _, _, _ => none
  | n + 1, by_, z_0, z_1, n2, t63, t64, t65 => girdletop_WholeNumbers_s0 (girdletop_WholeNumbers_l1 K (girdletop_WholeNumbers_l0 K n) K) (girdletop_WholeNumbers_l2 K (girdletop_WholeNumbers_l0 K n) K) (girdletop_WholeNumbers_l0 K n) by_ z_0 z_1 n2 t63 t64 t65

/-- girdletop.WholeNumbers -/
def girdletop_WholeNumbers_b (I0 : (List ((Bool × (List Int) × Unit) × (List Int) × Unit)) → (List ((Bool × (List Int) × Unit) × (List Int) × Unit)) → (List (List ((Bool × (List Int) × Unit) × (List Int) × Unit))) → Int → (List (List ((Bool × (List Int) × Unit) × (List Int) × Unit))) → Int → Int → Option (Bool × Unit)) (z : (List ((Bool × (List Int) × Unit) × (List Int) × Unit)) × (List (List ((Bool × (List Int) × Unit) × (List Int) × Unit))) × Unit) (by_ : List ((Bool × (List Int) × Unit) × (List Int) × Unit)) : Option (Bool × Unit) :=
  (S.lex_Scan ((⟨#[49]⟩ : ByteArray), ())).bind fun z1 =>
  cond (!(decide (z1.2.1.1 = 0))) (some (false, ()))
    (
      cond (!(decide ((z1.1.length : Int) = 2))) (some (false, ()))
        (
          (S.vec_Zero (2, ())).bind fun z2 =>
          cond (!(decide ((z2.1.length : Int) = 2))) (some (false, ()))
            (
              cond (decide (4 < (z.1.length : Int))) (some (true, ()))
                (
                  cond (decide (4 < (z.2.1.length : Int))) (some (true, ()))
                    (
                      cond (!(decide ((by_.length : Int) = (z.2.1.length : Int)))) (some (true, ()))
                        (
                          cond (decide ((([z.1]).length + z.2.1.length) * 24 ≤ 140737488351232))
                            (
                              let z3 := ([z.1]) ++ z.2.1
                              I0 by_ z.1 z.2.1 (z.1.length : Int) z3 (z3.length : Int) 0) none))))))

def girdletop_WholeNumbers (K : Nat) (z : (List ((Bool × (List Int) × Unit) × (List Int) × Unit)) × (List (List ((Bool × (List Int) × Unit) × (List Int) × Unit))) × Unit) (by_ : List ((Bool × (List Int) × Unit) × (List Int) × Unit)) : Option (Bool × Unit) := girdletop_WholeNumbers_b (girdletop_WholeNumbers_l0 K K) z by_

def S.girdletop_WholeNumbers (x : ZR × List RT × Unit) : Option (Bool × Unit) := L.girdletop_WholeNumbers 100 x.1 x.2.1
def big3 (n : Nat) (q : Nat → Rat) : Prop := ∀ i < n, big (q i) 3
theorem ratL_len {q : Rat} (h : big q 512) : (ratL q).length < 15000 := by
  have h1 := intL_len (z := q.num) h.1
  have h2 := decL_len (n := q.den) h.2
  unfold ratL
  split
  · omega
  · rw [List.length_append, List.length_cons, List.length_map]; omega
theorem cf2 {α : Type} {b : Bool} (h : b = false) (x y : α) : cond b x y = y := by rw [h]; rfl
theorem WholeNumbers_true {z : ZR} {by_ : List RT} (hz : inZ z) (hb : ∀ d ∈ by_, inR d) : girdletop_WholeNumbers 100 z by_ = some (true, ()) := by
  unfold girdletop_WholeNumbers girdletop_WholeNumbers_b
  have r1 : (⟨#[49]⟩ : ByteArray) = mk (ratL 1) := by
    have : ratL 1 = [49] := by
      unfold ratL intL
      rw [if_pos (by decide), if_neg (by decide), show (1 : Rat).num.natAbs = 1 from rfl, decL_small (by decide)]; rfl
    rw [this]; rfl
  have sc := Scan_ratL (q := 1) (ratL_len (by unfold big; decide +kernel))
  have vz := vec_Zero_R (n := 2) (by decide)
  rw [show ((2 : Nat) : Int) = 2 from rfl] at vz
  rw [r1, sc, Option.bind_some]
  simp only [decide_true, Bool.not_true, cond_false]
  rw [cf2 (by rfl), show S.vec_Zero _ = _ from vz, Option.bind_some, cf2 (by rw [Vx_len]; rfl)]
  by_cases g2 : 4 < (z.1.length : Int)
  · rw [ct g2]
  rw [cf g2]
  by_cases g3 : 4 < (z.2.1.length : Int)
  · rw [ct g3]
  rw [cf g3]
  by_cases g4 : (by_.length : Int) = (z.2.1.length : Int)
  case neg => rw [decide_eq_false g4]; rfl
  rw [decide_eq_true g4]
  simp only [Bool.not_true, cond_false]
  generalize hn : z.1.length = n at g2 ⊢
  generalize hm : z.2.1.length = m at g3 g4 ⊢
  have hbm : by_.length = m := by omega
  have hls : ([z.1] ++ z.2.1).length = m + 1 := by rw [List.length_append, List.length_singleton, hm]; omega
  have hin := fun i (hi : i < m + 1) => inZ_get hz (show i < ([z.1] ++ z.2.1).length by omega)
  rw [ct (by rw [List.length_singleton]; omega), hls]
  generalize hL : [z.1] ++ z.2.1 = ls at hls hin ⊢
  rcases loop_or (m + 1) (fun _ => ()) (fun k s i => girdletop_WholeNumbers_l0 100 k by_ z.1 z.2.1 (n : Int) ls ((m + 1 : Nat) : Int) i) (fun r => r = some (true, ())) (fun i => ∃ q : Nat → Rat, ls.getD i [] = Rx n q ∧ big3 n q) (fun k i hk hi => by
      simp only [girdletop_WholeNumbers_l0, girdletop_WholeNumbers_s0]
      rw [ct (by omega), ct (by omega), ct (by omega), Int.toNat_natCast]
      rcases vec_Check_in (n := n) (by omega) (hin i hi) with ⟨c, c0, e⟩ | ⟨e, q, el, hbq⟩
      · right; rw [e, Option.bind_some]; simp only; rw [decide_eq_false c0]; rfl
      rw [e, Option.bind_some]
      simp only [decide_true, Bool.not_true, cond_false]
      rw [el, Vx_len]
      rcases loop_or n (fun _ => ()) (fun k2 s j => girdletop_WholeNumbers_l1 100 (girdletop_WholeNumbers_l0 100 k) k2 by_ z.1 z.2.1 (n : Int) ls ((m + 1 : Nat) : Int) (i : Int) (Rx n q) (n : Int) j) (fun r => r = some (true, ())) (fun j => big (q j) 3) (fun k2 j hk2 hj => by
          simp only [girdletop_WholeNumbers_l1, girdletop_WholeNumbers_s1, Vx_len]
          rw [ct (by omega), ct (by omega), ct (by omega), Int.toNat_natCast, Vx_get hj]
          by_cases l1 : 3 < (D (q j).num.natAbs).length
          · right; rw [ct (show 3 < (((R (q j)).1.2.1).length : Int) by show 3 < ((D (q j).num.natAbs).length : Int); omega)]
          rw [cf (show ¬ 3 < (((R (q j)).1.2.1).length : Int) by show ¬ 3 < ((D (q j).num.natAbs).length : Int); omega)]
          by_cases l2 : 3 < (D (q j).den).length
          · right; rw [ct (show 3 < (((R (q j)).2.1).length : Int) by show 3 < ((D (q j).den).length : Int); omega)]
          rw [cf (show ¬ 3 < (((R (q j)).2.1).length : Int) by show ¬ 3 < ((D (q j).den).length : Int); omega), wi1 (by omega)]
          exact .inl ⟨rfl, big_len (m := 0) (by omega) (by omega)⟩) 100 (by omega) with h | ⟨k2, e2, h⟩
      · exact .inr h
      left
      have e3 : girdletop_WholeNumbers_l1 100 (girdletop_WholeNumbers_l0 100 k) 100 by_ z.1 z.2.1 (n : Int) ls ((m + 1 : Nat) : Int) (i : Int) (Rx n q) (n : Int) 0 = _ := e2
      refine ⟨?_, q, rfl, h⟩
      rw [e3]
      simp only [girdletop_WholeNumbers_l1, girdletop_WholeNumbers_s1]
      rw [cf (by omega), wi1 (by omega)]) 100 (by omega) with h | ⟨k, e2, h⟩
  · exact h
  have e3 : girdletop_WholeNumbers_l0 100 100 by_ z.1 z.2.1 (n : Int) ls ((m + 1 : Nat) : Int) 0 = _ := e2
  rw [e3]
  clear e2 e3
  obtain ⟨q0, q, rfl, s0, sq⟩ := rows_of (Q := big3 n) hm (by rw [hL]; exact h)
  simp only [girdletop_WholeNumbers_l0, girdletop_WholeNumbers_s0]
  rw [cf (by omega), hbm]
  rcases loop_or m (fun _ => ()) (fun k2 s i => girdletop_WholeNumbers_l2 100 (girdletop_WholeNumbers_l0 100 k) k2 by_ (Rx n q0) (Vx m fun k => Rx n (q k)) by_ (m : Int) i) (fun r => r = some (true, ())) (fun i => ∃ t : Rat, by_.getD i rt0 = R t ∧ big t 3) (fun k2 i hk hi => by
      simp only [girdletop_WholeNumbers_l2, girdletop_WholeNumbers_s2]
      rw [ct (by omega), ct (by omega), ct (by omega), Int.toNat_natCast]
      have hin := inR_get hb (show i < by_.length by omega)
      generalize hx : by_.getD i ((false, ([], ())), ([], ())) = x
      have hx' : by_.getD i rt0 = x := hx
      rw [hx'] at hin
      rcases ratio_Check_in hin with ⟨c, c0, e⟩ | ⟨e, t, ht, ht2⟩
      · right; rw [show S.ratio_Check _ = _ from e, Option.bind_some]; simp only; rw [decide_eq_false c0]; rfl
      rw [show S.ratio_Check _ = _ from e, Option.bind_some]
      simp only [decide_true, Bool.not_true, cond_false]
      subst ht
      by_cases l1 : 3 < (D t.num.natAbs).length
      · right; rw [ct (show 3 < (((R t).1.2.1).length : Int) by show 3 < ((D t.num.natAbs).length : Int); omega)]
      rw [cf (show ¬ 3 < (((R t).1.2.1).length : Int) by show ¬ 3 < ((D t.num.natAbs).length : Int); omega)]
      by_cases l2 : 3 < (D t.den).length
      · right; rw [ct (show 3 < (((R t).2.1).length : Int) by show 3 < ((D t.den).length : Int); omega)]
      rw [cf (show ¬ 3 < (((R t).2.1).length : Int) by show ¬ 3 < ((D t.den).length : Int); omega), wi1 (by omega)]
      exact .inl ⟨rfl, t, rfl, big_len (m := 0) (by omega) (by omega)⟩) 100 (by omega) with hh | ⟨k2, e2, hh⟩
  · exact hh
  have e3 : girdletop_WholeNumbers_l2 100 (girdletop_WholeNumbers_l0 100 k) 100 by_ (Rx n q0) (Vx m fun k => Rx n (q k)) by_ (m : Int) 0 = _ := e2
  rw [e3]
  clear e2 e3
  obtain ⟨t, ht, htb⟩ := Vx_rt (l := by_) (k := 3) (fun i hi => hh i (by omega))
  rw [hbm] at ht htb
  subst ht
  simp only [girdletop_WholeNumbers_l2, girdletop_WholeNumbers_s2]
  rw [cf (by omega)]
  have hmul : 3 + (3 + 3 + 1) * m ≤ 31 := by omega
  rcases model_Point_R (n := n) (m := m) (q0 := q0) (q := q) (t := t) (j := 3) (l := 3) (by omega) (by omega) s0 sq htb (by omega) (by decide) with e | ⟨e, _⟩
  · rw [show S.model_Point _ = _ from e, Option.bind_some]; rfl
  rw [show S.model_Point _ = _ from e, Option.bind_some]
  simp only [decide_true, Bool.not_true, cond_false]
  have pb : ∀ i < n, big (pnt q0 q t m i) 31 := fun i hi => (pnt_big s0 sq htb m (Nat.le_refl _) i hi).mono (by omega)
  rw [Vx_len]
  generalize hp : pnt q0 q t m = p at pb ⊢
  refine loop_up n (fun _ => ()) (fun k3 s i => girdletop_WholeNumbers_l3 100 (girdletop_WholeNumbers_l0 100 k) (girdletop_WholeNumbers_l2 100 (girdletop_WholeNumbers_l0 100 k) k2) k3 (Rx n p) (n : Int) i) _ (fun k3 i hi => ?_) (fun k3 => ?_) 100 (by omega)
  · have hbi := pb i hi
    simp only [girdletop_WholeNumbers_l3, girdletop_WholeNumbers_s3, Vx_len]
    rw [ct (by omega), ct (by omega), ct (by omega), Int.toNat_natCast, Vx_get hi]
    have t1 := ratio_Text_R hbi (by decide)
    have t2 := Scan_ratL (q := p i) (ratL_len (hbi.mono (by decide)))
    have t3 := Parse_ratL (q := p i) (j := 31) hbi (by decide)
    have t4 := vec_Same_one hbi (by decide)
    rw [show S.ratio_Text _ = _ from t1, Option.bind_some, t2, Option.bind_some]
    simp only [decide_true, Bool.not_true, cond_false, List.length_cons, List.length_nil, List.getD_cons_zero]
    rw [ct (by omega), ct (by omega), show S.ratio_Parse _ = _ from t3, Option.bind_some]
    simp only [decide_true, Bool.not_true, cond_false]
    rw [show S.vec_Same _ = _ from t4, Option.bind_some]
    simp only [Bool.not_true, cond_false]
    rw [wi1 (by omega)]
    exact cf2 rfl _ _
  · simp only [girdletop_WholeNumbers_l3, girdletop_WholeNumbers_s3]
    rw [cf (by omega)]
end Go.L
