/-
  the laws of sets: both ways round. the laws of sets: sums. the laws of sets: not much more. the laws of sets: not much more: the law. the laws of sets: tables.
  No condition beyond those that each theorem names.
-/
import Derived.Test.YtdgldaahflpndaaGreatDoorV

/-! DG -/
namespace Go.L
open Go.PM
set_option exponentiation.threshold 20000
set_option linter.unusedVariables false
set_option linter.unusedSimpArgs false

/-- The rows of a set. -/
def rowq (q0 : Nat → Rat) (q : Nat → Nat → Rat) : Nat → Nat → Rat
  | 0 => q0
  | k + 1 => q k
theorem thousand : S.ratio_Of (1000, 1, ()) = some (R 1000, ()) := by rw [ratio_Of_R (by decide) (by decide) (by decide) (by decide) (by decide)]; rfl
theorem sgq_no {a b : Rat} (h : ¬ 0 < sgq a b) : a ≤ b := by
  unfold sgq at h
  split at h
  · exact Rat.le_of_lt (by assumption)
  · split at h
    · exact absurd (by decide) h
    · exact Rat.not_lt.1 (by assumption)
/-- What is kept of a set of ratios of a size of 1000 at most, with 60 bits. -/
theorem of_small {n m : Nat} {q0 : Nat → Rat} {q : Nat → Nat → Rat} {b : Nat} (hm : m ≤ 6) (hb : 60 ≤ b) (hb' : b ≤ 100) (h0 : big1 n q0) (h : ∀ k < m, big1 n (q k)) (s0 : ∀ i < n, qabs (q0 i) ≤ 1000) (s : ∀ k < m, ∀ i < n, qabs (q k i) ≤ 1000) :
    (∀ i < n, qabs (dv (oc q0 b i) oe - q0 i) ≤ 1 / 268435456 ∧ qabs (dv (oc q0 b i) oe) ≤ 2048) ∧ (∀ k < m, ∀ i < n, qabs (dv (og q b k i) oe - q k i) ≤ 1 / 268435456 ∧ qabs (dv (og q b k i) oe) ≤ 2048) ∧ ∀ i < n, 0 ≤ orr q0 q b m i ∧ dv (orr q0 q b m i) oe ≤ 7 / 67108864 := by
  have n0 := nrs_near (b := b) (B := 300) hb h0 (by omega) (fun j hj => Rat.le_trans (s0 j hj) (by decide +kernel))
  have nk : ∀ k < m, _ := fun k hk => nrs_near (b := b) (B := 300) hb (h k hk) (by omega) (fun j hj => Rat.le_trans (s k hk j hj) (by decide +kernel))
  have m0 := fun j (hj : j < n) => md_near (b := b) (f := nrs q0 b 300) hb (n0 j hj).1.1 (n0 j hj).1.2 (n0 j hj).2.1.1 (n0 j hj).2.1.2 (n0 j hj).2.2
  have mk := fun k (hk : k < m) j (hj : j < n) => md_near (b := b) (f := nrs (q k) b 300) hb (nk k hk j hj).1.1 (nk k hk j hj).1.2 (nk k hk j hj).2.1.1 (nk k hk j hj).2.1.2 (nk k hk j hj).2.2
  refine ⟨fun j hj => ⟨(m0 j hj).1, ?_⟩, fun k hk j hj => ⟨(mk k hk j hj).1, ?_⟩, fun j hj => ⟨zr_pos _ _ _ _ _ _, ?_⟩⟩
  · have a := (m0 j hj).1
    have c := s0 j hj
    have g1 := qabs_ge (q0 j)
    have g2 := qabs_ge (dv (oc q0 b j) oe - q0 j)
    exact qabs_le' (by grind) (by grind)
  · have a := (mk k hk j hj).1
    have c := s k hk j hj
    have g1 := qabs_ge (q k j)
    have g2 := qabs_ge (dv (og q b k j) oe - q k j)
    exact qabs_le' (by grind) (by grind)
  · have z := zr_near (e := oe) (b := b) (B := 300) (i := j) hb hm (m0 j hj).2 (fun k hk => (mk k hk j hj).2) m (Nat.le_refl _)
    have s1 := (sumC (a := 1 / 67108864) (by decide +kernel) m hm).2.1
    grind
end Go.L

/-! DH -/
namespace Go.L
open Go.PM
set_option exponentiation.threshold 20000
set_option linter.unusedVariables false
set_option linter.unusedSimpArgs false

end Go.L

/-! DI -/
namespace Go.L
open Go.PM
set_option exponentiation.threshold 20000
set_option linter.unusedVariables false
set_option linter.unusedSimpArgs false

theorem cw_all : ∀ b0 b1 b2 b3 b4 : Bool, ∀ k : Fin 5, cw ((b0.toNat + 2 * b1.toNat + 4 * b2.toNat + 8 * b3.toNat + 16 * b4.toNat : Nat) : Int) k.val = if [b0, b1, b2, b3, b4].getD k.val false then 1 else -1 := by decide +kernel
theorem cw_some {m : Nat} (hm : m ≤ 5) (s : Nat → Bool) : ∃ w : Nat, w < 2 ^ m ∧ ∀ k < m, cw (w : Int) k = if s k then 1 else -1 := by
  have hb := fun k => Bool.toNat_le (s k && decide (k < m))
  refine ⟨(s 0 && decide (0 < m)).toNat + 2 * (s 1 && decide (1 < m)).toNat + 4 * (s 2 && decide (2 < m)).toNat + 8 * (s 3 && decide (3 < m)).toNat + 16 * (s 4 && decide (4 < m)).toNat, ?_, fun k hk => ?_⟩
  · have h0 := hb 0
    have h1 := hb 1
    have h2 := hb 2
    have h3 := hb 3
    have h4 := hb 4
    have hz : ∀ k, ¬ k < m → (s k && decide (k < m)).toNat = 0 := fun k h => by rw [decide_eq_false h, Bool.and_false]; rfl
    rcases (show m = 0 ∨ m = 1 ∨ m = 2 ∨ m = 3 ∨ m = 4 ∨ m = 5 by omega) with e | e | e | e | e | e
    · have := hz 0 (by omega); have := hz 1 (by omega); have := hz 2 (by omega); have := hz 3 (by omega); have := hz 4 (by omega); rw [show 2 ^ m = 1 by rw [e]]; omega
    · have := hz 1 (by omega); have := hz 2 (by omega); have := hz 3 (by omega); have := hz 4 (by omega); rw [show 2 ^ m = 2 by rw [e]]; omega
    · have := hz 2 (by omega); have := hz 3 (by omega); have := hz 4 (by omega); rw [show 2 ^ m = 4 by rw [e]]; omega
    · have := hz 3 (by omega); have := hz 4 (by omega); rw [show 2 ^ m = 8 by rw [e]]; omega
    · have := hz 4 (by omega); rw [show 2 ^ m = 16 by rw [e]]; omega
    · rw [show 2 ^ m = 32 by rw [e]]; omega
  · have h := cw_all (s 0 && decide (0 < m)) (s 1 && decide (1 < m)) (s 2 && decide (2 < m)) (s 3 && decide (3 < m)) (s 4 && decide (4 < m)) ⟨k, by omega⟩
    rw [h]
    rcases (show k = 0 ∨ k = 1 ∨ k = 2 ∨ k = 3 ∨ k = 4 by omega) with e | e | e | e | e <;> subst e <;> (show (if (s _ && decide (_ < m)) = true then (1 : Rat) else -1) = _) <;> rw [decide_eq_true hk, Bool.and_true]
theorem pnt_dot {n m : Nat} {q0 : Nat → Rat} {q : Nat → Nat → Rat} {t qd : Nat → Rat} : sumQ (fun i => pnt q0 q t m i * qd i) n = sumQ (fun i => q0 i * qd i) n + sumQ (fun k => t k * sumQ (fun i => q k i * qd i) n) m := by
  have e1 : sumQ (fun k => t k * sumQ (fun i => q k i * qd i) n) m = sumQ (fun i => sumQ (fun k => t k * (q k i * qd i)) m) n := by
    rw [sumQ_comm]
    exact sumQ_congr fun k _ => (sumQ_mul (t k) n).symm
  rw [e1, ← sumQ_add]
  refine sumQ_congr fun i _ => ?_
  rw [pnt_sum]
  have e2 : sumQ (fun k => t k * (q k i * qd i)) m = qd i * sumQ (fun k => t k * q k i) m := by
    rw [← sumQ_mul]; exact sumQ_congr fun k _ => by grind
  rw [e2]; grind
/-- The furthest corner. -/
def far_ (q0 : Nat → Rat) (q : Nat → Nat → Rat) (qd : Nat → Rat) (n m : Nat) : Rat := sumQ (fun i => q0 i * qd i) n + sumQ (fun k => qabs (sumQ (fun i => q k i * qd i) n)) m
theorem far_corner {n m : Nat} {q0 : Nat → Rat} {q : Nat → Nat → Rat} {qd : Nat → Rat} (hm : m ≤ 5) : ∃ w : Nat, w < 2 ^ m ∧ sumQ (fun i => pnt q0 q (cw (w : Int)) m i * qd i) n = far_ q0 q qd n m := by
  obtain ⟨w, h1, h2⟩ := cw_some hm (fun k => decide (0 ≤ sumQ (fun i => q k i * qd i) n))
  refine ⟨w, h1, ?_⟩
  rw [pnt_dot]
  unfold far_
  refine congrArg _ (sumQ_congr fun k hk => ?_)
  rw [h2 k hk]
  by_cases h : 0 ≤ sumQ (fun i => q k i * qd i) n
  · rw [if_pos (decide_eq_true h), qabs_of h]; grind
  · rw [if_neg (by rw [decide_eq_false h]; decide), ← qabs_neg, qabs_of (by grind)]; grind
theorem near_dot {n : Nat} {x y qd : Nat → Rat} {ε : Rat} (h : ∀ i < n, qabs (x i - y i) ≤ ε) (hq : ∀ i < n, qabs (qd i) ≤ 1000) (hε : 0 ≤ ε) : qabs (sumQ (fun i => x i * qd i) n - sumQ (fun i => y i * qd i) n) ≤ sumQ (fun _ => ε * 1000) n := by
  have e : sumQ (fun i => x i * qd i) n - sumQ (fun i => y i * qd i) n = sumQ (fun i => (x i - y i) * qd i) n := by
    have h1 : sumQ (fun i => (x i - y i) * qd i + y i * qd i) n = sumQ (fun i => x i * qd i) n := sumQ_congr fun k _ => by grind
    rw [sumQ_add] at h1
    grind
  rw [e]
  refine Rat.le_trans (sumQ_abs n) (sumQ_le fun i hi => ?_)
  rw [qabs_mul]
  exact qmul_le (h i hi) (hq i hi) (qabs_pos _) hε
theorem Tq_near {n m : Nat} {c r : Nat → Rat} {g : Nat → Nat → Rat} {q0 : Nat → Rat} {q : Nat → Nat → Rat} {qd : Nat → Rat} (hn : n ≤ 4) (hm : m ≤ 5) (hq : ∀ i < n, qabs (qd i) ≤ 1000) (hc : ∀ i < n, qabs (c i - q0 i) ≤ 1 / 268435456) (hg : ∀ k < m, ∀ i < n, qabs (g k i - q k i) ≤ 1 / 268435456) (hr : ∀ i < n, 0 ≤ r i ∧ r i ≤ 7 / 67108864) : Tq c r g qd n m ≤ far_ q0 q qd n m + 1 / 1500 := by
  have e0 := near_dot hc hq (by decide +kernel)
  have s0 := (sumC (a := 1 / 268435456 * 1000) (by decide +kernel) n (by omega)).2.2 hn
  have a0 := qabs_ge (sumQ (fun i => c i * qd i) n - sumQ (fun i => q0 i * qd i) n)
  have ek : sumQ (fun k => qabs (sumQ (fun i => g k i * qd i) n)) m ≤ sumQ (fun k => qabs (sumQ (fun i => q k i * qd i) n) + 4 * (1 / 268435456 * 1000)) m := sumQ_le fun k hk => by
    have e1 := near_dot (hg k hk) hq (by decide +kernel)
    have a1 := qabs_add (sumQ (fun i => g k i * qd i) n - sumQ (fun i => q k i * qd i) n) (sumQ (fun i => q k i * qd i) n)
    have e2 : sumQ (fun i => g k i * qd i) n - sumQ (fun i => q k i * qd i) n + sumQ (fun i => q k i * qd i) n = sumQ (fun i => g k i * qd i) n := by grind
    rw [e2] at a1
    grind
  have s1 := (sumC (a := 4 * (1 / 268435456 * 1000)) (by decide +kernel) m (by omega)).2.1
  rw [sumQ_add] at ek
  have er : sumQ (fun i => r i * qabs (qd i)) n ≤ sumQ (fun _ => 7 / 67108864 * 1000) n := sumQ_le fun i hi => qmul_le (hr i hi).2 (hq i hi) (qabs_pos _) (by decide +kernel)
  have s2 := (sumC (a := 7 / 67108864 * 1000) (by decide +kernel) n (by omega)).2.2 hn
  unfold Tq far_
  grind
end Go.L

/-! DJ -/
namespace Go.L
open Go.PM
set_option exponentiation.threshold 20000
set_option linter.unusedVariables false
set_option linter.unusedSimpArgs false

/-- The greatest so far. -/
def mst (x : Nat → Rat) : Nat → Rat
  | 0 => 0
  | i + 1 => if 0 < sgq (x i) (mst x i) ∨ i = 0 then x i else mst x i
theorem mst_succ (x : Nat → Rat) (i : Nat) : mst x (i + 1) = if 0 < sgq (x i) (mst x i) ∨ i = 0 then x i else mst x i := rfl
theorem mst_ge {x : Nat → Rat} : ∀ n i, i < n → x i ≤ mst x n
  | 0, i, h => by omega
  | n + 1, i, h => by
    unfold mst
    by_cases e : i = n
    · subst e
      split
      · exact Rat.le_refl
      · rename_i hn; exact sgq_no (fun h => hn (.inl h))
    · have h1 := mst_ge (x := x) n i (by omega)
      split
      · rename_i hs
        rcases hs with hs | hs
        · have : mst x n ≤ x n := by
            unfold sgq at hs
            split at hs
            · exact absurd hs (by decide)
            · split at hs
              · exact Rat.le_of_lt (by assumption)
              · exact absurd hs (by decide)
          exact Rat.le_trans h1 this
        · omega
      · exact h1
theorem mst_big {x : Nat → Rat} {n k : Nat} (h : ∀ i < n, big (x i) k) (hk : 1 ≤ k) : ∀ i ≤ n, big (mst x i) k
  | 0, _ => ⟨P_pos k, P_one k hk⟩
  | i + 1, hi => by
    unfold mst
    split
    · exact h i (by omega)
    · exact mst_big h hk i (by omega)
theorem rows_get2 {n m i : Nat} {q0 qd : Nat → Rat} {q : Nat → Nat → Rat} (hi : i < m + 2) : ([Rx n q0, Rx n qd] ++ Vx m (fun k => Rx n (q k))).getD i [] = Rx n (rowq q0 (rowq qd q) i) := by
  match i with
  | 0 => rfl
  | 1 => rfl
  | i + 2 =>
    have : ([Rx n q0, Rx n qd] ++ Vx m (fun k => Rx n (q k))).getD (i + 2) [] = (Vx m (fun k => Rx n (q k))).getD i [] := by simp [List.getD_eq_getElem?_getD]
    rw [this, Vx_get (by omega)]; rfl
/-- w16_ZonoTight: one round of loop 1. -/
def w16_ZonoTight_s1 (κ0 : (List RT) → (List RT) → (List (List RT)) → (List (List RT)) → Int → Int → Option (Bool × Unit)) (κ1 : (List RT) → (List RT) → (List (List RT)) → (List (List RT)) → Int → Int → (List RT) → Int → Int → Option (Bool × Unit)) (dir : List RT) (z_0 : List RT) (z_1 : List (List RT)) (t49 : List (List RT)) (t50 : Int) (t51 : Int) (t55 : List RT) (t56 : Int) (t57 : Int) : Option (Bool × Unit) :=
  cond (decide (t57 < t56))
    (
      cond (decide (0 ≤ t57))
        (
          cond (decide (t57 < (t55.length : Int)))
            (
              let z6 := t55.getD t57.toNat ((false, ([], ())), ([], ()))
              (S.ratio_Abs (((z6.1.1, z6.1.2.1, ()), z6.2.1, ()), ())).bind fun z7 =>
              (S.ratio_Of (1000, 1, ())).bind fun z8 =>
              (S.ratio_Compare (((z7.1.1.1, z7.1.1.2.1, ()), z7.1.2.1, ()), ((z8.1.1.1, z8.1.1.2.1, ()), z8.1.2.1, ()), ())).bind fun z9 =>
              cond (decide (0 < z9.1)) (some (true, ())) (κ1 dir z_0 z_1 t49 t50 t51 t55 t56 (IntKind.i64.wrap (t57 + 1)))) none) none) (κ0 dir z_0 z_1 t49 t50 (IntKind.i64.wrap (t51 + 1)))

def w16_ZonoTight_l1 (K : Nat) (κ0 : (List RT) → (List RT) → (List (List RT)) → (List (List RT)) → Int → Int → Option (Bool × Unit)) : Nat → (List RT) → (List RT) → (List (List RT)) → (List (List RT)) → Int → Int → (List RT) → Int → Int → Option (Bool × Unit)
  | 0, _, _, _, _, _, _, _, _, _ => none
  | n + 1, dir, z_0, z_1, t49, t50, t51, t55, t56, t57 => w16_ZonoTight_s1 κ0 (w16_ZonoTight_l1 K κ0 n) dir z_0 z_1 t49 t50 t51 t55 t56 t57

/-- w16_ZonoTight: one round of loop 2. -/
def w16_ZonoTight_s2 (κ0 : (List RT) → (List RT) → (List (List RT)) → (List (List RT)) → Int → Int → Option (Bool × Unit)) (κ2 : (List RT) → (List RT) → (List (List RT)) → Bool → (List Int) → Int → Int → Bool → (List Int) → (List Int) → Bool → Int → Int → Option (Bool × Unit)) (dir : List RT) (z_0 : List RT) (z_1 : List (List RT)) (s_0 : Bool) (s_1 : List Int) (s_2 : Int) (e : Int) (most_0 : Bool) (most_1 : List Int) (most_2 : List Int) (any : Bool) (t92 : Int) (t93 : Int) : Option (Bool × Unit) :=
  cond (decide (t93 < t92))
    (
      (S.w16_corner ((z_0, z_1, ()), t93, ())).bind fun z17 =>
      (S.vec_Dot (z17.1, dir, ())).bind fun z18 =>
      (S.ratio_Compare (((z18.1.1.1, z18.1.1.2.1, ()), z18.1.2.1, ()), ((most_0, most_1, ()), most_2, ()), ())).bind fun z19 =>
      cond (decide (0 < z19.1))
        (
          κ2 dir z_0 z_1 s_0 s_1 s_2 e z18.1.1.1 z18.1.1.2.1 z18.1.2.1 true t92 (IntKind.i64.wrap (t93 + 1)))
        (
          cond (!any)
            (
              κ2 dir z_0 z_1 s_0 s_1 s_2 e z18.1.1.1 z18.1.1.2.1 z18.1.2.1 true t92 (IntKind.i64.wrap (t93 + 1))) (κ2 dir z_0 z_1 s_0 s_1 s_2 e most_0 most_1 most_2 any t92 (IntKind.i64.wrap (t93 + 1)))))
    (
      (S.ratio_Of (1, 1000, ())).bind fun z23 =>
      (S.ratio_Add (((most_0, most_1, ()), most_2, ()), ((z23.1.1.1, z23.1.1.2.1, ()), z23.1.2.1, ()), ())).bind fun z24 =>
      (S.dyad_Cmp (((s_0, s_1, ()), s_2, ()), ((z24.1.1.1, z24.1.1.2.1, ()), z24.1.2.1, ()), ())).bind fun z25 =>
      cond (decide (e = 0))
        (
          cond (decide (z25.2.1 = 0)) (some (decide (z25.1 < 0), ())) (some (false, ()))) (some (false, ())))

def w16_ZonoTight_l2 (K : Nat) (κ0 : (List RT) → (List RT) → (List (List RT)) → (List (List RT)) → Int → Int → Option (Bool × Unit)) : Nat → (List RT) → (List RT) → (List (List RT)) → Bool → (List Int) → Int → Int → Bool → (List Int) → (List Int) → Bool → Int → Int → Option (Bool × Unit)
  | 0, _, _, _, _, _, _, _, _, _, _, _, _, _ => none
  | n + 1, dir, z_0, z_1, s_0, s_1, s_2, e, most_0, most_1, most_2, any, t92, t93 => w16_ZonoTight_s2 κ0 (w16_ZonoTight_l2 K κ0 n) dir z_0 z_1 s_0 s_1 s_2 e most_0 most_1 most_2 any t92 t93

/-- w16_ZonoTight: one round of loop 0. -/
def w16_ZonoTight_s0 (I1 : (List RT) → (List RT) → (List (List RT)) → (List (List RT)) → Int → Int → (List RT) → Int → Int → Option (Bool × Unit)) (I2 : (List RT) → (List RT) → (List (List RT)) → Bool → (List Int) → Int → Int → Bool → (List Int) → (List Int) → Bool → Int → Int → Option (Bool × Unit)) (κ0 : (List RT) → (List RT) → (List (List RT)) → (List (List RT)) → Int → Int → Option (Bool × Unit)) (dir : List RT) (z_0 : List RT) (z_1 : List (List RT)) (t49 : List (List RT)) (t50 : Int) (t51 : Int) : Option (Bool × Unit) :=
  cond (decide (t51 < t50))
    (
      cond (decide (0 ≤ t51))
        (
          cond (decide (t51 < (t49.length : Int)))
            (
              let z5 := t49.getD t51.toNat []
              I1 dir z_0 z_1 t49 t50 t51 z5 (z5.length : Int) 0) none) none)
    (
      (S.zono_Of ((z_0, z_1, ()), 60, ())).bind fun z12 =>
      (S.vec_Near (dir, 60, ())).bind fun z13 =>
      (S.zono_Support ((z12.1.1, z12.1.2.1, z12.1.2.2.1, ()), z13.1, 60, ())).bind fun z14 =>
      (S.ratio_Zero (())).bind fun z15 =>
      cond (decide (0 ≤ (z_1.length : Int)))
        (
          I2 dir z_0 z_1 z14.1.1.1 z14.1.1.2.1 z14.1.2.1 z14.2.1 z15.1.1.1 z15.1.1.2.1 z15.1.2.1 false (IntKind.i64.wrap (1 * 2 ^ (min (z_1.length : Int).toNat 64))) 0) none)

def w16_ZonoTight_l0 (K : Nat) : Nat → (List RT) → (List RT) → (List (List RT)) → (List (List RT)) → Int → Int → Option (Bool × Unit)
  | 0, _, _, _, _, _, _ => none
  | n + 1, dir, z_0, z_1, t49, t50, t51 => w16_ZonoTight_s0 (w16_ZonoTight_l1 K (w16_ZonoTight_l0 K n) K) (w16_ZonoTight_l2 K (w16_ZonoTight_l0 K n) K) (w16_ZonoTight_l0 K n) dir z_0 z_1 t49 t50 t51

/-- girdlelaw16.ZonoTight -/
def w16_ZonoTight_b (I0 : (List RT) → (List RT) → (List (List RT)) → (List (List RT)) → Int → Int → Option (Bool × Unit)) (z : ZR) (dir : List RT) : Option (Bool × Unit) :=
  (S.w16_spreads (())).bind fun z1 =>
  cond (!z1.1) (some (false, ()))
    (
      (S.w16_fit ((z.1, z.2.1, ()), (dir.length : Int), ())).bind fun z2 =>
      cond (!z2.1) (some (true, ()))
        (
          (S.w16_numbers (dir, (dir.length : Int), ())).bind fun z3 =>
          cond (!z3.1) (some (true, ()))
            (
              cond (decide ((([z.1, dir]).length + z.2.1.length) * 24 ≤ 140737488351232))
                (
                  let z4 := ([z.1, dir]) ++ z.2.1
                  I0 dir z.1 z.2.1 z4 (z4.length : Int) 0) none)))

def w16_ZonoTight (K : Nat) (z : ZR) (dir : List RT) : Option (Bool × Unit) := w16_ZonoTight_b (w16_ZonoTight_l0 K K) z dir

def S.w16_ZonoTight (x : ZR × List RT × Unit) : Option (Bool × Unit) := L.w16_ZonoTight 100 x.1 x.2.1
theorem ZonoTight_true {z : ZR} {dir : List RT} (hz : inZ z) (hd : ∀ d ∈ dir, inR d) : w16_ZonoTight 100 z dir = some (true, ()) := by
  unfold w16_ZonoTight w16_ZonoTight_b
  rw [w16_spreads_true, Option.bind_some]
  simp only [Bool.not_true, cond_false]
  generalize hN : dir.length = n
  rcases w16_fit_in (n := n) hz with e | ⟨e, n1, n4, m, q0, q, hm, rfl, b0, bk⟩
  · rw [e]; rfl
  rw [e, Option.bind_some]
  simp only [Bool.not_true, cond_false]
  rcases w16_numbers_in (n := n) (by omega) hd with e | ⟨e, qd, rfl, bd⟩
  · rw [e]; rfl
  rw [e, Option.bind_some]
  simp only [Bool.not_true, cond_false, Vx_len]
  have hls : ([Rx n q0, Rx n qd] ++ Vx m (fun k => Rx n (q k))).length = m + 2 := by rw [List.length_append, Vx_len]; simp; omega
  rw [ct (by simp; omega), hls]
  have hrow := fun i (hi : i < m + 2) => rows_get2 (n := n) (q0 := q0) (qd := qd) (q := q) hi
  have hb : ∀ i < m + 2, big1 n (rowq q0 (rowq qd q) i) := fun i hi => by
    match i with
    | 0 => exact b0
    | 1 => exact bd
    | i + 2 => exact bk i (by omega)
  generalize [Rx n q0, Rx n qd] ++ Vx m (fun k => Rx n (q k)) = ls at hrow hls ⊢
  generalize hG : Vx m (fun k => Rx n (q k)) = G
  rcases loop_or (m + 2) (fun _ => ()) (fun k s i => w16_ZonoTight_l0 100 k (Rx n qd) (Rx n q0) G ls ((m + 2 : Nat) : Int) i) (fun r => r = some (true, ())) (fun i => ∀ j < n, qabs (rowq q0 (rowq qd q) i j) ≤ 1000) (fun k i hk hi => by
      simp only [w16_ZonoTight_l0, w16_ZonoTight_s0]
      rw [ct (by omega), ct (by omega), ct (by omega), Int.toNat_natCast, hrow i hi, Vx_len]
      rcases loop_or n (fun _ => ()) (fun k2 s j => w16_ZonoTight_l1 100 (w16_ZonoTight_l0 100 k) k2 (Rx n qd) (Rx n q0) G ls ((m + 2 : Nat) : Int) (i : Int) (Rx n (rowq q0 (rowq qd q) i)) (n : Int) j) (fun r => r = some (true, ())) (fun j => qabs (rowq q0 (rowq qd q) i j) ≤ 1000) (fun k2 j hk2 hj => by
          simp only [w16_ZonoTight_l1, w16_ZonoTight_s1, Vx_len]
          have hbj := hb i hi j hj
          have a1 := ratio_Abs_R hbj (by decide)
          have cm := ratio_Compare_R (big_qabs hbj) (show big 1000 1 by unfold big; decide +kernel) (by decide)
          rw [ct (by omega), ct (by omega), ct (by omega), Int.toNat_natCast, Vx_get hj, show S.ratio_Abs _ = _ from a1, Option.bind_some, thousand, Option.bind_some, show S.ratio_Compare _ = _ from cm, Option.bind_some]
          by_cases hs : 0 < sgq (qabs (rowq q0 (rowq qd q) i j)) 1000
          · right; rw [ct hs]
          · left; rw [cf hs, wi1 (by omega)]; exact ⟨rfl, sgq_no hs⟩) 100 (by omega) with hh | ⟨k2, e2, hh⟩
      · exact .inr hh
      left
      refine ⟨?_, hh⟩
      have e3 : w16_ZonoTight_l1 100 (w16_ZonoTight_l0 100 k) 100 (Rx n qd) (Rx n q0) G ls ((m + 2 : Nat) : Int) (i : Int) (Rx n (rowq q0 (rowq qd q) i)) (n : Int) 0 = _ := e2
      rw [e3]
      simp only [w16_ZonoTight_l1, w16_ZonoTight_s1]
      rw [cf (by omega), wi1 (by omega)]) 100 (by omega) with hh | ⟨k, e2, hh⟩
  · exact hh
  have e3 : w16_ZonoTight_l0 100 100 (Rx n qd) (Rx n q0) G ls ((m + 2 : Nat) : Int) 0 = _ := e2
  rw [e3]
  clear e2 e3
  have t0 : ∀ i < n, qabs (q0 i) ≤ 1000 := hh 0 (by omega)
  have td : ∀ i < n, qabs (qd i) ≤ 1000 := hh 1 (by omega)
  have tk : ∀ k < m, ∀ i < n, qabs (q k i) ≤ 1000 := fun k hk => hh (k + 2) (by omega)
  subst hG
  obtain ⟨kc, kg, kr⟩ := of_bounds (b := 60) (show m ≤ 6 by omega) (by omega) (by omega) b0 bk
  obtain ⟨oc1, og1, or1⟩ := of_small (b := 60) (show m ≤ 6 by omega) (by omega) (by omega) b0 bk t0 tk
  have z1 := of_set (b := 60) n4 (show m ≤ 6 by omega) (by omega) (by omega) b0 bk
  have v1 := vec_Near_nr (b := 60) (B := 300) (show n ≤ 16 by omega) bd (by decide) (by omega) (by omega) (by omega)
  have D1 := nrs_small (b := 60) (B := 300) bd (by decide) (by omega) (by omega) (by decide)
  have sA := zono_Support_Dx (e := oe) (e' := -((300 : Nat) : Int)) (b := 60) (show n ≤ 16 by omega) (show m ≤ 16 by omega) kc kr kg D1 (by decide) (by decide) (by decide) (by decide) (by decide) (by decide) (by decide)
  have bA := nA_up (zsup_abs (b := 60) kc kr kg D1) (show 33 + 17 + 1 + 4 * n + 2 * m ≤ 80 by omega)
  have nd' := nrs_near (b := 60) (B := 300) (by omega) bd (by omega) (fun j hj => Rat.le_trans (td j hj) (by decide +kernel))
  have leA := zsup_le (b := 60) (by omega) n4 (show m ≤ 6 by omega) (fun i hi => (oc1 i hi).2) (fun i hi => ⟨(or1 i hi).1, Rat.le_trans (or1 i hi).2 (by decide +kernel)⟩) (fun k hk i hi => (og1 k hk i hi).2) nd'
  have tq := Tq_near n4 hm td (fun i hi => (oc1 i hi).1) (fun k hk i hi => (og1 k hk i hi).1) (fun i hi => ⟨by have := (dv_le (e := oe)).2 (or1 i hi).1; rw [dv_zero] at this; exact this, (or1 i hi).2⟩)
  rw [show ((60 : Nat) : Int) = 60 from rfl] at z1 v1 sA
  simp only [w16_ZonoTight_l0, w16_ZonoTight_s0]
  rw [cf (by omega), show S.zono_Of _ = _ from z1, Option.bind_some, show S.vec_Near _ = _ from v1, Option.bind_some, show S.zono_Support _ = _ from sA, Option.bind_some, show S.ratio_Zero _ = _ from ratio_Zero_R, Option.bind_some, Vx_len]
  obtain ⟨e64, h64⟩ := two_pow32 (show m ≤ 6 by omega)
  rw [ct (by omega), Int.toNat_natCast, e64]
  generalize zsup (oc q0 60) (orr q0 q 60 m) (og q 60) (nrs qd 60 300) 60 n m = A at leA bA ⊢
  generalize hY : Yd A (oe + -((300 : Nat) : Int)) = Y
  have xb : ∀ w : Int, big (sumQ (fun i => pnt q0 q (cw w) m i * qd i) n) 89 := fun w => by
    have hs := big_sum (f := fun i => pnt q0 q (cw w) m i * qd i) (n := n) (k := 21) (fun i hi => big_mul (corner_big (w := w) (show m ≤ 6 by omega) b0 bk i hi) (bd i hi)) n (Nat.le_refl _)
    exact hs.mono (by omega)
  obtain ⟨w0, hw0, hfar⟩ := far_corner (n := n) (q0 := q0) (q := q) (qd := qd) hm
  generalize hx : (fun w : Nat => sumQ (fun i => pnt q0 q (cw (w : Int)) m i * qd i) n) = x
  have hxw : ∀ w : Nat, sumQ (fun i => pnt q0 q (cw (w : Int)) m i * qd i) n = x w := fun w => by rw [← hx]
  have xbb : ∀ w, big (x w) 89 := fun w => by rw [← hxw]; exact xb w
  have mb := mst_big (x := x) (n := 2 ^ m) (k := 89) (fun i _ => xbb i) (by decide)
  have hge := mst_ge (x := x) (2 ^ m) w0 hw0
  rw [← hxw, hfar] at hge
  have hz0 : R 0 = R (mst x 0) := rfl
  rw [hz0]
  have hany : (false : Bool) = decide (¬ (0 : Nat) = 0) := rfl
  rw [hany]
  refine loop_up (2 ^ m) (fun i => (R (mst x i), decide (¬ i = 0))) (fun k2 s i => w16_ZonoTight_l2 100 (w16_ZonoTight_l0 100 k) k2 (Rx n qd) (Rx n q0) (Vx m (fun k => Rx n (q k))) Y.1.1 Y.1.2.1 Y.2.1 0 s.1.1.1 s.1.1.2.1 s.1.2.1 s.2 ((2 ^ m : Nat) : Int) i) _ (fun k2 w hw => ?_) (fun k2 => ?_) 100 (by omega)
  · simp only [w16_ZonoTight_l2, w16_ZonoTight_s2]
    have c1 := w16_corner_R (w := (w : Int)) (show n ≤ 16 by omega) (show m ≤ 16 by omega) b0 bk
    have pb := corner_big (w := (w : Int)) (show m ≤ 6 by omega) b0 bk
    have hs := big_sum (f := fun i => pnt q0 q (cw (w : Int)) m i * qd i) (n := n) (k := 21) (fun i hi => big_mul (pb i hi) (bd i hi))
    have v3 := vec_Dot_R (k := 89) (show n ≤ 16 by omega) pb bd (fun i hi => (hs i (by omega)).mono (by omega)) (by decide)
    rw [hxw] at v3
    have cm := ratio_Compare_R (xbb w) (mb w (by omega)) (by decide)
    rw [ct (by omega), show S.w16_corner _ = _ from c1, Option.bind_some, v3, Option.bind_some, show S.ratio_Compare _ = _ from cm, Option.bind_some, wi1 (by omega)]
    have hany1 : decide (¬ (w + 1) = 0) = true := decide_eq_true (by omega)
    rw [hany1]
    by_cases h1 : 0 < sgq (x w) (mst x w)
    · rw [ct h1, show mst x (w + 1) = x w by rw [mst_succ, if_pos (.inl h1)]]
    · rw [cf h1]
      by_cases h2 : w = 0
      · rw [show mst x (w + 1) = x w by rw [mst_succ, if_pos (.inr h2)], show (!decide (¬ w = 0)) = true by rw [decide_eq_false (by simpa using h2)]; rfl, cond_true]
      · rw [show mst x (w + 1) = mst x w by rw [mst_succ, if_neg (by intro h; rcases h with h | h; exact h1 h; exact h2 h)], show (!decide (¬ w = 0)) = false by rw [decide_eq_true h2]; rfl, cond_false, show decide (¬ w = 0) = true from decide_eq_true h2]
  · simp only [w16_ZonoTight_l2, w16_ZonoTight_s2]
    have o1 : S.ratio_Of (1, 1000, ()) = some (R (Rat.divInt 1 1000), ()) := ratio_Of_R (by decide) (by decide) (by decide) (by decide) (by decide)
    have b1 : big (Rat.divInt 1 1000) 1 := by unfold big; decide +kernel
    have ad := ratio_Add_R (mb (2 ^ m) (Nat.le_refl _)) b1 (by decide)
    have cm := dyad_Cmp_Yn (e := oe + -((300 : Nat) : Int)) (i := 80) (q := mst x (2 ^ m) + Rat.divInt 1 1000) bA (by decide) (by decide) (by decide) (by decide) (by decide) (big_add (mb (2 ^ m) (Nat.le_refl _)) b1) (by decide)
    rw [hY] at cm
    rw [cf (by omega), o1, Option.bind_some, show S.ratio_Add _ = _ from ad, Option.bind_some, show S.dyad_Cmp _ = _ from cm, Option.bind_some]
    simp only [decide_true, cond_true]
    have hlt : dv A (oe + -((300 : Nat) : Int)) < mst x (2 ^ m) + Rat.divInt 1 1000 := by
      have : Rat.divInt 1 1000 = 1 / 1000 := by decide +kernel
      rw [this]; grind
    have hs : sgq (dv A (oe + -((300 : Nat) : Int))) (mst x (2 ^ m) + Rat.divInt 1 1000) = -1 := by unfold sgq; rw [if_pos hlt]
    rw [hs]; rfl
end Go.L

/-! DK -/
namespace Go.L
open Go.PM
set_option exponentiation.threshold 20000
set_option linter.unusedVariables false
set_option linter.unusedSimpArgs false

end Go.L
