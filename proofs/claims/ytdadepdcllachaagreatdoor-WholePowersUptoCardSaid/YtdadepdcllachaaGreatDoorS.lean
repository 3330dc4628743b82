/-
  sets: what is kept of ratios; boxes of sets. sets and their boxes go as far as each other along the places. sets and their boxes go as far as each other along the places: the law.
  No condition beyond those that each theorem names.
-/
import Derived.Test.YtdadepdcllachaaGreatDoorR

/-! BD -/
namespace Go.L
open Go.PM
set_option exponentiation.threshold 20000
set_option linter.unusedVariables false
set_option linter.unusedSimpArgs false

end Go.L

/-! BE -/
namespace Go.L
open Go.PM
set_option exponentiation.threshold 20000
set_option linter.unusedVariables false
set_option linter.unusedSimpArgs false

/-- vec_Check: one round of loop 0. -/
def vec_Check_s0 (κ0 : (List RT) → Int → Int → Option (Int × Unit)) (t20 : List RT) (t21 : Int) (t22 : Int) : Option (Int × Unit) :=
  cond (decide (t22 < t21))
   (
   cond (decide (0 ≤ t22))
   (
   cond (decide (t22 < (t20.length : Int)))
   (
   let z1 := t20.getD t22.toNat ((false, ([], ())), ([], ()))
   (S.ratio_Check (((z1.1.1, z1.1.2.1, ()), z1.2.1, ()), ())).bind fun z2 =>
   cond (!(decide (z2.1 = 0))) (some (z2.1, ())) (κ0 t20 t21 (IntKind.i64.wrap (t22 + 1)))) none) none) (some (0, ()))

def vec_Check_l0 (K : Nat) : Nat → (List RT) → Int → Int → Option (Int × Unit)
  | 0, _, _, _ => none
  | n + 1, t20, t21, t22 => vec_Check_s0 (vec_Check_l0 K n) t20 t21 t22

/-- vec.Check -/
def vec_Check_b (I0 : (List RT) → Int → Int → Option (Int × Unit)) (a : List RT) (n : Int) : Option (Int × Unit) :=
  cond (decide (n < 0)) (some (20, ()))
   (
   cond (decide (16 < n)) (some (20, ()))
   (
   cond (!(decide ((a.length : Int) = n))) (some (20, ())) (I0 a (a.length : Int) 0)))

def vec_Check (K : Nat) (a : List RT) (n : Int) : Option (Int × Unit) := vec_Check_b (vec_Check_l0 K K) a n

def S.vec_Check (x : List RT × Int × Unit) : Option (Int × Unit) := L.vec_Check 100 x.1 x.2.1
/-- vec_Zero: one round of loop 0. -/
def vec_Zero_s0 (κ0 : (List RT) → Int → Int → Option ((List RT) × Unit)) (out : List RT) (t10 : Int) (t11 : Int) : Option ((List RT) × Unit) :=
  cond (decide (t11 < t10))
   (
   (S.ratio_Zero (())).bind fun z4 =>
   cond (decide (0 ≤ t11))
   (
   cond (decide (t11 < (out.length : Int)))
   (
   κ0 (out.set t11.toNat ((z4.1.1.1, z4.1.1.2.1, ()), z4.1.2.1, ())) t10 (IntKind.i64.wrap (t11 + 1))) none) none) (some (out, ()))

def vec_Zero_l0 (K : Nat) : Nat → (List RT) → Int → Int → Option ((List RT) × Unit)
  | 0, _, _, _ => none
  | n + 1, out, t10, t11 => vec_Zero_s0 (vec_Zero_l0 K n) out t10 t11

/-- vec.Zero -/
def vec_Zero_b (I0 : (List RT) → Int → Int → Option ((List RT) × Unit)) (n : Int) : Option ((List RT) × Unit) :=
  cond (decide (0 ≤ (min (max n 0) 16)))
   (
   cond (decide ((min (max n 0) 16) * 56 ≤ 140737488351232))
   (
   let z3 := (List.replicate (min (max n 0) 16).toNat ((false, ([], ())), ([], ())) : List RT)
   I0 z3 (z3.length : Int) 0) none) none

def vec_Zero (K : Nat) (n : Int) : Option ((List RT) × Unit) := vec_Zero_b (vec_Zero_l0 K K) n

def S.vec_Zero (x : Int × Unit) : Option (List RT × Unit) := L.vec_Zero 100 x.1
theorem vec_Zero_R {n : Nat} (hn : n ≤ 16) : S.vec_Zero ((n : Int), ()) = some (Rx n (fun _ => 0), ()) := by
  simp only [S.vec_Zero, L.vec_Zero, vec_Zero_b]
  rw [show min (max (n : Int) 0) 16 = n by omega, ct (by omega), ct (by omega), List.length_replicate, Int.toNat_natCast, ← Gx_zero n _ (fun _ => R 0)]
  refine loop_up n (Gx n _ (fun _ => R 0)) (fun k s i => vec_Zero_l0 100 k s (n : Int) i) _ (fun k' i hi => ?_) (fun k => ?_) 100 (by omega)
  · simp only [vec_Zero_l0, vec_Zero_s0, Gx_len]
    rw [ct (by omega), show S.ratio_Zero _ = _ from ratio_Zero_R, Option.bind_some, ct (by omega), ct (by omega), wi1 (by omega)]
    exact congrArg (fun s => vec_Zero_l0 100 k' s (n : Int) ((i + 1 : Nat) : Int)) (Gx_set ((false, ([], ())), ([], ())) (fun _ => R 0) hi)
  · simp only [vec_Zero_l0, vec_Zero_s0]
    rw [cf (by omega), Gx_full]
theorem Vx_set {β : Type} {n i : Nat} {g : Nat → β} {x : β} (hi : i < n) : (Vx n g).set i x = Vx n (fun j => if j = i then x else g j) := by
  apply List.ext_getElem
  · rw [List.length_set, Vx_len, Vx_len]
  · intro j h1 h2
    simp only [Vx, List.getElem_set, List.getElem_map, List.getElem_range]
    by_cases h : i = j
    · subst h; simp
    · rw [if_neg h, if_neg (by omega)]
theorem sumQ_one {f : Nat → Rat} {i : Nat} : ∀ {n : Nat}, i < n → (∀ j < n, j ≠ i → f j = 0) → sumQ f n = f i
  | 0, h, _ => by omega
  | n + 1, h, h0 => by
    simp only [sumQ]
    by_cases hi : i = n
    · subst hi
      rw [sumQ_zero fun j hj => h0 j (by omega) (by omega)]; grind
    · rw [sumQ_one (show i < n by omega) fun j hj hji => h0 j (by omega) hji, h0 n (by omega) (fun h => hi h.symm)]; grind
end Go.L

/-! BF -/
namespace Go.L
open Go.PM
set_option exponentiation.threshold 20000
set_option linter.unusedVariables false
set_option linter.unusedSimpArgs false

end Go.L
