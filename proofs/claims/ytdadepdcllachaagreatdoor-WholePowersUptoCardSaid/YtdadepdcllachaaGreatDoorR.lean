/-
  sets: what their functions make of rows of dyads. sets: how far they go in a direction. sets: no less, and not much more.
  No condition beyond those that each theorem names.
-/
import Derived.Test.YtdadepdcllachaaGreatDoorQ

/-! BA -/
namespace Go.L
open Go.PM
set_option exponentiation.threshold 20000
set_option linter.unusedVariables false
set_option linter.unusedSimpArgs false

def nb (n : Nat) (d : Nat → Int) (k : Nat) : Prop := ∀ i < n, (d i).natAbs < P k
abbrev pts (d : Nat → Int) (i : Nat) : Int × Int := (d i, d i)
theorem rup_pos {x : Int} (h : 0 ≤ x) (b : Nat) : 0 ≤ rup x b := Int.le_trans h (rup_ge x b)
abbrev Rx (n : Nat) (q : Nat → Rat) : List RT := Vx n fun i => R (q i)
end Go.L

/-! BB -/
namespace Go.L
open Go.PM
set_option exponentiation.threshold 20000
set_option linter.unusedVariables false
set_option linter.unusedSimpArgs false

theorem qabs_of {x : Rat} (h : 0 ≤ x) : qabs x = x := by unfold qabs; rw [if_neg (Rat.not_lt.2 h)]
theorem qmul_le {a b c d : Rat} (h1 : a ≤ b) (h2 : c ≤ d) (h3 : 0 ≤ c) (h4 : 0 ≤ b) : a * c ≤ b * d := Rat.le_trans (Rat.mul_le_mul_of_nonneg_right h1 h3) (Rat.mul_le_mul_of_nonneg_left h2 h4)
theorem sumQ_congr {f g : Nat → Rat} : ∀ {n : Nat}, (∀ i < n, f i = g i) → sumQ f n = sumQ g n
  | 0, _ => rfl
  | n + 1, h => by simp only [sumQ]; rw [sumQ_congr fun i hi => h i (by omega), h n (by omega)]
theorem sumQ_le {f g : Nat → Rat} : ∀ {n : Nat}, (∀ i < n, f i ≤ g i) → sumQ f n ≤ sumQ g n
  | 0, _ => Rat.le_refl
  | n + 1, h => by
    have h1 := sumQ_le (n := n) fun i hi => h i (by omega)
    have h2 := h n (by omega)
    simp only [sumQ]; grind
theorem sumQ_add {f g : Nat → Rat} : ∀ n : Nat, sumQ (fun i => f i + g i) n = sumQ f n + sumQ g n
  | 0 => by simp only [sumQ]; grind
  | n + 1 => by simp only [sumQ]; rw [sumQ_add n]; grind
theorem sumQ_mul {f : Nat → Rat} (a : Rat) : ∀ n : Nat, sumQ (fun i => a * f i) n = a * sumQ f n
  | 0 => by simp only [sumQ]; grind
  | n + 1 => by simp only [sumQ]; rw [sumQ_mul a n]; grind
theorem sumQ_zero {f : Nat → Rat} : ∀ {n : Nat}, (∀ i < n, f i = 0) → sumQ f n = 0
  | 0, _ => rfl
  | n + 1, h => by simp only [sumQ]; rw [sumQ_zero fun i hi => h i (by omega), h n (by omega)]; grind
def sz2 (z : Int × Int) : Int := max (z.1.natAbs : Int) (z.2.natAbs : Int)
def zs (c : Nat → Int) (g : Nat → Nat → Int) (d : Nat → Int × Int) (b n : Nat) : Nat → Int × Int
  | 0 => inn (pts c) d b n
  | k + 1 => (rdn ((zs c g d b n k).1 + sz2 (inn (pts (g k)) d b n)) b, rup ((zs c g d b n k).2 + sz2 (inn (pts (g k)) d b n)) b)
end Go.L

/-! BC -/
namespace Go.L
open Go.PM
set_option exponentiation.threshold 20000
set_option linter.unusedVariables false
set_option linter.unusedSimpArgs false

end Go.L
