/-
  boxes: what their functions make of boxes of dyads. the laws of boxes. the laws of boxes: wider, hulls.
  No condition beyond those that each theorem names.
-/
import Derived.Test.YtjkgehohjicgjaaDoorK

/-! ZF -/
namespace Go.L
open Go.PM
set_option exponentiation.threshold 20000
set_option linter.unusedVariables false
set_option linter.unusedSimpArgs false

/-- A row of n things. -/
def Vx {β : Type} (n : Nat) (g : Nat → β) : List β := (List.range n).map g
theorem Vx_len {β : Type} (n : Nat) (g : Nat → β) : (Vx n g).length = n := by simp [Vx]
theorem Vx_get {β : Type} {n i : Nat} {g : Nat → β} (h : i < n) (d : β) : (Vx n g).getD i d = g i := by
  unfold Vx; rw [List.getD_eq_getElem?_getD, List.getElem?_map, List.getElem?_range h]; rfl
/-- A loop that goes up to n. -/
theorem loop_up {R σ : Type} (n : Nat) (st : Nat → σ) (L : Nat → σ → Int → Option R) (res : Option R)
    (step : ∀ k i : Nat, i < n → L (k + 1) (st i) (i : Int) = L k (st (i + 1)) ((i + 1 : Nat) : Int)) (fin : ∀ k, L (k + 1) (st n) (n : Int) = res) (K : Nat) (hK : n < K) : L K (st 0) 0 = res := by
  have h : ∀ r i k, i + r = n → r < k → L k (st i) (i : Int) = res := by
    intro r
    induction r with
    | zero =>
      intro i k h hk
      obtain ⟨k, rfl⟩ := Nat.exists_eq_succ_of_ne_zero (by omega : k ≠ 0)
      obtain rfl : i = n := by omega
      exact fin k
    | succ r ih =>
      intro i k h hk
      obtain ⟨k, rfl⟩ := Nat.exists_eq_succ_of_ne_zero (by omega : k ≠ 0)
      rw [step k i (by omega)]
      exact ih (i + 1) k (by omega) (by omega)
  exact h n 0 K (by omega) hK
/-- A loop that goes up to n, or leaves before. -/
theorem loop_or {R σ : Type} (n : Nat) (st : Nat → σ) (L : Nat → σ → Int → Option R) (bad : Option R → Prop) (Q : Nat → Prop)
    (step : ∀ k i : Nat, n < i + (k + 1) → i < n → (L (k + 1) (st i) (i : Int) = L k (st (i + 1)) ((i + 1 : Nat) : Int) ∧ Q i) ∨ bad (L (k + 1) (st i) (i : Int))) (K : Nat) (hK : n < K) : bad (L K (st 0) 0) ∨ ∃ k, L K (st 0) 0 = L (k + 1) (st n) (n : Int) ∧ ∀ i < n, Q i := by
  have h : ∀ r i k, i + r = n → r < k → bad (L k (st i) (i : Int)) ∨ ∃ k', L k (st i) (i : Int) = L (k' + 1) (st n) (n : Int) ∧ ∀ j, i ≤ j → j < n → Q j := by
    intro r
    induction r with
    | zero =>
      intro i k h hk
      obtain ⟨k, rfl⟩ := Nat.exists_eq_succ_of_ne_zero (by omega : k ≠ 0)
      obtain rfl : i = n := by omega
      exact .inr ⟨k, rfl, fun j h1 h2 => by omega⟩
    | succ r ih =>
      intro i k h hk
      obtain ⟨k, rfl⟩ := Nat.exists_eq_succ_of_ne_zero (by omega : k ≠ 0)
      rcases step k i (by omega) (by omega) with ⟨e, q⟩ | b
      · rcases ih (i + 1) k (by omega) (by omega) with hb | ⟨k', e', h'⟩
        · left; rw [Nat.succ_eq_add_one, e]; exact hb
        · refine .inr ⟨k', by rw [Nat.succ_eq_add_one, e, e'], fun j h1 h2 => ?_⟩
          by_cases hj : j = i
          · subst hj; exact q
          · exact h' j (by omega) h2
      · exact .inl b
  rcases h n 0 K (by omega) hK with h | ⟨k, e, h⟩
  · exact .inl h
  · exact .inr ⟨k, e, fun i hi => h i (by omega) hi⟩
theorem wi1 {i : Nat} (h : i < 1000000) : IntKind.i64.wrap ((i : Int) + 1) = ((i + 1 : Nat) : Int) := by rw [wi64 (by omega) (by omega)]; omega

/-- How big a box's numbers are. -/
def bb (n : Nat) (f : Nat → Int × Int) (k : Nat) : Prop := ∀ i < n, lt2 (f i).1 (f i).2 k
abbrev hulls (f g : Nat → Int × Int) (i : Nat) : Int × Int := (min (f i).1 (g i).1, max (f i).2 (g i).2)
abbrev wide (f : Nat → Int × Int) (d : Nat → Int) (b : Nat) (i : Nat) : Int × Int := (rdn ((f i).1 + -((d i).natAbs : Int)) b, rup ((f i).2 + ((d i).natAbs : Int)) b)
/-- A span that passes the check. -/
def isS (a : SP) : Prop := isY a.1 ∧ isY a.2.1 ∧ S.dyad_Less (a.2.1, a.1, ()) = some (false, ())
/-- The greatest width of the first places. -/
def most (f : Nat → Int × Int) : Nat → Int
  | 0 => 0
  | i + 1 => max (most f i) ((f i).2 - (f i).1)
end Go.L

/-! ZG -/
namespace Go.L
open Go.PM
set_option exponentiation.threshold 20000
set_option linter.unusedVariables false
set_option linter.unusedSimpArgs false

/-- A dyad of the size that is tried. -/
def sz (n B : Nat) (d : DY) : Prop := d.1.2.1.length ≤ n ∧ -(B : Int) ≤ d.2.1 ∧ d.2.1 ≤ B
end Go.L

/-! ZH -/
namespace Go.L
open Go.PM
set_option exponentiation.threshold 20000
set_option linter.unusedVariables false
set_option linter.unusedSimpArgs false

end Go.L
