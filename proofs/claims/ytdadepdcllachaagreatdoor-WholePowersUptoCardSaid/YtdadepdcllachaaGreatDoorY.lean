/-
  e to a power: sums of rationals, and what is left behind fifteen terms. Tables of spans: turned, times each other, together. Tables of spans: how great their numbers are, and what they hold. The sums of fifteen terms: what they hold, and how great they are. The sums with what is left behind them, on a coarser grid. The enclosures of a table's exponential.
  No condition beyond those that each theorem names.
-/
import Derived.Test.YtdadepdcllachaaGreatDoorX

/-! EB -/
namespace Go.L
open Go.PM
set_option linter.unusedVariables false
set_option linter.unusedSimpArgs false

/-- How many ways there are to take j out of M. -/
def bin : Nat → Nat → Nat
  | _, 0 => 1
  | 0, _ + 1 => 0
  | M + 1, j + 1 => bin M j + bin M (j + 1)
theorem bin_zero (M : Nat) : bin M 0 = 1 := by cases M <;> rfl
theorem bin_mul : ∀ (M j : Nat), (j + 1) * bin M (j + 1) + j * bin M j = M * bin M j
  | 0, 0 => rfl
  | 0, j + 1 => by simp [bin]
  | M + 1, 0 => by
    have h := bin_mul M 0
    have e : bin (M + 1) (0 + 1) = bin M 0 + bin M (0 + 1) := rfl
    rw [e]
    simp only [bin_zero] at h ⊢
    omega
  | M + 1, j + 1 => by
    have h1 := bin_mul M j
    have h2 := bin_mul M (j + 1)
    have e1 : bin (M + 1) (j + 1 + 1) = bin M (j + 1) + bin M (j + 1 + 1) := rfl
    have e2 : bin (M + 1) (j + 1) = bin M j + bin M (j + 1) := rfl
    rw [e1, e2]
    grind
theorem bin_rat (M j : Nat) : ((j : Rat) + 1) * (bin M (j + 1) : Rat) = ((M : Rat) - j) * (bin M j : Rat) := by
  have h := congrArg (fun n : Nat => (n : Rat)) (bin_mul M j)
  simp only [Rat.natCast_add, Rat.natCast_mul] at h
  have e : ((1 : Nat) : Rat) = 1 := rfl
  grind
theorem pow_step (z : Rat) (M : Nat) : ∀ k, sumQ (fun j => (bin (M + 1) j : Rat) * z ^ j) (k + 1) = sumQ (fun j => (bin M j : Rat) * z ^ j) (k + 1) + z * sumQ (fun j => (bin M j : Rat) * z ^ j) k
  | 0 => by simp only [sumQ, bin_zero]; grind
  | k + 1 => by
    have ih := pow_step z M k
    have e2 : bin (M + 1) (k + 1) = bin M k + bin M (k + 1) := rfl
    have h1 : sumQ (fun j => (bin (M + 1) j : Rat) * z ^ j) (k + 1 + 1) = sumQ (fun j => (bin (M + 1) j : Rat) * z ^ j) (k + 1) + (bin (M + 1) (k + 1) : Rat) * z ^ (k + 1) := rfl
    have h2 : sumQ (fun j => (bin M j : Rat) * z ^ j) (k + 1 + 1) = sumQ (fun j => (bin M j : Rat) * z ^ j) (k + 1) + (bin M (k + 1) : Rat) * z ^ (k + 1) := rfl
    have h3 : sumQ (fun j => (bin M j : Rat) * z ^ j) (k + 1) = sumQ (fun j => (bin M j : Rat) * z ^ j) k + (bin M k : Rat) * z ^ k := rfl
    rw [h1, h2, ih, e2, Rat.natCast_add, Rat.pow_succ]
    grind
theorem pow_sum (z : Rat) : ∀ M k, M < k → sumQ (fun j => (bin M j : Rat) * z ^ j) k = (1 + z) ^ M
  | 0, 0, h => by omega
  | 0, k + 1, _ => by
    induction k with
    | zero => simp only [sumQ, bin_zero]; grind
    | succ k ih =>
      have h1 : sumQ (fun j => (bin 0 j : Rat) * z ^ j) (k + 1 + 1) = sumQ (fun j => (bin 0 j : Rat) * z ^ j) (k + 1) + (bin 0 (k + 1) : Rat) * z ^ (k + 1) := rfl
      have e : bin 0 (k + 1) = 0 := rfl
      rw [h1, ih (by omega), e]
      have : ((0 : Nat) : Rat) = 0 := rfl
      grind
  | M + 1, 0, h => by omega
  | M + 1, k + 1, h => by
    rw [pow_step, pow_sum z M (k + 1) (by omega), pow_sum z M k (by omega), Rat.pow_succ]
    grind
theorem rpow_add (x : Rat) (m : Nat) : ∀ n, x ^ (m + n) = x ^ m * x ^ n
  | 0 => by rw [Nat.add_zero, Rat.pow_zero, Rat.mul_one]
  | n + 1 => by rw [show m + (n + 1) = m + n + 1 by omega, Rat.pow_succ, rpow_add x m n, Rat.pow_succ, Rat.mul_assoc]
/-- 1 and 1 + z and so on, so many together. -/
def geo (z : Rat) (M : Nat) : Rat := sumQ (fun i => (1 + z) ^ i) M
theorem geo_sum (z : Rat) : ∀ M k, M ≤ k → sumQ (fun j => (bin M (j + 1) : Rat) * z ^ j) k = geo z M
  | 0, k, _ => by
    rw [sumQ_zero fun i _ => ?_]
    · rfl
    · have e : bin 0 (i + 1) = 0 := rfl
      rw [e]
      have : ((0 : Nat) : Rat) = 0 := rfl
      grind
  | M + 1, k, h => by
    have e : ∀ j, (bin (M + 1) (j + 1) : Rat) * z ^ j = (bin M (j + 1) : Rat) * z ^ j + (bin M j : Rat) * z ^ j := by
      intro j
      have e2 : bin (M + 1) (j + 1) = bin M j + bin M (j + 1) := rfl
      rw [e2, Rat.natCast_add]; grind
    rw [sumQ_congr (fun j _ => e j), sumQ_add, geo_sum z M k (by omega), pow_sum z M k (by omega)]
    rfl
theorem geo_add (z : Rat) (M : Nat) : ∀ K, geo z (M + K) = geo z M + (1 + z) ^ M * geo z K
  | 0 => by simp only [geo, sumQ, Nat.add_zero]; grind
  | K + 1 => by
    have ih := geo_add z M K
    have h1 : geo z (M + (K + 1)) = geo z (M + K) + (1 + z) ^ (M + K) := rfl
    have h2 : geo z (K + 1) = geo z K + (1 + z) ^ K := rfl
    rw [h1, h2, ih, rpow_add]
    grind
theorem geo_two (z : Rat) (M : Nat) : geo z (2 * M) = geo z M + (1 + z) ^ M * geo z M := by
  rw [show 2 * M = M + M by omega]; exact geo_add z M M
theorem pow_two_ (z : Rat) (M : Nat) : (1 + z) ^ (2 * M) = (1 + z) ^ M * (1 + z) ^ M := by
  rw [show 2 * M = M + M by omega]; exact rpow_add _ _ _

/-- The terms of a power's sum (d = 0), and of the same behind one term (d = 1). -/
def wt (d : Nat) (y : Rat) : Nat → Rat
  | 0 => 1
  | j + 1 => wt d y j * y / ((j : Rat) + 1 + d)
/-- No less than any of them. -/
def wc : Nat → Rat
  | 0 => 1
  | j + 1 => wc j / (2 * ((j : Rat) + 1))
theorem nn (j : Nat) : (0 : Rat) ≤ (j : Rat) := Rat.natCast_nonneg
theorem wt_step (d : Nat) (y : Rat) (j : Nat) : wt d y (j + 1) * ((j : Rat) + 1 + d) = wt d y j * y := by
  have h1 := nn j
  have h2 := nn d
  simp only [wt]
  exact Rat.div_mul_cancel (by grind)
theorem le_of_mul {a b c : Rat} (hc : 0 < c) (h : a * c ≤ b * c) : a ≤ b := by
  rcases Rat.le_total (a := a) (b := b) with h' | h'
  · exact h'
  · by_cases e : a = b
    · grind
    · have : b * c < a * c := Rat.mul_lt_mul_of_pos_right (by grind) hc
      grind
theorem mul_nn {a b : Rat} (h1 : 0 ≤ a) (h2 : 0 ≤ b) : 0 ≤ a * b := Rat.mul_nonneg h1 h2
theorem wt_pos {d : Nat} {y : Rat} (h0 : 0 ≤ y) : ∀ j, 0 ≤ wt d y j
  | 0 => by simp only [wt]; decide
  | j + 1 => by
    have h1 := nn j
    have h2 := nn d
    refine le_of_mul (c := (j : Rat) + 1 + d) (by grind) ?_
    rw [wt_step]
    have := mul_nn (wt_pos (d := d) h0 j) h0
    grind
theorem wt_le {d : Nat} {y : Rat} (h0 : 0 ≤ y) (h1 : y ≤ 1 / 2) : ∀ j, wt d y j ≤ wc j
  | 0 => by simp only [wt, wc]; exact Rat.le_refl
  | j + 1 => by
    have h2 := nn j
    have h3 := nn d
    have ih := wt_le (d := d) h0 h1 j
    have hp := wt_pos (d := d) h0 j
    have hs := wt_step d y j
    have hp1 := wt_pos (d := d) h0 (j + 1)
    refine le_of_mul (c := 2 * ((j : Rat) + 1)) (by grind) ?_
    have e : wc (j + 1) * (2 * ((j : Rat) + 1)) = wc j := Rat.div_mul_cancel (by grind)
    rw [e]
    have k1 : wt d y j * y ≤ wt d y j * (1 / 2) := Rat.mul_le_mul_of_nonneg_left h1 hp
    have k2 : 0 ≤ wt d y (j + 1) * (d : Rat) := mul_nn hp1 h3
    grind
theorem wc_one : ∀ j, 0 ≤ wc j ∧ wc j ≤ 1
  | 0 => by simp only [wc]; decide
  | j + 1 => by
    obtain ⟨a, b⟩ := wc_one j
    have h2 := nn j
    have e : wc (j + 1) * (2 * ((j : Rat) + 1)) = wc j := Rat.div_mul_cancel (by grind)
    refine ⟨le_of_mul (c := 2 * ((j : Rat) + 1)) (by grind) (by rw [e]; grind), le_of_mul (c := 2 * ((j : Rat) + 1)) (by grind) (by rw [e]; grind)⟩
theorem wt_two (y : Rat) : ∀ j, wt 1 y j * ((j : Rat) + 1) = wt 0 y j
  | 0 => by simp only [wt]; have : ((0 : Nat) : Rat) = 0 := rfl; grind
  | j + 1 => by
    have ih := wt_two y j
    have h2 := nn j
    have s1 := wt_step 1 y j
    have s0 := wt_step 0 y j
    have c1 : ((1 : Nat) : Rat) = 1 := rfl
    have c0 : ((0 : Nat) : Rat) = 0 := rfl
    rw [c1] at s1
    rw [c0] at s0
    have e : ((j + 1 : Nat) : Rat) = (j : Rat) + 1 := by rw [Rat.natCast_add]; rfl
    have k : wt 1 y (j + 1) * ((j : Rat) + 1 + 1) * ((j : Rat) + 1) = wt 0 y (j + 1) * ((j : Rat) + 1) := by grind
    rw [e]
    have hp : 0 < (j : Rat) + 1 := by grind
    have k' : wt 1 y (j + 1) * ((j : Rat) + 1 + 1) * ((j : Rat) + 1) = wt 0 y (j + 1) * ((j : Rat) + 1) := k
    exact Rat.le_antisymm (le_of_mul hp (by rw [k']; exact Rat.le_refl)) (le_of_mul hp (by rw [k']; exact Rat.le_refl))

/-- Terms that are nearly those of a power's sum. -/
structure Seq (M d : Nat) (y : Rat) (a : Nat → Rat) : Prop where
  zero : a 0 = 1
  pos : ∀ j, 0 ≤ a j
  step : ∀ j : Nat, a (j + 1) * ((j : Rat) + 1 + d) * M = ((M : Rat) - j - d) * y * a j
section
variable {M d : Nat} {y : Rat} {a : Nat → Rat}
theorem Seq.le (h : Seq M d y a) (hM : 0 < M) (h0 : 0 ≤ y) : ∀ j, a j ≤ wt d y j
  | 0 => by rw [h.zero]; simp only [wt]; exact Rat.le_refl
  | j + 1 => by
    have ih := h.le hM h0 j
    have hm : (0 : Rat) < (M : Rat) := by have := Rat.natCast_lt_natCast.2 hM; exact this
    have h1 := nn j
    have h2 := nn d
    have hp : (0 : Rat) < ((j : Rat) + 1 + d) * M := Rat.mul_pos (by grind) hm
    refine le_of_mul hp ?_
    have hs := h.step j
    have hw := wt_step d y j
    have k1 : y * a j ≤ y * wt d y j := Rat.mul_le_mul_of_nonneg_left ih h0
    have k2 := mul_nn h0 (h.pos j)
    have k3 : (M : Rat) * (y * a j) ≤ (M : Rat) * (y * wt d y j) := Rat.mul_le_mul_of_nonneg_left k1 (Rat.le_of_lt hm)
    have k4 : 0 ≤ ((j : Rat) + d) * (y * a j) := mul_nn (by grind) k2
    have e1 : a (j + 1) * (((j : Rat) + 1 + d) * M) = (M : Rat) * (y * a j) - ((j : Rat) + d) * (y * a j) := by
      rw [← Rat.mul_assoc, hs]; grind
    have e2 : wt d y (j + 1) * (((j : Rat) + 1 + d) * M) = (M : Rat) * (y * wt d y j) := by
      rw [← Rat.mul_assoc, hw]; grind
    rw [e1, e2]
    generalize (M : Rat) * (y * a j) = A at *
    generalize (M : Rat) * (y * wt d y j) = B at *
    generalize ((j : Rat) + d) * (y * a j) = C at *
    grind
theorem Seq.near (h : Seq M d y a) (hM : 0 < M) (h0 : 0 ≤ y) (hd : d ≤ 1) : ∀ j : Nat, (wt d y j - a j) * M ≤ (j : Rat) * ((j : Rat) + 1) * wt d y j
  | 0 => by rw [h.zero]; simp only [wt]; have : ((0 : Nat) : Rat) = 0 := rfl; grind
  | j + 1 => by
    have ih := h.near hM h0 hd j
    have hle := h.le hM h0 j
    have hm : (0 : Rat) < (M : Rat) := by have := Rat.natCast_lt_natCast.2 hM; exact this
    have h1 := nn j
    have h2 := nn d
    have h3 : (d : Rat) ≤ 1 := by have := Rat.natCast_le_natCast.2 hd; exact this
    have hp : (0 : Rat) < (j : Rat) + 1 + d := by grind
    refine le_of_mul hp ?_
    have hs := h.step j
    have hw := wt_step d y j
    have hwp := wt_pos (d := d) h0 j
    have e : ((j + 1 : Nat) : Rat) = (j : Rat) + 1 := by rw [Rat.natCast_add]; rfl
    rw [e]
    -- y (M (w - a) + (j + d) a) ≤ y (j + 1)(j + 1) w
    have k0 : ((j : Rat) + d) * a j ≤ ((j : Rat) + 1) * wt d y j := qmul_le (by grind) hle (h.pos j) (by grind)
    have k1 : y * ((wt d y j - a j) * M + ((j : Rat) + d) * a j) ≤ y * ((j : Rat) * ((j : Rat) + 1) * wt d y j + ((j : Rat) + 1) * wt d y j) := Rat.mul_le_mul_of_nonneg_left (by grind) h0
    have k2 : 0 ≤ ((j : Rat) + 1) * (y * wt d y j) := mul_nn (by grind) (mul_nn h0 hwp)
    have e1 : (wt d y (j + 1) - a (j + 1)) * (M : Rat) * ((j : Rat) + 1 + d) = y * ((wt d y j - a j) * M + ((j : Rat) + d) * a j) := by
      have q1 : (wt d y (j + 1) - a (j + 1)) * (M : Rat) * ((j : Rat) + 1 + d) = wt d y (j + 1) * ((j : Rat) + 1 + d) * M - a (j + 1) * ((j : Rat) + 1 + d) * M := by grind
      rw [q1, hw, hs]; grind
    have e2 : ((j : Rat) + 1) * ((j : Rat) + 1 + 1) * wt d y (j + 1) * ((j : Rat) + 1 + d) = ((j : Rat) + 1) * ((j : Rat) + 1 + 1) * (wt d y j * y) := by
      rw [← hw]; grind
    rw [e1, e2]
    refine Rat.le_trans k1 ?_
    have e3 : ((j : Rat) + 1) * ((j : Rat) + 1 + 1) * (wt d y j * y) - y * ((j : Rat) * ((j : Rat) + 1) * wt d y j + ((j : Rat) + 1) * wt d y j) = ((j : Rat) + 1) * (y * wt d y j) := by grind
    generalize ((j : Rat) + 1) * ((j : Rat) + 1 + 1) * (wt d y j * y) = A at *
    generalize y * ((j : Rat) * ((j : Rat) + 1) * wt d y j + ((j : Rat) + 1) * wt d y j) = B at *
    generalize ((j : Rat) + 1) * (y * wt d y j) = C at *
    grind
theorem Seq.half (h : Seq M d y a) (hM : 0 < M) (h0 : 0 ≤ y) (h1 : y ≤ 1 / 2) (j : Nat) : a (j + 1) * 2 ≤ a j := by
  have hm : (0 : Rat) < (M : Rat) := by have := Rat.natCast_lt_natCast.2 hM; exact this
  have hj := nn j
  have h2 := nn d
  have hp : (0 : Rat) < ((j : Rat) + 1 + d) * M := Rat.mul_pos (by grind) hm
  refine le_of_mul hp ?_
  have hs := h.step j
  have k1 : y * a j ≤ 1 / 2 * a j := Rat.mul_le_mul_of_nonneg_right h1 (h.pos j)
  have k3 : (M : Rat) * (y * a j) ≤ (M : Rat) * (1 / 2 * a j) := Rat.mul_le_mul_of_nonneg_left k1 (Rat.le_of_lt hm)
  have k4 : 0 ≤ ((j : Rat) + d) * (y * a j) := mul_nn (by grind) (mul_nn h0 (h.pos j))
  have k5 : 0 ≤ ((j : Rat) + d) * ((M : Rat) * a j) := mul_nn (by grind) (mul_nn (Rat.le_of_lt hm) (h.pos j))
  have e1 : a (j + 1) * 2 * (((j : Rat) + 1 + d) * M) = 2 * ((M : Rat) * (y * a j)) - 2 * (((j : Rat) + d) * (y * a j)) := by
    have q1 : a (j + 1) * 2 * (((j : Rat) + 1 + d) * M) = 2 * (a (j + 1) * ((j : Rat) + 1 + d) * M) := by grind
    rw [q1, hs]; grind
  have e2 : a j * (((j : Rat) + 1 + d) * M) = 2 * ((M : Rat) * (1 / 2 * a j)) + ((j : Rat) + d) * ((M : Rat) * a j) := by grind
  rw [e1, e2]
  generalize (M : Rat) * (y * a j) = A at *
  generalize (M : Rat) * (1 / 2 * a j) = B at *
  generalize ((j : Rat) + d) * (y * a j) = E at *
  generalize ((j : Rat) + d) * ((M : Rat) * a j) = F at *
  grind
theorem Seq.tail (h : Seq M d y a) (hM : 0 < M) (h0 : 0 ≤ y) (h1 : y ≤ 1 / 2) (k : Nat) : ∀ i, sumQ a (k + i) + a (k + i) * 2 ≤ sumQ a k + a k * 2
  | 0 => Rat.le_refl
  | i + 1 => by
    have ih := h.tail hM h0 h1 k i
    have hh := h.half hM h0 h1 (k + i)
    have e : sumQ a (k + (i + 1)) = sumQ a (k + i) + a (k + i) := rfl
    rw [e, show k + (i + 1) = k + i + 1 by omega]
    grind
theorem sumQ_grow {a : Nat → Rat} (h : ∀ j, 0 ≤ a j) (k : Nat) : ∀ i, sumQ a k ≤ sumQ a (k + i)
  | 0 => Rat.le_refl
  | i + 1 => by
    have ih := sumQ_grow h k i
    have e : sumQ a (k + (i + 1)) = sumQ a (k + i) + a (k + i) := rfl
    have := h (k + i)
    rw [e]; grind
theorem Seq.sum (h : Seq M d y a) (hM : 2 ^ 70 ≤ M) (h0 : 0 ≤ y) (h1 : y ≤ 1 / 2) (hd : d ≤ 1) (i : Nat) : sumQ (wt d y) 15 - 1 / 18014398509481984 ≤ sumQ a (15 + i) ∧ sumQ a (15 + i) ≤ sumQ (wt d y) 15 + 1 / 18014398509481984 := by
  have hM0 : 0 < M := Nat.lt_of_lt_of_le (Nat.pow_pos (by decide)) hM
  have hm : (0 : Rat) < (M : Rat) := by have := Rat.natCast_lt_natCast.2 hM0; exact this
  have hm2 : (1180591620717411303424 : Rat) ≤ (M : Rat) := by
    have := Rat.natCast_le_natCast.2 hM
    rw [show (2 ^ 70 : Nat) = 1180591620717411303424 by decide] at this
    exact this
  constructor
  · have k1 := sumQ_grow h.pos 15 i
    have k2 : (sumQ (wt d y) 15 - sumQ a 15) * M ≤ 3600 := by
      have key : ∀ k : Nat, k ≤ 15 → (sumQ (wt d y) k - sumQ a k) * M ≤ (k : Rat) * 240 := by
        intro k
        induction k with
        | zero => intro _; simp only [sumQ]; have : ((0 : Nat) : Rat) = 0 := rfl; grind
        | succ k ih =>
          intro hk
          have ih := ih (by omega)
          have hn := h.near hM0 h0 hd k
          have hw1 := wt_le (d := d) h0 h1 k
          have hw2 := (wc_one k).2
          have hw0 := wt_pos (d := d) h0 k
          have hk1 : (k : Rat) ≤ 14 := by have := Rat.natCast_le_natCast.2 (show k ≤ 14 by omega); exact this
          have hk0 := nn k
          have e1 : (k : Rat) * ((k : Rat) + 1) ≤ 14 * 15 := qmul_le hk1 (by grind) (by grind) (by decide)
          have e2 : (k : Rat) * ((k : Rat) + 1) * wt d y k ≤ 14 * 15 * 1 := qmul_le e1 (by grind) hw0 (by decide +kernel)
          have e : ((k + 1 : Nat) : Rat) = (k : Rat) + 1 := by rw [Rat.natCast_add]; rfl
          have s1 : sumQ (wt d y) (k + 1) = sumQ (wt d y) k + wt d y k := rfl
          have s2 : sumQ a (k + 1) = sumQ a k + a k := rfl
          rw [e, s1, s2]
          grind
      have := key 15 (by omega)
      have e : ((15 : Nat) : Rat) * 240 = 3600 := by decide +kernel
      rw [e] at this; exact this
    have k3 : sumQ (wt d y) 15 - sumQ a 15 ≤ 1 / 18014398509481984 := by
      refine le_of_mul hm (Rat.le_trans k2 ?_)
      have : (1 / 18014398509481984 : Rat) * 1180591620717411303424 ≤ 1 / 18014398509481984 * M := Rat.mul_le_mul_of_nonneg_left hm2 (by decide +kernel)
      refine Rat.le_trans ?_ this
      decide +kernel
    grind
  · have k1 := h.tail hM0 h0 h1 15 i
    have k2 := h.pos (15 + i)
    have k3 := h.le hM0 h0 15
    have k4 := wt_le (d := d) h0 h1 15
    have k5 : wc 15 * 2 ≤ 1 / 18014398509481984 := by decide +kernel
    have k6 : sumQ a 15 ≤ sumQ (wt d y) 15 := sumQ_le fun j _ => h.le hM0 h0 j
    grind
end
theorem seq0 {M : Nat} {y : Rat} (hM : 0 < M) (h0 : 0 ≤ y) : Seq M 0 y (fun j => (bin M j : Rat) * (y / M) ^ j) := by
  have hm : (0 : Rat) < (M : Rat) := by have := Rat.natCast_lt_natCast.2 hM; exact this
  have hz : y / M * M = y := Rat.div_mul_cancel (by grind)
  have hz0 : 0 ≤ y / M := by
    refine le_of_mul hm ?_
    rw [hz]; grind
  refine ⟨?_, fun j => mul_nn (nn _) (Rat.pow_nonneg hz0), fun j => ?_⟩
  · show (bin M 0 : Rat) * (y / M) ^ 0 = 1
    rw [bin_zero]; have : ((1 : Nat) : Rat) = 1 := rfl; grind
  · have hb := bin_rat M j
    have c0 : ((0 : Nat) : Rat) = 0 := rfl
    rw [Rat.pow_succ]
    generalize (y / M) ^ j = p at *
    generalize y / M = z at *
    grind
theorem seq1 {M : Nat} {y : Rat} (hM : 0 < M) (h0 : 0 ≤ y) : Seq M 1 y (fun j => (bin M (j + 1) : Rat) * (y / M) ^ j / M) := by
  have hm : (0 : Rat) < (M : Rat) := by have := Rat.natCast_lt_natCast.2 hM; exact this
  have hz : y / M * M = y := Rat.div_mul_cancel (by grind)
  have hz0 : 0 ≤ y / M := by
    refine le_of_mul hm ?_
    rw [hz]; grind
  have hc : ∀ q : Rat, q / M * M = q := fun q => Rat.div_mul_cancel (by grind)
  refine ⟨?_, fun j => ?_, fun j => ?_⟩
  · show (bin M (0 + 1) : Rat) * (y / M) ^ 0 / M = 1
    have hb := bin_rat M 0
    rw [bin_zero] at hb
    have c1 : ((1 : Nat) : Rat) = 1 := rfl
    have c0 : ((0 : Nat) : Rat) = 0 := rfl
    have e : (bin M (0 + 1) : Rat) * (y / M) ^ 0 = M := by grind
    rw [e, Rat.div_def]; exact Rat.mul_inv_cancel _ (by grind)
  · refine le_of_mul hm ?_
    rw [hc]
    have := mul_nn (nn (bin M (j + 1))) (Rat.pow_nonneg (n := j) hz0)
    grind
  · have hb := bin_rat M (j + 1)
    have c1 : ((1 : Nat) : Rat) = 1 := rfl
    have e : ((j + 1 : Nat) : Rat) = (j : Rat) + 1 := by rw [Rat.natCast_add]; rfl
    have h1 := hc ((bin M (j + 1 + 1) : Rat) * (y / M) ^ (j + 1))
    have h2 := hc ((bin M (j + 1) : Rat) * (y / M) ^ j)
    rw [Rat.pow_succ] at h1 ⊢
    generalize (y / M) ^ j = p at *
    generalize y / M = z at *
    generalize (bin M (j + 1 + 1) : Rat) * (p * z) / M = A at *
    generalize (bin M (j + 1) : Rat) * p / M = B at *
    grind
/-- The powers' sums are near to fifteen terms. -/
theorem expo_near {M : Nat} {y : Rat} (hM : 2 ^ 70 ≤ M) (h0 : 0 ≤ y) (h1 : y ≤ 1 / 2) :
    (sumQ (wt 0 y) 15 - 1 / 18014398509481984 ≤ (1 + y / M) ^ M ∧ (1 + y / M) ^ M ≤ sumQ (wt 0 y) 15 + 1 / 18014398509481984) ∧
    (sumQ (wt 1 y) 15 - 1 / 18014398509481984 ≤ geo (y / M) M / M ∧ geo (y / M) M / M ≤ sumQ (wt 1 y) 15 + 1 / 18014398509481984) := by
  have hM0 : 0 < M := Nat.lt_of_lt_of_le (Nat.pow_pos (by decide)) hM
  have a0 := (seq0 hM0 h0).sum hM h0 h1 (by omega) (M + 1)
  have a1 := (seq1 hM0 h0).sum hM h0 h1 (by omega) (M + 1)
  rw [pow_sum (y / M) M (15 + (M + 1)) (by omega)] at a0
  have e : sumQ (fun j => (bin M (j + 1) : Rat) * (y / M) ^ j / M) (15 + (M + 1)) = geo (y / M) M / M := by
    rw [← geo_sum (y / M) M (15 + (M + 1)) (by omega)]
    generalize y / M = z
    rw [Rat.div_def (sumQ _ _), Rat.mul_comm (sumQ _ _), ← sumQ_mul]
    exact sumQ_congr fun j _ => by rw [Rat.div_def, Rat.mul_comm]
  rw [e] at a1
  exact ⟨a0, a1⟩
end Go.L

/-! EC -/
namespace Go.L
open Go.PM
set_option exponentiation.threshold 20000
set_option linter.unusedVariables false
set_option linter.unusedSimpArgs false

/-- Rows that are whole, and one of which some places stand. -/
def Ox {β : Type} (n m : Nat) (g : Nat → Nat → β) (i j : Nat) : List (List β) := Vx n fun p => if p < i then Vx m (g p) else if p = i then Vx j (g p) else []
theorem Ox_start {β : Type} (n m : Nat) (g : Nat → Nat → β) : Ox n m g 0 0 = List.replicate n [] := by
  apply List.ext_getElem
  · simp [Ox, Vx]
  · intro i h1 h2
    simp [Ox, Vx]
theorem Ox_next {β : Type} (n m : Nat) (g : Nat → Nat → β) (i : Nat) : Ox n m g i m = Ox n m g (i + 1) 0 := Vx_congr fun p _ => by
  by_cases h : p < i
  · rw [if_pos h, if_pos (by omega)]
  · by_cases h' : p = i
    · subst h'; rw [if_neg h, if_pos rfl, if_pos (by omega)]
    · rw [if_neg h, if_neg h', if_neg (by omega)]
      by_cases h'' : p = i + 1
      · rw [if_pos h'']; rfl
      · rw [if_neg h'']
theorem Ox_full {β : Type} (n m : Nat) (g : Nat → Nat → β) : Ox n m g n 0 = Vx n fun i => Vx m (g i) := Vx_congr fun p hp => by rw [if_pos hp]
theorem Ox_len {β : Type} (n m : Nat) (g : Nat → Nat → β) (i j : Nat) : (Ox n m g i j).length = n := Vx_len _ _
theorem Ox_get {β : Type} {n m : Nat} {g : Nat → Nat → β} {i j : Nat} (h : i < n) : (Ox n m g i j).getD i [] = Vx j (g i) := by
  unfold Ox; rw [Vx_get h, if_neg (by omega), if_pos rfl]
theorem Ox_app {β : Type} {n m : Nat} {g : Nat → Nat → β} {i j : Nat} (h : i < n) : (Ox n m g i j).set i (Vx j (g i) ++ [g i j]) = Ox n m g i (j + 1) := by
  unfold Ox
  rw [Vx_set h]
  refine Vx_congr fun p hp => ?_
  by_cases e : p = i
  · subst e; rw [if_pos rfl, if_neg (by omega), if_pos rfl, Vx_succ]
  · rw [if_neg e]
    by_cases h' : p < i
    · rw [if_pos h', if_pos h']
    · rw [if_neg h', if_neg e, if_neg h', if_neg e]

theorem shape_V {n m : Nat} {g : Nat → Nat → SP} (hn1 : 1 ≤ n) (hn : n ≤ 16) : S.mat_grid_api_Span_shape (Vx n (fun i => Vx m (g i)), ()) = some ((n : Int), (m : Int), 0, ()) := by
  simp only [S.mat_grid_api_Span_shape, L.mat_grid_api_Span_shape, mat_grid_api_Span_shape_b, Vx_len]
  rw [cf (by omega)]
  refine loop_up n (fun _ => ()) (fun k s i => mat_grid_api_Span_shape_l0 100 k (Vx n (fun i => Vx m (g i))) (Vx n (fun i => Vx m (g i))) (n : Int) i) _ (fun k' i hi => ?_) (fun k' => ?_) 100 (by omega)
  · simp only [mat_grid_api_Span_shape_l0, mat_grid_api_Span_shape_s0, Vx_len]
    rw [ct (by omega), ct (by omega), ct (by omega), ct (by omega), Int.toNat_natCast, Vx_get hi, Vx_get (show 0 < n by omega), Vx_len, Vx_len, wi1 (by omega)]
    simp only [decide_true, Bool.not_true, cond_false]
  · simp only [mat_grid_api_Span_shape_l0, mat_grid_api_Span_shape_s0, Vx_len]
    rw [cf (by omega), ct (by omega), Vx_get (show 0 < n by omega), Vx_len]
theorem turn_V {n m : Nat} {g : Nat → Nat → SP} (hn1 : 1 ≤ n) (hn : n ≤ 16) (hm : m ≤ 16) : S.mat_turn_api_Span (Vx n (fun i => Vx m (g i)), ()) = some (Vx m (fun i => Vx n (fun j => g j i)), 0, ()) := by
  simp only [S.mat_turn_api_Span, L.mat_turn_api_Span, mat_turn_api_Span_b]
  rw [shape_V hn1 hn, Option.bind_some]
  simp only [decide_true, Bool.not_true, cond_false]
  rw [ct (by omega), ct (by omega), Int.toNat_natCast, List.length_replicate, ← Ox_start m n (fun i j => g j i)]
  refine loop_up m (fun i => Ox m n (fun i j => g j i) i 0) (fun k s i => mat_turn_api_Span_l0 100 k (Vx n (fun i => Vx m (g i))) s (m : Int) i) _ (fun k' i hi => ?_) (fun k' => ?_) 100 (by omega)
  · simp only [mat_turn_api_Span_l0, mat_turn_api_Span_s0, Vx_len]
    rw [ct (by omega)]
    refine loop_up n (fun j => Ox m n (fun i j => g j i) i j) (fun k s j => mat_turn_api_Span_l1 100 (mat_turn_api_Span_l0 100 k') k (Vx n (fun i => Vx m (g i))) s (i : Int) (m : Int) (i : Int) (Vx n (fun i => Vx m (g i))) (n : Int) j) _ (fun k j hj => ?_) (fun k => ?_) 100 (by omega)
    · simp only [mat_turn_api_Span_l1, mat_turn_api_Span_s1, Vx_len, Ox_len]
      rw [ct (by omega), ct (by omega), ct (by omega), ct (by omega), ct (by omega), ct (by omega), Int.toNat_natCast, Int.toNat_natCast, Vx_get hj, Vx_len, ct (by omega), Vx_get hi, Ox_get hi, Vx_len, List.length_singleton, ct (by omega), ct (by omega), ct (by omega), ct trivial, wi1 (by omega)]
      exact congrArg (fun s => mat_turn_api_Span_l1 100 (mat_turn_api_Span_l0 100 k') k (Vx n (fun i => Vx m (g i))) s (i : Int) (m : Int) (i : Int) (Vx n (fun i => Vx m (g i))) (n : Int) ((j + 1 : Nat) : Int)) (Ox_app (g := fun i j => g j i) hi)
    · simp only [mat_turn_api_Span_l1, mat_turn_api_Span_s1]
      rw [cf (by omega), Ox_next, wi1 (by omega)]
  · simp only [mat_turn_api_Span_l0, mat_turn_api_Span_s0]
    rw [cf (by omega), Ox_full]
theorem Times_V {n : Nat} {f g : Nat → Nat → SP} {h : Nat → Nat → SP} {b : Nat} (hn1 : 1 ≤ n) (hn : n ≤ 16) (hi : ∀ i < n, ∀ j < n, S.vec_Inner (Vx n (f i), Vx n (fun k => g k j), (b : Int), ()) = some (h i j, 0, ())) :
    S.mat_Times (Vx n (fun i => Vx n (f i)), Vx n (fun i => Vx n (g i)), (b : Int), ()) = some (Vx n (fun i => Vx n (h i)), 0, ()) := by
  simp only [S.mat_Times, L.mat_Times, mat_Times_b]
  rw [turn_V hn1 hn hn, Option.bind_some]
  simp only [decide_true, Bool.not_true, cond_false]
  rw [shape_V hn1 hn, Option.bind_some]
  simp only [decide_true, Bool.not_true, cond_false, Vx_len]
  rw [ct (by omega), ct (by omega), ← Ox_start n n h]
  refine loop_up n (fun i => Ox n n h i 0) (fun k s i => mat_Times_l0 100 k (b : Int) (Vx n (fun i => Vx n (fun j => g j i))) s (Vx n (fun i => Vx n (f i))) (n : Int) i) _ (fun k' i hi' => ?_) (fun k' => ?_) 100 (by omega)
  · simp only [mat_Times_l0, mat_Times_s0, Vx_len]
    rw [ct (by omega), ct (by omega), ct (by omega), Int.toNat_natCast, Vx_get hi']
    refine loop_up n (fun j => Ox n n h i j) (fun k s j => mat_Times_l1 100 (mat_Times_l0 100 k') k (b : Int) (Vx n (fun i => Vx n (fun j => g j i))) s (i : Int) (Vx n (f i)) (Vx n (fun i => Vx n (f i))) (n : Int) (i : Int) (Vx n (fun i => Vx n (fun j => g j i))) (n : Int) j) _ (fun k j hj => ?_) (fun k => ?_) 100 (by omega)
    · simp only [mat_Times_l1, mat_Times_s1, Vx_len, Ox_len]
      rw [ct (by omega), ct (by omega), ct (by omega), Int.toNat_natCast, Int.toNat_natCast, Vx_get hj, hi i hi' j hj, Option.bind_some]
      simp only [decide_true, Bool.not_true, cond_false]
      rw [ct (by omega), ct (by omega), Ox_get hi', Vx_len, List.length_singleton, ct (by omega), ct (by omega), ct (by omega), cond_true, wi1 (by omega)]
      exact congrArg (fun s => mat_Times_l1 100 (mat_Times_l0 100 k') k (b : Int) (Vx n (fun i => Vx n (fun j => g j i))) s (i : Int) (Vx n (f i)) (Vx n (fun i => Vx n (f i))) (n : Int) (i : Int) (Vx n (fun i => Vx n (fun j => g j i))) (n : Int) ((j + 1 : Nat) : Int)) (Ox_app (g := h) hi')
    · simp only [mat_Times_l1, mat_Times_s1]
      rw [cf (by omega), Ox_next, wi1 (by omega)]
  · simp only [mat_Times_l0, mat_Times_s0]
    rw [cf (by omega), Ox_full]
theorem Plus_V {n : Nat} {a b c : Nat → List SP} {q : Nat} (hn : n ≤ 16) (h : ∀ i < n, S.vec_Plus (a i, b i, (q : Int), ()) = some (c i, 0, ())) : S.mat_Plus (Vx n a, Vx n b, (q : Int), ()) = some (Vx n c, 0, ()) := by
  simp only [S.mat_Plus, L.mat_Plus, mat_Plus_b, Vx_len, decide_true, Bool.not_true, cond_false]
  rw [ct (by omega), ct (by omega), ← Gx_zero n _ c]
  refine loop_up n (Gx n _ c) (fun k s i => mat_Plus_l0 100 k (Vx n a) (Vx n b) (q : Int) s (n : Int) i) _ (fun k' i hi => ?_) (fun k => ?_) 100 (by omega)
  · simp only [mat_Plus_l0, mat_Plus_s0, Vx_len, Gx_len]
    rw [ct (by omega), ct (by omega), ct (by omega), ct (by omega), ct (by omega), Int.toNat_natCast, Vx_get hi, Vx_get hi, h i hi, Option.bind_some]
    simp only [decide_true, Bool.not_true, cond_false]
    rw [ct (by omega), ct (by omega), wi1 (by omega), Gx_set _ _ hi]
  · simp only [mat_Plus_l0, mat_Plus_s0]
    rw [cf (by omega), Gx_full]
theorem vTimes_V {n : Nat} {f h : Nat → SP} {s : SP} {q : Nat} (hn : n ≤ 16) (hm : ∀ i < n, S.span_Mul (f i, s, (q : Int), ()) = some (h i, 0, ())) : S.vec_Times (Vx n f, s, (q : Int), ()) = some (Vx n h, 0, ()) := by
  simp only [S.vec_Times, L.vec_Times, vec_Times_b, Vx_len]
  rw [ct (by omega), ct (by omega), ← Gx_zero n _ h]
  refine loop_up n (Gx n _ h) (fun k u i => vec_Times_l0 100 k (q : Int) s.1.1.1 s.1.1.2.1 s.1.2.1 s.2.1.1.1 s.2.1.1.2.1 s.2.1.2.1 u (Vx n f) (n : Int) i) _ (fun k' i hi => ?_) (fun k => ?_) 100 (by omega)
  · simp only [vec_Times_l0, vec_Times_s0, Vx_len, Gx_len]
    rw [ct (by omega), ct (by omega), ct (by omega), Int.toNat_natCast, Vx_get hi]
    rw [show S.span_Mul _ = _ from hm i hi, Option.bind_some]
    simp only [decide_true, Bool.not_true, cond_false]
    rw [ct (by omega), ct (by omega), wi1 (by omega)]
    have hs := Gx_set (((false, ([], ())), (0, ())), (((false, ([], ())), (0, ())), ())) h hi
    exact congrArg (fun u => vec_Times_l0 100 k' (q : Int) s.1.1.1 s.1.1.2.1 s.1.2.1 s.2.1.1.1 s.2.1.1.2.1 s.2.1.2.1 u (Vx n f) (n : Int) ((i + 1 : Nat) : Int)) hs
  · simp only [vec_Times_l0, vec_Times_s0]
    rw [cf (by omega), Gx_full]
theorem Scaled_V {n : Nat} {a c : Nat → List SP} {s : SP} {q : Nat} (hn : n ≤ 16) (hm : ∀ i < n, S.vec_Times (a i, s, (q : Int), ()) = some (c i, 0, ())) : S.series_Scaled (Vx n a, s, (q : Int), ()) = some (Vx n c, 0, ()) := by
  simp only [S.series_Scaled, L.series_Scaled, series_Scaled_b, Vx_len]
  rw [ct (by omega), ct (by omega), ← Gx_zero n _ c]
  refine loop_up n (Gx n _ c) (fun k u i => series_Scaled_l0 100 k (q : Int) s.1.1.1 s.1.1.2.1 s.1.2.1 s.2.1.1.1 s.2.1.1.2.1 s.2.1.2.1 u (Vx n a) (n : Int) i) _ (fun k' i hi => ?_) (fun k => ?_) 100 (by omega)
  · simp only [series_Scaled_l0, series_Scaled_s0, Vx_len, Gx_len]
    rw [ct (by omega), ct (by omega), ct (by omega), Int.toNat_natCast, Vx_get hi]
    rw [show S.vec_Times _ = _ from hm i hi, Option.bind_some]
    simp only [decide_true, Bool.not_true, cond_false]
    rw [ct (by omega), ct (by omega), wi1 (by omega), Gx_set _ _ hi]
  · simp only [series_Scaled_l0, series_Scaled_s0]
    rw [cf (by omega), Gx_full]
theorem Even_V {n : Nat} {d : DY} {s : SP} (hn : n ≤ 16) (h : S.span_Even (d, ()) = some (s, ())) : S.mat_Even ((n : Int), d, ()) = some (Vx n (fun _ => Vx n (fun _ => s)), ()) := by
  have em : min (max (n : Int) 0) 16 = n := by omega
  simp only [S.mat_Even, L.mat_Even, mat_Even_b]
  rw [em, ct (by omega), ct (by omega), Int.toNat_natCast, List.length_replicate, ← Ox_start n n (fun _ _ => s)]
  refine loop_up n (fun i => Ox n n (fun _ _ => s) i 0) (fun k u i => mat_Even_l0 100 k d.1.1 d.1.2.1 d.2.1 u (n : Int) i) _ (fun k' i hi => ?_) (fun k' => ?_) 100 (by omega)
  · simp only [mat_Even_l0, mat_Even_s0, Ox_len]
    rw [ct (by omega)]
    refine loop_up n (fun j => Ox n n (fun _ _ => s) i j) (fun k u j => mat_Even_l1 100 (mat_Even_l0 100 k') k d.1.1 d.1.2.1 d.2.1 u (i : Int) (n : Int) (i : Int) (n : Int) j) _ (fun k j hj => ?_) (fun k => ?_) 100 (by omega)
    · simp only [mat_Even_l1, mat_Even_s1, Ox_len]
      rw [ct (by omega), ct (by omega), ct (by omega), show S.span_Even _ = _ from h, Option.bind_some, Int.toNat_natCast, Ox_get hi, Vx_len, List.length_singleton, ct (by omega), ct (by omega), ct (by omega), ct trivial, wi1 (by omega)]
      exact congrArg (fun u => mat_Even_l1 100 (mat_Even_l0 100 k') k d.1.1 d.1.2.1 d.2.1 u (i : Int) (n : Int) (i : Int) (n : Int) ((j + 1 : Nat) : Int)) (Ox_app (g := fun _ _ => s) hi)
    · simp only [mat_Even_l1, mat_Even_s1]
      rw [cf (by omega), Ox_next, wi1 (by omega)]
  · simp only [mat_Even_l0, mat_Even_s0]
    rw [cf (by omega), Ox_full]
theorem Near_V {n : Nat} {a : Nat → List RT} {c : Nat → List SP} {q : Nat} (hn : n ≤ 16) (h : ∀ i < n, S.vec_Near (a i, (q : Int), ()) = some (c i, 0, ())) : S.mat_Near (Vx n a, (q : Int), ()) = some (Vx n c, 0, ()) := by
  simp only [S.mat_Near, L.mat_Near, mat_Near_b, Vx_len]
  rw [ct (by omega), ct (by omega), ← Gx_zero n _ c]
  refine loop_up n (Gx n _ c) (fun k u i => mat_Near_l0 100 k (q : Int) u (Vx n a) (n : Int) i) _ (fun k' i hi => ?_) (fun k => ?_) 100 (by omega)
  · simp only [mat_Near_l0, mat_Near_s0, Vx_len, Gx_len]
    rw [ct (by omega), ct (by omega), ct (by omega), Int.toNat_natCast, Vx_get hi, h i hi, Option.bind_some]
    simp only [decide_true, Bool.not_true, cond_false]
    rw [ct (by omega), ct (by omega), wi1 (by omega), Gx_set _ _ hi]
  · simp only [mat_Near_l0, mat_Near_s0]
    rw [cf (by omega), Gx_full]
theorem Scale_V {n : Nat} {a c : Nat → List RT} {t : RT} (hn : n ≤ 16) (h : ∀ i < n, S.vec_Scale (a i, t, ()) = some (c i, 0, ())) : S.mat_Scale (Vx n a, t, ()) = some (Vx n c, 0, ()) := by
  simp only [S.mat_Scale, L.mat_Scale, mat_Scale_b, Vx_len]
  rw [ct (by omega), ct (by omega), ← Gx_zero n _ c]
  refine loop_up n (Gx n _ c) (fun k u i => mat_Scale_l0 100 k (Vx n a) t.1.1 t.1.2.1 t.2.1 u (n : Int) i) _ (fun k' i hi => ?_) (fun k => ?_) 100 (by omega)
  · simp only [mat_Scale_l0, mat_Scale_s0, Vx_len, Gx_len]
    rw [ct (by omega), ct (by omega), ct (by omega), Int.toNat_natCast, Vx_get hi, show S.vec_Scale _ = _ from h i hi, Option.bind_some]
    simp only [decide_true, Bool.not_true, cond_false]
    rw [ct (by omega), ct (by omega), wi1 (by omega), Gx_set _ _ hi]
  · simp only [mat_Scale_l0, mat_Scale_s0]
    rw [cf (by omega), Gx_full]
end Go.L

/-! ED -/
namespace Go.L
open Go.PM
set_option exponentiation.threshold 20000
set_option linter.unusedVariables false
set_option linter.unusedSimpArgs false

theorem few_two (b t : Nat) : few b (2 ^ t) := ⟨1, t, by simp, by have : 0 < 2 ^ b := Nat.pow_pos (by decide); simp only [Int.natAbs_one]; omega⟩
theorem few_rdn {x : Int} {b : Nat} (hb : 1 ≤ b) (h : few b x) : rdn x b = x := Int.le_antisymm (rdn_le x b) (rdn_max hb h (Int.le_refl _))
theorem few_rup {x : Int} {b : Nat} (hb : 1 ≤ b) (h : few b x) : rup x b = x := Int.le_antisymm (rup_min hb h (Int.le_refl _)) (rup_ge x b)
theorem abs_two {x : Int} {t : Nat} : x.natAbs ≤ 2 ^ t ↔ -(2 ^ t : Int) ≤ x ∧ x ≤ 2 ^ t := by
  have e : ((2 ^ t : Nat) : Int) = 2 ^ t := by rw [Int.natCast_pow]; rfl
  constructor
  · intro h; have : ((x.natAbs : Nat) : Int) ≤ ((2 ^ t : Nat) : Int) := by exact_mod_cast h
    rw [e] at this; omega
  · intro h; rw [← e] at h; omega
theorem rdn_two {x : Int} {b t : Nat} (hb : 1 ≤ b) (h : x.natAbs ≤ 2 ^ t) : (rdn x b).natAbs ≤ 2 ^ t := by
  rw [abs_two] at h ⊢
  exact ⟨rdn_max hb (few_neg (few_two b t)) h.1, Int.le_trans (rdn_le x b) h.2⟩
theorem rup_two {x : Int} {b t : Nat} (hb : 1 ≤ b) (h : x.natAbs ≤ 2 ^ t) : (rup x b).natAbs ≤ 2 ^ t := by
  rw [abs_two] at h ⊢
  exact ⟨Int.le_trans h.1 (rup_ge x b), rup_min hb (few_two b t) h.2⟩
theorem rdn_nn {x : Int} {b : Nat} (hb : 1 ≤ b) (h : 0 ≤ x) : 0 ≤ rdn x b := rdn_max hb (few_zero b) h
theorem rdn_0 {b : Nat} (hb : 1 ≤ b) : rdn 0 b = 0 := few_rdn hb (few_zero b)
theorem rup_0 {b : Nat} (hb : 1 ≤ b) : rup 0 b = 0 := few_rup hb (few_zero b)

/-- A span's ends are no greater than a power of 2. -/
def sb (z : Int × Int) (t : Nat) : Prop := z.1.natAbs ≤ 2 ^ t ∧ z.2.natAbs ≤ 2 ^ t
theorem sb.up {z : Int × Int} {s t : Nat} (h : sb z s) (hst : s ≤ t) : sb z t := ⟨Nat.le_trans h.1 (Nat.pow_le_pow_right (by decide) hst), Nat.le_trans h.2 (Nat.pow_le_pow_right (by decide) hst)⟩
theorem two_lt_P {x : Int} {t k : Nat} (h : x.natAbs ≤ 2 ^ t) (hk : t < 32 * k) : x.natAbs < P k := by
  rw [P_two]; exact Nat.lt_of_le_of_lt h (Nat.pow_lt_pow_right (by decide) hk)
theorem sb.lt2 {z : Int × Int} {t k : Nat} (h : sb z t) (hk : t < 32 * k) : lt2 z.1 z.2 k := ⟨two_lt_P h.1 hk, two_lt_P h.2 hk⟩
theorem mul_two {x y : Int} {s t : Nat} (h : x.natAbs ≤ 2 ^ s) (h' : y.natAbs ≤ 2 ^ t) : (x * y).natAbs ≤ 2 ^ (s + t) := by
  rw [Int.natAbs_mul, Nat.pow_add]; exact Nat.mul_le_mul h h'
theorem add_two {x y : Int} {t : Nat} (h : x.natAbs ≤ 2 ^ t) (h' : y.natAbs ≤ 2 ^ t) : (x + y).natAbs ≤ 2 ^ (t + 1) := by
  rw [Nat.pow_succ]; omega
theorem mlo_two {z w : Int × Int} {s t : Nat} (h : sb z s) (h' : sb w t) : sb (mlo z.1 z.2 w.1 w.2, mhi z.1 z.2 w.1 w.2) (s + t) := by
  have a := mul_two h.1 h'.1
  have b := mul_two h.1 h'.2
  have c := mul_two h.2 h'.1
  have d := mul_two h.2 h'.2
  constructor
  · rcases mlo_is z.1 z.2 w.1 w.2 with e | e | e | e <;> simp only [e] <;> assumption
  · rcases mhi_is z.1 z.2 w.1 w.2 with e | e | e | e <;> simp only [e] <;> assumption
theorem inn_two {f g : Nat → Int × Int} {n b s t : Nat} (hb : 1 ≤ b) (hf : ∀ i < n, sb (f i) s) (hg : ∀ i < n, sb (g i) t) : ∀ i ≤ n, sb (inn f g b i) (s + t + i)
  | 0, _ => ⟨Nat.zero_le _, Nat.zero_le _⟩
  | i + 1, h => by
    have h1 := inn_two hb hf hg i (by omega)
    have h2 := (mlo_two (hf i (by omega)) (hg i (by omega))).up (show s + t ≤ s + t + i by omega)
    exact ⟨rdn_two hb (add_two h1.1 (rdn_two hb h2.1)), rup_two hb (add_two h1.2 (rup_two hb h2.2))⟩
theorem mlo_zero {z w : Int × Int} (h : z = (0, 0) ∨ w = (0, 0)) : mlo z.1 z.2 w.1 w.2 = 0 ∧ mhi z.1 z.2 w.1 w.2 = 0 := by
  rcases h with rfl | rfl <;> simp [mlo, mhi]
theorem inn_zero {f g : Nat → Int × Int} {n b : Nat} (hb : 1 ≤ b) (h : ∀ i < n, f i = (0, 0) ∨ g i = (0, 0)) : ∀ i ≤ n, inn f g b i = (0, 0)
  | 0, _ => rfl
  | i + 1, hi => by
    have h1 := inn_zero hb h i (by omega)
    obtain ⟨h2, h3⟩ := mlo_zero (h i (by omega))
    simp only [inn, h1, h2, h3, rdn_0 hb, rup_0 hb, Int.add_zero]
/-- Nothing below 0. -/
def nnz (z : Int × Int) : Prop := 0 ≤ z.1 ∧ 0 ≤ z.2
theorem mlo_nn {z w : Int × Int} (h : nnz z) (h' : nnz w) : 0 ≤ mlo z.1 z.2 w.1 w.2 ∧ 0 ≤ mhi z.1 z.2 w.1 w.2 := by
  have a := Int.mul_nonneg h.1 h'.1
  have b := Int.mul_nonneg h.1 h'.2
  have c := Int.mul_nonneg h.2 h'.1
  have d := Int.mul_nonneg h.2 h'.2
  unfold mlo mhi; omega
theorem inn_nn {f g : Nat → Int × Int} {n b : Nat} (hb : 1 ≤ b) (hf : ∀ i < n, nnz (f i)) (hg : ∀ i < n, nnz (g i)) : ∀ i ≤ n, nnz (inn f g b i)
  | 0, _ => ⟨Int.le_refl _, Int.le_refl _⟩
  | i + 1, h => by
    have h1 := inn_nn hb hf hg i (by omega)
    obtain ⟨h2, h3⟩ := mlo_nn (hf i (by omega)) (hg i (by omega))
    exact ⟨rdn_nn hb (Int.add_nonneg h1.1 (rdn_nn hb h2)), rup_pos (Int.add_nonneg h1.2 (rup_pos h3 b)) b⟩

/-- A square table of spans at one exponent. -/
abbrev Tx (n : Nat) (F : Nat → Nat → Int × Int) (e : Int) : List (List SP) := Vx n fun i => Bx n (F i) e
/-- Each number times a power of 2. -/
def rg (k : Nat) (F : Nat → Nat → Int × Int) (i j : Nat) : Int × Int := ((F i j).1 * 2 ^ k, (F i j).2 * 2 ^ k)
theorem Tx_rg (n k : Nat) (F : Nat → Nat → Int × Int) {e e' : Int} (h : e' + (k : Int) = e) : Tx n F e = Tx n (rg k F) e' := Vx_congr fun i _ => Vx_congr fun j _ => by
  simp only [rg, Sp, Yd_scale, h]
theorem Tx_congr {n : Nat} {F G : Nat → Nat → Int × Int} {e : Int} (h : ∀ i < n, ∀ j < n, F i j = G i j) : Tx n F e = Tx n G e := Vx_congr fun i hi => Vx_congr fun j hj => by rw [h i hi j hj]
def tms (F G : Nat → Nat → Int × Int) (n : Nat) (i j : Nat) : Int × Int := inn (F i) (fun k => G k j) 50 n
def pst (F G : Nat → Nat → Int × Int) (i j : Nat) : Int × Int := (rdn ((F i j).1 + (G i j).1) 50, rup ((F i j).2 + (G i j).2) 50)
def scl (F : Nat → Nat → Int × Int) (z : Int × Int) (i j : Nat) : Int × Int := (rdn (mlo (F i j).1 (F i j).2 z.1 z.2) 50, rup (mhi (F i j).1 (F i j).2 z.1 z.2) 50)
theorem Times_T {n : Nat} {F G : Nat → Nat → Int × Int} {e e' : Int} {s t : Nat} (hn1 : 1 ≤ n) (hn : n ≤ 3) (hF : ∀ i < n, ∀ j < n, sb (F i j) s) (hG : ∀ i < n, ∀ j < n, sb (G i j) t) (hs : s ≤ 6000) (ht : t ≤ 6000) (h0 : -10000 ≤ e) (h1 : e ≤ 0) (h2 : -10000 ≤ e') (h3 : e' ≤ 0) :
    S.mat_Times (Tx n F e, Tx n G e', 50, ()) = some (Tx n (tms F G n) (e + e'), 0, ()) :=
  Times_V (b := 50) (f := fun i j => Sp (F i j).1 (F i j).2 e) (g := fun i j => Sp (G i j).1 (G i j).2 e') (h := fun i j => Sp (tms F G n i j).1 (tms F G n i j).2 (e + e')) hn1 (by omega) fun i hi j hj =>
    vec_Inner_Bx (b := 50) (f := F i) (g := fun k => G k j) (j := s / 32 + 1) (k := t / 32 + 1) (by omega) (fun k hk => (hF i hi k hk).lt2 (by omega)) (fun k hk => (hG k hk j hj).lt2 (by omega)) (by omega) (by omega) (by omega) (by omega) (by omega) (by decide) (by decide)
theorem Plus_T {n : Nat} {F G : Nat → Nat → Int × Int} {e : Int} {t : Nat} (hn : n ≤ 3) (hF : ∀ i < n, ∀ j < n, sb (F i j) t) (hG : ∀ i < n, ∀ j < n, sb (G i j) t) (ht : t ≤ 6000) (h0 : -10000 ≤ e) (h1 : e ≤ 0) :
    S.mat_Plus (Tx n F e, Tx n G e, 50, ()) = some (Tx n (pst F G) e, 0, ()) :=
  Plus_V (q := 50) (by omega) fun i hi => vec_Plus_Bx (b := 50) (k := t / 32 + 1) (by omega) (fun k hk => (hF i hi k hk).lt2 (by omega)) (fun k hk => (hG i hi k hk).lt2 (by omega)) (by omega) (by omega) (by omega) (by decide) (by decide)
theorem Scaled_T {n : Nat} {F : Nat → Nat → Int × Int} {z : Int × Int} {e e' : Int} {s t : Nat} (hn : n ≤ 3) (hF : ∀ i < n, ∀ j < n, sb (F i j) s) (hz : sb z t) (hs : s ≤ 6000) (ht : t ≤ 6000) (h0 : -10000 ≤ e) (h1 : e ≤ 0) (h2 : -10000 ≤ e') (h3 : e' ≤ 0) :
    S.series_Scaled (Tx n F e, Sp z.1 z.2 e', 50, ()) = some (Tx n (scl F z) (e + e'), 0, ()) :=
  Scaled_V (q := 50) (by omega) fun i hi => vTimes_V (q := 50) (by omega) fun j hj => span_Mul_Sp (b := 50) (j := s / 32 + 1) (k := t / 32 + 1) ((hF i hi j hj).lt2 (by omega)) (hz.lt2 (by omega)) (by omega) (by omega) (by omega) (by omega) (by omega) (by decide) (by decide)

/-- A span at an exponent holds a ratio. -/
def hs (z : Int × Int) (e : Int) (q : Rat) : Prop := dv z.1 e ≤ q ∧ q ≤ dv z.2 e
theorem hs.le {z : Int × Int} {e : Int} {q : Rat} (h : hs z e q) : z.1 ≤ z.2 := dv_le.1 (Rat.le_trans h.1 h.2)
/-- A table's numbers are no greater than a power of 2, and it holds ratios. -/
structure Tab (n : Nat) (F : Nat → Nat → Int × Int) (e : Int) (t : Nat) (Q : Nat → Nat → Rat) : Prop where
  bits : ∀ i < n, ∀ j < n, sb (F i j) t
  holds : ∀ i < n, ∀ j < n, hs (F i j) e (Q i j)
section
variable {n : Nat} {F G : Nat → Nat → Int × Int} {e e' : Int} {s t : Nat} {P' Q : Nat → Nat → Rat}
theorem Tab.congr (h : Tab n F e t Q) {Q' : Nat → Nat → Rat} (hq : ∀ i < n, ∀ j < n, Q' i j = Q i j) : Tab n F e t Q' := ⟨h.bits, fun i hi j hj => by rw [hq i hi j hj]; exact h.holds i hi j hj⟩
theorem Tab.up (h : Tab n F e s Q) (hst : s ≤ t) : Tab n F e t Q := ⟨fun i hi j hj => (h.bits i hi j hj).up hst, h.holds⟩
theorem Tab.times (h : Tab n F e s P') (h' : Tab n G e' t Q) : Tab n (tms F G n) (e + e') (s + t + n) (fun i j => sumQ (fun k => P' i k * Q k j) n) :=
  ⟨fun i hi j hj => inn_two (by decide) (fun k hk => h.bits i hi k hk) (fun k hk => h'.bits k hk j hj) n (Nat.le_refl _), fun i hi j hj => inn_sum2 (fun k hk => h.holds i hi k hk) (fun k hk => h'.holds k hk j hj) n (Nat.le_refl _)⟩
theorem Tab.plus (h : Tab n F e t P') (h' : Tab n G e t Q) : Tab n (pst F G) e (t + 1) (fun i j => P' i j + Q i j) :=
  ⟨fun i hi j hj => ⟨rdn_two (by decide) (add_two (h.bits i hi j hj).1 (h'.bits i hi j hj).1), rup_two (by decide) (add_two (h.bits i hi j hj).2 (h'.bits i hi j hj).2)⟩, fun i hi j hj => by
    have a := h.holds i hi j hj
    have b := h'.holds i hi j hj
    have c := dv_le (e := e) |>.2 (rdn_le ((F i j).1 + (G i j).1) 50)
    have d := dv_le (e := e) |>.2 (rup_ge ((F i j).2 + (G i j).2) 50)
    rw [dv_add] at c d
    unfold hs at *
    simp only [pst]
    exact ⟨by grind, by grind⟩⟩
theorem Tab.scl {z : Int × Int} {q : Rat} (h : Tab n F e s P') (hz : sb z t) (hq : hs z e' q) : Tab n (scl F z) (e + e') (s + t) (fun i j => P' i j * q) :=
  ⟨fun i hi j hj => by have := mlo_two (h.bits i hi j hj) hz; exact ⟨rdn_two (by decide) this.1, rup_two (by decide) this.2⟩, fun i hi j hj => by
    have a := h.holds i hi j hj
    have b := q_mul_mid a.1 a.2 hq.1 hq.2
    have c := dv_le (e := e + e') |>.2 (rdn_le (mlo (F i j).1 (F i j).2 z.1 z.2) 50)
    have d := dv_le (e := e + e') |>.2 (rup_ge (mhi (F i j).1 (F i j).2 z.1 z.2) 50)
    exact ⟨Rat.le_trans c b.1, Rat.le_trans b.2 d⟩⟩
theorem Tab.rg (h : Tab n F e t Q) (k : Nat) {e' : Int} (he : e' + (k : Int) = e) : Tab n (rg k F) e' (t + k) Q :=
  ⟨fun i hi j hj => by
    have h2 : ((2 : Int) ^ k).natAbs = 2 ^ k := by rw [Int.natAbs_pow]; rfl
    have := h.bits i hi j hj
    exact ⟨by simp only [Go.L.rg]; rw [Int.natAbs_mul, h2, Nat.pow_add]; exact Nat.mul_le_mul_right _ this.1, by simp only [Go.L.rg]; rw [Int.natAbs_mul, h2, Nat.pow_add]; exact Nat.mul_le_mul_right _ this.2⟩, fun i hi j hj => by
    have := h.holds i hi j hj
    unfold hs at *
    simp only [Go.L.rg, dv_scale, he]; exact this⟩
end
/-- From corner to corner alone. -/
def dq (p : Nat → Rat) (i j : Nat) : Rat := if i = j then p i else 0
theorem dq_mul {n : Nat} {p q : Nat → Rat} {i j : Nat} (hi : i < n) : sumQ (fun k => dq p i k * dq q k j) n = dq (fun i => p i * q i) i j := by
  rw [sumQ_one hi fun k hk hki => by simp only [dq]; rw [if_neg (fun h => hki h.symm), Rat.zero_mul]]
  simp only [dq, if_true]
  by_cases h : i = j
  · rw [if_pos h, if_pos h]
  · rw [if_neg h, if_neg h, Rat.mul_zero]
theorem dq_add {p q : Nat → Rat} {i j : Nat} : dq p i j + dq q i j = dq (fun i => p i + q i) i j := by
  simp only [dq]; split
  · rfl
  · exact Rat.add_zero 0
theorem dq_scl {p : Nat → Rat} {q : Rat} {i j : Nat} : dq p i j * q = dq (fun i => p i * q) i j := by
  simp only [dq]; split
  · rfl
  · exact Rat.zero_mul q
/-- Nothing but from corner to corner. -/
def ofz (n : Nat) (F : Nat → Nat → Int × Int) : Prop := ∀ i < n, ∀ j < n, i ≠ j → F i j = (0, 0)
def nnt (n : Nat) (F : Nat → Nat → Int × Int) : Prop := ∀ i < n, ∀ j < n, nnz (F i j)
section
variable {n : Nat} {F G : Nat → Nat → Int × Int}
theorem ofz.tms (h : ofz n F) (h' : ofz n G) : ofz n (tms F G n) := fun i hi j hj hij => inn_zero (by decide) (fun k hk => by
  by_cases e : i = k
  · subst e; exact .inr (h' i hi j hj hij)
  · exact .inl (h i hi k hk e)) n (Nat.le_refl _)
theorem ofz.pst (h : ofz n F) (h' : ofz n G) : ofz n (pst F G) := fun i hi j hj hij => by
  simp only [Go.L.pst, h i hi j hj hij, h' i hi j hj hij, Int.add_zero, rdn_0 (show 1 ≤ 50 by decide), rup_0 (show 1 ≤ 50 by decide)]
theorem ofz.scl (h : ofz n F) (z : Int × Int) : ofz n (scl F z) := fun i hi j hj hij => by
  obtain ⟨a, b⟩ := mlo_zero (z := F i j) (w := z) (.inl (h i hi j hj hij))
  simp only [Go.L.scl, a, b, rdn_0 (show 1 ≤ 50 by decide), rup_0 (show 1 ≤ 50 by decide)]
theorem ofz.rg (h : ofz n F) (k : Nat) : ofz n (rg k F) := fun i hi j hj hij => by
  simp only [Go.L.rg, h i hi j hj hij, Int.zero_mul]
theorem nnt.tms (h : nnt n F) (h' : nnt n G) : nnt n (tms F G n) := fun i hi j hj => inn_nn (by decide) (fun k hk => h i hi k hk) (fun k hk => h' k hk j hj) n (Nat.le_refl _)
theorem nnt.scl (h : nnt n F) {z : Int × Int} (hz : nnz z) : nnt n (scl F z) := fun i hi j hj => by
  obtain ⟨a, b⟩ := mlo_nn (h i hi j hj) hz
  exact ⟨rdn_nn (by decide) a, rup_pos b 50⟩
end
end Go.L

/-! EE -/
namespace Go.L
open Go.PM
set_option exponentiation.threshold 20000
set_option linter.unusedVariables false
set_option linter.unusedSimpArgs false

theorem num_nn {q : Rat} (h : 0 ≤ q) : 0 ≤ q.num := Rat.num_nonneg.2 h
theorem nq_nn {q : Rat} {b : Nat} (up : Bool) (h : 0 ≤ q) : 0 ≤ nq up q b := by
  have h1 := num_nn h
  have h2 := nden_pos q b
  have h3 : 0 ≤ nnum q b := by unfold nnum; split; exact Int.mul_nonneg h1 (Int.le_of_lt (two_pos _)); exact h1
  have h4 := Int.ediv_nonneg h3 (Int.le_of_lt h2)
  unfold nq
  cases (up && decide (nnum q b % nden q b ≠ 0)) with
  | true => simp only [cond_true]; omega
  | false => simp only [cond_false]; exact h4
theorem nr_nn {q : Rat} {b B : Nat} (up : Bool) (hb : 1 ≤ b) (h : 0 ≤ q) : 0 ≤ nr up q b B := by
  unfold nr
  split
  · exact Int.le_refl _
  · refine Int.mul_nonneg ?_ (Int.le_of_lt (two_pos _))
    cases up with
    | true => exact rup_pos (nq_nn true h) b
    | false => exact rdn_nn hb (nq_nn false h)
theorem nz_nr {up : Bool} {q : Rat} {b B : Nat} (h : nsh q b ≤ B) : dv (nr up q b B) (-(B : Int)) = dv (nz up q b) (ne q b) := by
  by_cases h0 : q = 0
  · unfold nr nz ne; rw [if_pos h0, if_pos h0, dv_zero, dv_zero]
  · rw [nr_dv h0 h]; unfold nz ne; rw [if_neg h0, if_neg h0]
theorem dv_two (s B : Nat) : dv (2 ^ (B + s)) (-(B : Int)) = ((2 ^ s : Int) : Rat) := by
  have := dv_scale 1 (-(B : Int)) (B + s)
  rw [Int.one_mul] at this
  rw [this, show -(B : Int) + ((B + s : Nat) : Int) = (s : Int) by omega]
  unfold dv
  rw [tw_nat]
  have : ((1 : Int) : Rat) = 1 := rfl
  rw [this, Rat.one_mul]
theorem nr_up {q : Rat} {b B s : Nat} (h0 : 0 ≤ q) (hq : q ≤ ((2 ^ s : Int) : Rat)) (hb : 2 ≤ b) (hB : nsh q b ≤ B) (up : Bool) : (nr up q b B).natAbs ≤ 2 ^ (B + 1 + s) := by
  have hn := fun up => nr_nn (b := b) (B := B) up (by omega) h0
  have hle := nr_le hB
  have key : nr true q b B ≤ 2 ^ (B + 1 + s) := by
    have g := nz_gap (q := q) hb
    rw [← nz_nr hB, ← nz_nr hB, qabs_of h0] at g
    have lo := nr_lo hB
    have hd := (dv_le (e := -(B : Int))).2 hle
    have h1 : ((1 : Int) : Rat) ≤ ((2 ^ (b - 2) : Int) : Rat) := Rat.intCast_le_intCast.2 (by have := two_pos (b - 2); omega)
    have h2 : (dv (nr true q b B) (-(B : Int)) - dv (nr false q b B) (-(B : Int))) * ((1 : Int) : Rat) ≤ (dv (nr true q b B) (-(B : Int)) - dv (nr false q b B) (-(B : Int))) * ((2 ^ (b - 2) : Int) : Rat) := Rat.mul_le_mul_of_nonneg_left h1 (by grind)
    have e1 : ((1 : Int) : Rat) = 1 := rfl
    rw [e1] at h2
    refine (dv_le (e := -(B : Int))).1 ?_
    rw [show B + 1 + s = B + (s + 1) by omega, dv_two, Int.pow_succ, Rat.intCast_mul]
    have e2 : ((2 : Int) : Rat) = 2 := rfl
    rw [e2]
    grind
  rw [abs_two]
  have := two_pos (B + 1 + s)
  cases up with
  | true => exact ⟨by have := hn true; omega, key⟩
  | false => exact ⟨by have := hn false; omega, by omega⟩
theorem nr_zero (up : Bool) (b B : Nat) : nr up 0 b B = 0 := by unfold nr; rw [if_pos rfl]

/-- A table of small ratios, near. -/
def Xt (x : Nat → Rat) (i j : Nat) : Int × Int := (nr false (dq x i j) 50 147, nr true (dq x i j) 50 147)
theorem dq_nn {x : Nat → Rat} {n : Nat} (h : ∀ i < n, 0 ≤ x i) {i : Nat} (hi : i < n) (j : Nat) : 0 ≤ dq x i j := by
  unfold dq; split
  · exact h i hi
  · exact Rat.le_refl
theorem big_zero {k : Nat} (hk : 1 ≤ k) : big 0 k := ⟨P_pos k, P_one k hk⟩
theorem dq_big {x : Nat → Rat} {n k : Nat} (hk : 1 ≤ k) (h : ∀ i < n, big (x i) k) {i : Nat} (hi : i < n) (j : Nat) : big (dq x i j) k := by
  unfold dq; split
  · exact h i hi
  · exact big_zero hk
section
variable {n : Nat} {x : Nat → Rat}
theorem Near_X (hn : n ≤ 3) (hb : ∀ i < n, big (x i) 3) : S.mat_Near (Vx n (fun i => Rx n (dq x i)), 50, ()) = some (Tx n (Xt x) (-147), 0, ()) :=
  Near_V (q := 50) (by omega) fun i hi => vec_Near_nr (q := dq x i) (b := 50) (B := 147) (j := 3) (by omega) (fun j _ => dq_big (by decide) hb hi j) (by decide) (by decide) (by decide) (by decide)
theorem Xt_tab (hb : ∀ i < n, big (x i) 3) (h0 : ∀ i < n, 0 ≤ x i) (h1 : ∀ i < n, x i ≤ 1) : Tab n (Xt x) (-147) 148 (dq x) :=
  have hs : ∀ i < n, ∀ j, nsh (dq x i j) 50 ≤ 147 := fun i hi j => by have := (nsh_le (b := 50) (dq_big (k := 3) (by decide) hb hi j)).1; omega
  have h2 : ∀ i < n, ∀ j, dq x i j ≤ ((2 ^ 0 : Int) : Rat) := fun i hi j => by
    have e : ((2 ^ 0 : Int) : Rat) = 1 := rfl
    rw [e]; unfold dq; split
    · exact h1 i hi
    · decide
  ⟨fun i hi j _ => ⟨nr_up (s := 0) (dq_nn h0 hi j) (h2 i hi j) (by decide) (hs i hi j) false, nr_up (s := 0) (dq_nn h0 hi j) (h2 i hi j) (by decide) (hs i hi j) true⟩, fun i hi j _ => ⟨nr_lo (B := 147) (hs i hi j), nr_hi (B := 147) (hs i hi j)⟩⟩
theorem Xt_ofz : ofz n (Xt x) := fun i _ j _ hij => by
  have : dq x i j = 0 := by unfold dq; rw [if_neg hij]
  unfold Xt; rw [this, nr_zero, nr_zero]
theorem Xt_nn (h0 : ∀ i < n, 0 ≤ x i) : nnt n (Xt x) := fun i hi j _ => ⟨nr_nn false (by decide) (dq_nn h0 hi j), nr_nn true (by decide) (dq_nn h0 hi j)⟩
end

/-- Ones from corner to corner. -/
def oneT (i j : Nat) : Int × Int := if i = j then (2 ^ 83, 2 ^ 83) else (0, 0)
theorem nr_one : nr false 1 50 83 = 2 ^ 83 ∧ nr true 1 50 83 = 2 ^ 83 := by decide +kernel
theorem unit_R {n i : Nat} (hn : n ≤ 16) (hi : i < n) : S.vec_Unit ((n : Int), (i : Int), ()) = some (Rx n (dq (fun _ => 1) i), ()) := by
  simp only [S.vec_Unit, L.vec_Unit]
  rw [vec_Zero_R hn, Option.bind_some]
  simp only [Vx_len]
  rw [ct (by omega), ct (by omega), ratio_one, Option.bind_some, ct (by omega), ct (by omega), Int.toNat_natCast]
  have : (Rx n fun _ => 0).set i (R 1) = Rx n (dq (fun _ => 1) i) := by
    rw [Vx_set hi]
    refine Vx_congr fun j _ => ?_
    unfold dq
    by_cases h : j = i
    · subst h; rw [if_pos rfl, if_pos rfl]
    · rw [if_neg h, if_neg (fun e => h e.symm)]
  rw [← this]
theorem Zero_V {n : Nat} (hn : n ≤ 16) : S.mat_Zero ((n : Int), (n : Int), ()) = some (Vx n (fun _ => Rx n (fun _ => 0)), ()) := by
  have em : min (max (n : Int) 0) 16 = n := by omega
  simp only [S.mat_Zero, L.mat_Zero, mat_Zero_b]
  rw [em, ct (by omega), ct (by omega), Int.toNat_natCast, List.length_replicate, ← Gx_zero n _ (fun _ => Rx n (fun _ => 0))]
  refine loop_up n (Gx n _ (fun _ => Rx n (fun _ => 0))) (fun k s i => mat_Zero_l0 100 k (n : Int) s (n : Int) i) _ (fun k' i hi => ?_) (fun k => ?_) 100 (by omega)
  · simp only [mat_Zero_l0, mat_Zero_s0, Gx_len]
    rw [ct (by omega), vec_Zero_R hn, Option.bind_some, ct (by omega), ct (by omega), Int.toNat_natCast, wi1 (by omega), Gx_set _ _ hi]
  · simp only [mat_Zero_l0, mat_Zero_s0]
    rw [cf (by omega), Gx_full]
theorem One_V {n : Nat} (hn : n ≤ 16) : S.mat_One ((n : Int), ()) = some (Vx n (fun i => Rx n (dq (fun _ => 1) i)), ()) := by
  simp only [S.mat_One, L.mat_One, mat_One_b]
  rw [Zero_V hn, Option.bind_some]
  have hz : Vx n (fun _ => Rx n (fun _ => 0)) = Vx n (fun i => if i < 0 then Rx n (dq (fun _ => 1) i) else Rx n (fun _ => 0)) := Vx_congr fun i _ => by rw [if_neg (by omega)]
  simp only [Vx_len]
  rw [hz]
  refine loop_up n (fun k => Vx n (fun i => if i < k then Rx n (dq (fun _ => 1) i) else Rx n (fun _ => 0))) (fun k s i => mat_One_l0 100 k (n : Int) s (n : Int) i) _ (fun k' i hi => ?_) (fun k => ?_) 100 (by omega)
  · simp only [mat_One_l0, mat_One_s0, Vx_len]
    rw [ct (by omega), unit_R hn hi, Option.bind_some, ct (by omega), ct (by omega), Int.toNat_natCast, wi1 (by omega), Vx_set hi]
    congr 1
    refine Vx_congr fun j _ => ?_
    by_cases h : j = i
    · subst h; rw [if_pos rfl, if_pos (by omega)]
    · rw [if_neg h]
      by_cases h' : j < i
      · rw [if_pos h', if_pos (by omega)]
      · rw [if_neg h', if_neg (by omega)]
  · simp only [mat_One_l0, mat_One_s0]
    rw [cf (by omega)]
    congr 2
    exact Vx_congr fun i hi => by rw [if_pos hi]
theorem big_1q : big 1 1 := ⟨by decide, by decide⟩
theorem Near_one {n : Nat} (hn : n ≤ 3) : S.mat_Near (Vx n (fun i => Rx n (dq (fun _ => 1) i)), 50, ()) = some (Tx n oneT (-83), 0, ()) := by
  have h := Near_V (q := 50) (a := fun i => Rx n (dq (fun _ => 1) i)) (c := fun i => Bx n (nrs (dq (fun _ => 1) i) 50 83) (-((83 : Nat) : Int))) (n := n) (by omega) fun i hi => vec_Near_nr (q := dq (fun _ => 1) i) (b := 50) (B := 83) (j := 1) (by omega) (fun j _ => by unfold dq; split; exact big_1q; exact big_zero (by decide)) (by decide) (by decide) (by decide) (by decide)
  refine h.trans ?_
  congr 2
  refine Vx_congr fun i _ => Vx_congr fun j _ => ?_
  simp only [dq, oneT]
  by_cases e : i = j
  · rw [if_pos e, if_pos e, nr_one.1, nr_one.2]; rfl
  · rw [if_neg e, if_neg e, nr_zero, nr_zero]; rfl
theorem oneT_tab (n : Nat) : Tab n oneT (-83) 83 (dq (fun _ => 1)) :=
  ⟨fun i _ j _ => by unfold oneT; split; exact ⟨by decide, by decide⟩; exact ⟨Nat.zero_le _, Nat.zero_le _⟩, fun i _ j _ => by
    have e := dv_two 0 83
    have e1 : ((2 ^ 0 : Int) : Rat) = 1 := rfl
    have e : dv (2 ^ 83) (-83) = 1 := e.trans e1
    unfold hs oneT dq
    split
    · simp only [e]; exact ⟨Rat.le_refl, Rat.le_refl⟩
    · simp only [dv_zero]; exact ⟨Rat.le_refl, Rat.le_refl⟩⟩
theorem oneT_ofz (n : Nat) : ofz n oneT := fun i _ j _ hij => by unfold oneT; rw [if_neg hij]
theorem oneT_nn (n : Nat) : nnt n oneT := fun i _ j _ => by unfold oneT; split; exact ⟨by decide, by decide⟩; exact ⟨Int.le_refl _, Int.le_refl _⟩

/-- One divided by a small number, near. -/
def dn (j : Nat) : Int × Int := (nr false (1 / (j : Rat)) 50 83, nr true (1 / (j : Rat)) 50 83)
theorem dn_q {j : Nat} (h1 : 1 ≤ j) (h2 : j ≤ 1000) : Rat.divInt 1 (j : Int) = 1 / (j : Rat) ∧ big (1 / (j : Rat)) 1 ∧ 0 ≤ 1 / (j : Rat) ∧ 1 / (j : Rat) ≤ 1 := by
  have e : Rat.divInt 1 (j : Int) = 1 / (j : Rat) := by rw [Rat.divInt_eq_div]; rfl
  have hp : (0 : Rat) < (j : Rat) := by have := Rat.natCast_lt_natCast.2 (show 0 < j by omega); exact this
  have hc : 1 / (j : Rat) * j = 1 := Rat.div_mul_cancel (by grind)
  have h1' : (1 : Rat) ≤ (j : Rat) := by have := Rat.natCast_le_natCast.2 h1; exact this
  refine ⟨e, ?_, le_of_mul hp (by rw [hc]; grind), le_of_mul hp (by rw [hc]; grind)⟩
  rw [← e]
  exact big_frac (by decide) (by rw [Int.natAbs_natCast]; exact Nat.lt_of_le_of_lt h2 (by decide)) (by omega)
theorem dn_sb {j : Nat} (h1 : 1 ≤ j) (h2 : j ≤ 1000) : sb (dn j) 84 ∧ hs (dn j) (-83) (1 / (j : Rat)) ∧ nnz (dn j) := by
  obtain ⟨_, q1, q2, q3⟩ := dn_q h1 h2
  have hB : nsh (1 / (j : Rat)) 50 ≤ (83 : Nat) := by have := (nsh_le (b := 50) q1).1; omega
  have e : ((2 ^ 0 : Int) : Rat) = 1 := rfl
  exact ⟨⟨nr_up (s := 0) q2 (by rw [e]; exact q3) (by decide) hB false, nr_up (s := 0) q2 (by rw [e]; exact q3) (by decide) hB true⟩, ⟨nr_lo (B := 83) hB, nr_hi (B := 83) hB⟩, nr_nn false (by decide) q2, nr_nn true (by decide) q2⟩
theorem divided_T {n j : Nat} {F : Nat → Nat → Int × Int} {e : Int} {s : Nat} (hn : n ≤ 3) (h1 : 1 ≤ j) (h2 : j ≤ 1000) (hF : ∀ i < n, ∀ j < n, sb (F i j) s) (hs : s ≤ 6000) (he0 : -9000 ≤ e) (he1 : e ≤ 0) : S.series_divided (Tx n F e, (j : Int), 50, ()) = some (Tx n (scl F (dn j)) (e - 83), 0, ()) := by
  obtain ⟨q0, q1, q2, q3⟩ := dn_q h1 h2
  obtain ⟨d1, d2, d3⟩ := dn_sb h1 h2
  have hB : nsh (1 / (j : Rat)) 50 ≤ (83 : Nat) := by have := (nsh_le (b := 50) q1).1; omega
  have e1 : S.span_Near (R (1 / (j : Rat)), 50, ()) = some (Sp (dn j).1 (dn j).2 (-83), 0, ()) := span_Near_nr (b := 50) (B := 83) q1 (by decide) (by decide) (by decide) hB
  have e2 := Scaled_T (z := dn j) (e' := -83) hn hF d1 hs (by decide) (by omega) he1 (by decide) (by decide)
  simp only [S.series_divided, L.series_divided]
  rw [ratio_Of_R (by decide) (by decide) (by omega) (by omega) (by omega), Option.bind_some, q0, show S.span_Near _ = _ from e1, Option.bind_some]
  simp only [decide_true, Bool.not_true, cond_false]
  rw [show S.series_Scaled _ = _ from e2, Option.bind_some]
  rfl

/-- The term, the sum, and the sum of those divided by one more, after so many rounds. -/
def sT (x : Nat → Rat) (n : Nat) : Nat → Nat → Nat → Int × Int
  | 0 => oneT
  | m + 1 => scl (tms (sT x n m) (Xt x) n) (dn (m + 1))
def sA (x : Nat → Rat) (n : Nat) : Nat → Nat → Nat → Int × Int
  | 0 => oneT
  | m + 1 => pst (rg 230 (sA x n m)) (sT x n (m + 1))
def sC (x : Nat → Rat) (n : Nat) : Nat → Nat → Nat → Int × Int
  | 0 => rg 83 oneT
  | m + 1 => pst (rg 230 (sC x n m)) (scl (sT x n (m + 1)) (dn (m + 2)))
abbrev gm (m : Nat) : Int := -83 - 230 * (m : Int)
structure Small (n : Nat) (x : Nat → Rat) : Prop where
  n1 : 1 ≤ n
  n3 : n ≤ 3
  big : ∀ i < n, big (x i) 3
  pos : ∀ i < n, 0 ≤ x i
  half : ∀ i < n, x i ≤ 1 / 2
section
variable {n : Nat} {x : Nat → Rat}
theorem Small.one (h : Small n x) : ∀ i < n, x i ≤ 1 := fun i hi => by have := h.half i hi; grind
theorem natq (m : Nat) : ((m + 1 : Nat) : Rat) = (m : Rat) + 1 := by rw [Rat.natCast_add]; rfl
theorem div_q (a b : Rat) : a * (1 / b) = a / b := by rw [Rat.div_def, Rat.div_def, Rat.one_mul]
theorem sT_tab (h : Small n x) : ∀ m ≤ 14, Tab n (sT x n m) (gm m) (83 + 235 * m) (dq (fun i => wt 0 (x i) m)) ∧ ofz n (sT x n m) ∧ nnt n (sT x n m)
  | 0, _ => ⟨oneT_tab n, oneT_ofz n, oneT_nn n⟩
  | m + 1, hm => by
    obtain ⟨a, b, c⟩ := sT_tab h m (by omega)
    obtain ⟨d1, d2, d3⟩ := dn_sb (show 1 ≤ m + 1 by omega) (by omega)
    have hX := Xt_tab h.big h.pos h.one
    have t1 := ((a.times hX).scl d1 d2).up (t := 83 + 235 * (m + 1)) (by have := h.n3; omega)
    rw [show gm m + -147 + -83 = gm (m + 1) by simp only [gm]; omega] at t1
    refine ⟨t1.congr fun i hi j hj => ?_, (b.tms Xt_ofz).scl _, (c.tms (Xt_nn h.pos)).scl d3⟩
    rw [dq_mul hi, dq_scl]
    simp only [dq, wt]
    split
    · have c0 : ((0 : Nat) : Rat) = 0 := rfl
      rw [div_q, natq, c0, Rat.add_zero]
    · rfl
theorem pw (a b : Nat) : (2 : Int) ^ a * 2 ^ b = 2 ^ (a + b) := (Int.pow_add ..).symm
/-- A sum of one and numbers not below 0. -/
theorem pst_lo {F G : Nat → Nat → Int × Int} {k g : Nat} (hF : ∀ i < n, 2 ^ g ≤ (F i i).1) (hG : nnt n G) : ∀ i < n, 2 ^ (g + k) ≤ (pst (rg k F) G i i).1 := fun i hi => by
  refine rdn_max (by decide) (few_two _ _) ?_
  have h1 := (hG i hi i hi).1
  have h2 := Int.mul_le_mul_of_nonneg_right (hF i hi) (Int.le_of_lt (two_pos k))
  rw [pw] at h2
  simp only [rg]; omega
theorem sA_tab (h : Small n x) : ∀ m ≤ 14, Tab n (sA x n m) (gm m) (84 + 236 * m) (dq (fun i => sumQ (wt 0 (x i)) (m + 1))) ∧ ofz n (sA x n m) ∧ ∀ i < n, 2 ^ (83 + 230 * m) ≤ (sA x n m i i).1
  | 0, _ => by
    refine ⟨(oneT_tab n).up (by decide) |>.congr fun i hi j hj => ?_, oneT_ofz n, fun i _ => ?_⟩
    · simp only [dq, sumQ, wt]; split
      · exact Rat.zero_add 1
      · rfl
    · simp only [sA, oneT, if_true]; exact Int.le_refl _
  | m + 1, hm => by
    obtain ⟨a, b, c⟩ := sA_tab h m (by omega)
    obtain ⟨ta, tb, tc⟩ := sT_tab h (m + 1) hm
    have r1 := (a.rg 230 (e' := gm (m + 1)) (by simp only [gm]; omega)).up (t := 319 + 236 * m) (by omega)
    have r2 := ((r1.plus (ta.up (t := 319 + 236 * m) (by omega))).up (t := 84 + 236 * (m + 1)) (by omega))
    refine ⟨r2.congr fun i hi j hj => ?_, (b.rg 230).pst tb, ?_⟩
    · rw [dq_add]; rfl
    · have := pst_lo (k := 230) c tc
      rw [show 83 + 230 * m + 230 = 83 + 230 * (m + 1) by omega] at this
      exact this
theorem sN_tab (h : Small n x) (m : Nat) (hm : m ≤ 14) : Tab n (scl (sT x n m) (dn (m + 1))) (gm m - 83) (167 + 235 * m) (dq (fun i => wt 1 (x i) m)) ∧ ofz n (scl (sT x n m) (dn (m + 1))) ∧ nnt n (scl (sT x n m) (dn (m + 1))) := by
  obtain ⟨a, b, c⟩ := sT_tab h m hm
  obtain ⟨d1, d2, d3⟩ := dn_sb (show 1 ≤ m + 1 by omega) (by omega)
  have t1 := (a.scl d1 d2).up (t := 167 + 235 * m) (by omega)
  rw [show gm m + -83 = gm m - 83 by omega] at t1
  refine ⟨t1.congr fun i hi j hj => ?_, b.scl _, c.scl d3⟩
  rw [dq_scl]
  simp only [dq]
  split
  · have e := wt_two (x i) m
    have hp : (m : Rat) + 1 ≠ 0 := by have := nn m; grind
    rw [div_q, natq, ← e, Rat.div_def, Rat.mul_assoc, Rat.mul_inv_cancel _ hp, Rat.mul_one]
  · rfl
theorem sC_tab (h : Small n x) : ∀ m ≤ 13, Tab n (sC x n (m + 1)) (gm (m + 1) - 83) (168 + 236 * (m + 1)) (dq (fun i => sumQ (wt 1 (x i)) (m + 2))) ∧ ofz n (sC x n (m + 1)) ∧ ∀ i < n, 2 ^ (166 + 230 * (m + 1)) ≤ (sC x n (m + 1) i i).1 := by
  have gen : ∀ m ≤ 14, Tab n (sC x n m) (gm m - 83) (168 + 236 * m) (dq (fun i => sumQ (wt 1 (x i)) (m + 1))) ∧ ofz n (sC x n m) ∧ ∀ i < n, 2 ^ (166 + 230 * m) ≤ (sC x n m i i).1 := by
    intro m
    induction m with
    | zero =>
      intro _
      refine ⟨((oneT_tab n).rg 83 (e' := gm 0 - 83) (by decide)).up (by decide) |>.congr fun i hi j hj => ?_, (oneT_ofz n).rg 83, fun i _ => ?_⟩
      · simp only [dq, sumQ, wt]; split
        · exact Rat.zero_add 1
        · rfl
      · simp only [sC, rg, oneT, if_true]; rw [pw]; exact Int.le_refl _
    | succ m ih =>
      intro hm
      obtain ⟨a, b, c⟩ := ih (by omega)
      obtain ⟨ta, tb, tc⟩ := sN_tab h (m + 1) hm
      have r1 := (a.rg 230 (e' := gm (m + 1) - 83) (by simp only [gm]; omega)).up (t := 402 + 236 * m) (by omega)
      have r2 := ((r1.plus (ta.up (t := 402 + 236 * m) (by omega))).up (t := 168 + 236 * (m + 1)) (by omega))
      refine ⟨r2.congr fun i hi j hj => ?_, (b.rg 230).pst tb, ?_⟩
      · rw [dq_add]; rfl
      · have := pst_lo (k := 230) c tc
        rw [show 166 + 230 * m + 230 = 166 + 230 * (m + 1) by omega] at this
        exact this
  exact fun m hm => gen (m + 1) (by omega)
end
end Go.L

/-! EF -/
namespace Go.L
open Go.PM
set_option exponentiation.threshold 20000
set_option linter.unusedVariables false
set_option linter.unusedSimpArgs false

theorem few_grid {z : Int} {k : Nat} (hf : few 50 z) (h : 2 ^ (k + 50) ≤ z.natAbs) : z / 2 ^ k * 2 ^ k = z := by
  obtain ⟨m, j, rfl, hm⟩ := hf
  have h2 : ((2 : Int) ^ j).natAbs = 2 ^ j := by rw [Int.natAbs_pow]; rfl
  rw [Int.natAbs_mul, h2] at h
  have h3 := Nat.le_trans h (Nat.mul_le_mul_right (2 ^ j) hm)
  rw [← Nat.pow_add] at h3
  have hk : k ≤ j := by have := (Nat.pow_le_pow_iff_right (show 1 < 2 by decide)).1 h3; omega
  have e : m * 2 ^ j = m * 2 ^ (j - k) * 2 ^ k := by rw [Int.mul_assoc, pw, show j - k + k = j by omega]
  rw [e, Int.mul_ediv_cancel _ (Int.ne_of_gt (two_pos k))]
/-- With what is left at most. -/
def rst (g : Nat) (F : Nat → Nat → Int × Int) : Nat → Nat → Int × Int := pst F (fun _ _ => (-(2 ^ (g - 54)), 2 ^ (g - 54)))
def cgr (k : Nat) (F : Nat → Nat → Int × Int) (i j : Nat) : Int × Int := ((F i j).1 / 2 ^ k, (F i j).2 / 2 ^ k)
theorem natAbs_two (k : Nat) : ((2 : Int) ^ k).natAbs = 2 ^ k := by rw [Int.natAbs_pow]; rfl
theorem ge_abs {z : Int} {k : Nat} (h : 2 ^ k ≤ z) : 2 ^ k ≤ z.natAbs := by
  have e : ((2 ^ k : Nat) : Int) = 2 ^ k := by rw [Int.natCast_pow]; rfl
  have := two_pos k
  rw [← e] at h this; omega
theorem rst_big {n g : Nat} {F : Nat → Nat → Int × Int} (hg : 200 ≤ g) (ho : ofz n F) (hl : ∀ i < n, 2 ^ g ≤ (F i i).1) (hle : ∀ i < n, (F i i).1 ≤ (F i i).2) {i j : Nat} (hi : i < n) (hj : j < n) :
    2 ^ (g - 110 + 50) ≤ (rst g F i j).1.natAbs ∧ 2 ^ (g - 110 + 50) ≤ (rst g F i j).2.natAbs := by
  have hp : 2 ^ (g - 110 + 50) ≤ 2 ^ (g - 54) := Nat.pow_le_pow_right (by decide) (by omega)
  by_cases e : i = j
  · subst e
    have h1 := hl i hi
    have h2 := hle i hi
    have e1 : (2 : Int) ^ g = 2 ^ (g - 1) * 2 := by
      have := Int.pow_succ (2 : Int) (g - 1)
      rw [show (g - 1).succ = g by omega] at this; exact this
    have e2 : (2 : Int) ^ (g - 54) ≤ 2 ^ (g - 1) := int_pow_le (by omega)
    have hq := two_pos (g - 54)
    have a : (2 : Int) ^ (g - 1) ≤ (rst g F i i).1 := rdn_max (by decide) (few_two _ _) (by show (2 : Int) ^ (g - 1) ≤ (F i i).1 + -(2 ^ (g - 54)); omega)
    have b : (2 : Int) ^ (g - 1) ≤ (rst g F i i).2 := Int.le_trans (by omega) (rup_ge ((F i i).2 + 2 ^ (g - 54)) 50)
    have hp' : 2 ^ (g - 110 + 50) ≤ 2 ^ (g - 1) := Nat.pow_le_pow_right (by decide) (by omega)
    exact ⟨Nat.le_trans hp' (ge_abs a), Nat.le_trans hp' (ge_abs b)⟩
  · have h0 := ho i hi j hj e
    simp only [rst, pst, h0, Int.zero_add, few_rdn (show 1 ≤ 50 by decide) (few_neg (few_two 50 _)), few_rup (show 1 ≤ 50 by decide) (few_two 50 _), Int.natAbs_neg, natAbs_two]
    exact ⟨hp, hp⟩
theorem rest_T {n g t : Nat} {F : Nat → Nat → Int × Int} {Q : Nat → Nat → Rat} (hg : 200 ≤ g) (h : Tab n F (-(g : Int)) t Q) (ho : ofz n F) (hl : ∀ i < n, 2 ^ g ≤ (F i i).1) (htg : g ≤ t) :
    Tx n (rst g F) (-(g : Int)) = Tx n (cgr (g - 110) (rst g F)) (-110) ∧ ∀ Q' : Nat → Nat → Rat, (∀ i < n, ∀ j < n, Q i j - 1 / 18014398509481984 ≤ Q' i j ∧ Q' i j ≤ Q i j + 1 / 18014398509481984) → Tab n (cgr (g - 110) (rst g F)) (-110) (t + 1 - (g - 110)) Q' := by
  have hb := fun i hi j hj => rst_big (i := i) (j := j) hg ho hl (fun i hi => (h.holds i hi i hi).le) hi hj
  have hc : ∀ i < n, ∀ j < n, rst g F i j = rg (g - 110) (cgr (g - 110) (rst g F)) i j := by
    intro i hi j hj
    have a := few_grid (z := (rst g F i j).1) (rdn_few _ 50) (hb i hi j hj).1
    have b := few_grid (z := (rst g F i j).2) (rup_few _ 50) (hb i hi j hj).2
    simp only [rg, cgr, a, b]
  have hd : dv (2 ^ (g - 54)) (-(g : Int)) = 1 / 18014398509481984 := by
    have := dv_scale 1 (-(g : Int)) (g - 54)
    rw [Int.one_mul] at this
    rw [this, show -(g : Int) + ((g - 54 : Nat) : Int) = -54 by omega]
    decide +kernel
  have hG : Tab n (fun _ _ => ((-(2 ^ (g - 54)), 2 ^ (g - 54)) : Int × Int)) (-(g : Int)) t (fun _ _ => 0) :=
    ⟨fun i _ j _ => sb.up (s := g - 54) ⟨by rw [Int.natAbs_neg, natAbs_two]; exact Nat.le_refl _, by rw [natAbs_two]; exact Nat.le_refl _⟩ (by omega), fun i _ j _ => by
      unfold hs; simp only [dv_neg, hd]; exact ⟨by decide +kernel, by decide +kernel⟩⟩
  have hP := h.plus hG
  refine ⟨(Tx_congr hc).trans (Tx_rg n (g - 110) _ (by omega)).symm, fun Q' hQ => ⟨fun i hi j hj => ?_, fun i hi j hj => ?_⟩⟩
  · have hp := hP.bits i hi j hj
    have key : ∀ z : Int, z / 2 ^ (g - 110) * 2 ^ (g - 110) = z → z.natAbs ≤ 2 ^ (t + 1) → (z / 2 ^ (g - 110)).natAbs ≤ 2 ^ (t + 1 - (g - 110)) := by
      intro z h1 h2
      rw [← h1, Int.natAbs_mul, natAbs_two, show t + 1 = (t + 1 - (g - 110)) + (g - 110) by omega, Nat.pow_add] at h2
      have h3 := Nat.le_of_mul_le_mul_right h2 (Nat.pow_pos (by decide))
      exact h3
    exact ⟨key _ (few_grid (rdn_few _ 50) (hb i hi j hj).1) hp.1, key _ (few_grid (rup_few _ 50) (hb i hi j hj).2) hp.2⟩
  · have a := h.holds i hi j hj
    have e1 := hc i hi j hj
    have lo : dv (rst g F i j).1 (-(g : Int)) ≤ dv (F i j).1 (-(g : Int)) - 1 / 18014398509481984 := by
      have := (dv_le (e := -(g : Int))).2 (rdn_le ((F i j).1 + -(2 ^ (g - 54))) 50)
      rw [dv_add, dv_neg, hd] at this
      simp only [rst, pst]; grind
    have hi' : dv (F i j).2 (-(g : Int)) + 1 / 18014398509481984 ≤ dv (rst g F i j).2 (-(g : Int)) := by
      have := (dv_le (e := -(g : Int))).2 (rup_ge ((F i j).2 + 2 ^ (g - 54)) 50)
      rw [dv_add, hd] at this
      simp only [rst, pst]; grind
    have c1 : dv (rst g F i j).1 (-(g : Int)) = dv (cgr (g - 110) (rst g F) i j).1 (-110) := by
      rw [e1]; simp only [rg]; rw [dv_scale, show -(g : Int) + ((g - 110 : Nat) : Int) = -110 by omega]
    have c2 : dv (rst g F i j).2 (-(g : Int)) = dv (cgr (g - 110) (rst g F) i j).2 (-110) := by
      rw [e1]; simp only [rg]; rw [dv_scale, show -(g : Int) + ((g - 110 : Nat) : Int) = -110 by omega]
    have q := hQ i hi j hj
    unfold hs at a ⊢
    rw [← c1, ← c2]
    exact ⟨by grind, by grind⟩
theorem Yd_54 : Yd 1 (-54) = ((false, [1], ()), -54, ()) := by kernel_rfl
theorem terms_50a : S.series_Terms (50, ()) = some (15, ((false, [1], ()), -54, ()), ()) := by kernel_rfl
theorem terms_50 : S.series_Terms (50, ()) = some (15, Yd 1 (-54), ()) := terms_50a.trans (congrArg (fun z => some ((15 : Int), z, ())) Yd_54.symm)

/-- A time, near. -/
def tn (τ : Rat) : Int × Int := (nr false τ 50 115, nr true τ 50 115)
theorem tn_sb {τ : Rat} (h0 : 0 ≤ τ) (h1 : τ ≤ ((2 ^ 32 : Int) : Rat)) (hb : big τ 2) : sb (tn τ) 148 ∧ hs (tn τ) (-115) τ ∧ S.span_Near (R τ, 50, ()) = some (Sp (tn τ).1 (tn τ).2 (-115), 0, ()) := by
  have hB : nsh τ 50 ≤ (115 : Nat) := by have := (nsh_le (b := 50) hb).1; omega
  exact ⟨⟨nr_up h0 h1 (by decide) hB false, nr_up h0 h1 (by decide) hB true⟩, ⟨nr_lo (B := 115) hB, nr_hi (B := 115) hB⟩, span_Near_nr (b := 50) (B := 115) hb (by decide) (by decide) (by decide) hB⟩
/-- What the sums come to. -/
def eA (x : Nat → Rat) (n : Nat) : Nat → Nat → Int × Int := cgr (3303 - 110) (rst 3303 (sA x n 14))
def eC (x : Nat → Rat) (n : Nat) : Nat → Nat → Int × Int := cgr (3386 - 110) (rst 3386 (sC x n 14))
section
variable {n : Nat} {x : Nat → Rat}
theorem even_54 : S.span_Even (Yd 1 (-54), ()) = some (Sp (-1) 1 (-54), ()) := span_Even_Yd (x := 1) (by decide)
theorem Even_T (hn : n ≤ 3) {g : Nat} (hg : 54 ≤ g) : S.mat_Even ((n : Int), Yd 1 (-54), ()) = some (Tx n (fun _ _ => ((-(2 ^ (g - 54)), 2 ^ (g - 54)) : Int × Int)) (-(g : Int)), ()) := by
  rw [Even_V (by omega) even_54]
  have e : Tx n (fun _ _ => ((-1, 1) : Int × Int)) (-54) = Tx n (fun _ _ => ((-(2 ^ (g - 54)), 2 ^ (g - 54)) : Int × Int)) (-(g : Int)) := by
    rw [Tx_rg n (g - 54) _ (show -(g : Int) + ((g - 54 : Nat) : Int) = -54 by omega)]
    exact Tx_congr fun i _ j _ => by simp only [rg, Int.one_mul, Int.neg_mul]
  rw [← e]
theorem eA_tab (h : Small n x) : Tx n (rst 3303 (sA x n 14)) (-3303) = Tx n (eA x n) (-110) ∧ ∀ p : Nat → Rat, (∀ i < n, sumQ (wt 0 (x i)) 15 - 1 / 18014398509481984 ≤ p i ∧ p i ≤ sumQ (wt 0 (x i)) 15 + 1 / 18014398509481984) → Tab n (eA x n) (-110) 196 (dq p) := by
  obtain ⟨a, b, c⟩ := sA_tab h 14 (by decide)
  obtain ⟨r1, r2⟩ := rest_T (g := 3303) (t := 84 + 236 * 14) (by decide) a b c (by decide)
  refine ⟨r1, fun p hp => r2 _ fun i hi j hj => ?_⟩
  simp only [dq]
  split
  · exact hp i hi
  · exact ⟨by decide +kernel, by decide +kernel⟩
theorem eC_tab (h : Small n x) : Tx n (rst 3386 (sC x n 14)) (-3386) = Tx n (eC x n) (-110) ∧ ∀ p : Nat → Rat, (∀ i < n, sumQ (wt 1 (x i)) 15 - 1 / 18014398509481984 ≤ p i ∧ p i ≤ sumQ (wt 1 (x i)) 15 + 1 / 18014398509481984) → Tab n (eC x n) (-110) 197 (dq p) := by
  obtain ⟨a, b, c⟩ := sC_tab h 13 (by decide)
  obtain ⟨r1, r2⟩ := rest_T (g := 3386) (t := 168 + 236 * 14) (by decide) a b c (by decide)
  refine ⟨r1, fun p hp => r2 _ fun i hi j hj => ?_⟩
  simp only [dq]
  split
  · exact hp i hi
  · exact ⟨by decide +kernel, by decide +kernel⟩
theorem sums_T (h : Small n x) {τ : Rat} (h0 : 0 ≤ τ) (h1 : τ ≤ ((2 ^ 32 : Int) : Rat)) (hb : big τ 2) :
    S.series_sums (Tx n (Xt x) (-147), R τ, 15, Yd 1 (-54), 50, ()) = some ((Tx n (eA x n) (-110), Tx n (scl (eC x n) (tn τ)) (-225), ()), 0, ()) := by
  have hn3 := h.n3
  obtain ⟨t1, t2, t3⟩ := tn_sb h0 h1 hb
  have hX := Xt_tab h.big h.pos h.one
  simp only [S.series_sums, L.series_sums, series_sums_b, Vx_len]
  rw [One_V (by omega), Option.bind_some]
  rw [show S.mat_Near _ = _ from Near_one hn3, Option.bind_some]
  simp only [decide_true, Bool.not_true, cond_false]
  have key := loop_up 14 (fun i => (Tx n (sT x n i) (gm i), Tx n (sA x n i) (gm i), Tx n (sC x n i) (gm i - 83)))
    (fun k s i => series_sums_l0 100 k (Tx n (Xt x) (-147)) 15 50 (R τ).1.1 (R τ).1.2.1 (R τ).2.1 (Yd 1 (-54)).1.1 (Yd 1 (-54)).1.2.1 (Yd 1 (-54)).2.1 [] [] s.1 s.2.1 s.2.2 (i + 1))
    (some ((Tx n (eA x n) (-110), Tx n (scl (eC x n) (tn τ)) (-225), ()), 0, ())) (fun k i hi => ?_) (fun k => ?_) 100 (by decide)
  · have e : Tx n oneT (-83) = Tx n (sC x n 0) (gm 0 - 83) := Tx_rg n 83 oneT (by decide)
    have e2 : series_sums_l0 100 100 (Tx n (Xt x) (-147)) 15 50 (R τ).1.1 (R τ).1.2.1 (R τ).2.1 (Yd 1 (-54)).1.1 (Yd 1 (-54)).1.2.1 (Yd 1 (-54)).2.1 [] [] (Tx n oneT (-83)) (Tx n oneT (-83)) (Tx n (sC x n 0) (gm 0 - 83)) 1 = _ := key
    rw [← e] at e2
    exact e2
  · obtain ⟨ta, tb, tc⟩ := sT_tab h i (by omega)
    obtain ⟨ua, ub, uc⟩ := sT_tab h (i + 1) (by omega)
    obtain ⟨aa, ab, ac⟩ := sA_tab h i (by omega)
    obtain ⟨na, nb, nc⟩ := sN_tab h (i + 1) (by omega)
    have ca : Tab n (sC x n i) (gm i - 83) (168 + 236 * i) (dq (fun j => sumQ (wt 1 (x j)) (i + 1))) := by
      cases i with
      | zero =>
        refine ((oneT_tab n).rg 83 (e' := gm 0 - 83) (by decide)).up (by decide) |>.congr fun i hi j hj => ?_
        simp only [dq, sumQ, wt]; split
        · exact Rat.zero_add 1
        · rfl
      | succ m => exact (sC_tab h m (by omega)).1
    have m1 := Times_T (F := sT x n i) (G := Xt x) (e := gm i) (e' := -147) h.n1 hn3 ta.bits hX.bits (by omega) (by decide) (by simp only [gm]; omega) (by simp only [gm]; omega) (by decide) (by decide)
    have tt := ta.times hX
    have m2 : S.series_divided (Tx n (tms (sT x n i) (Xt x) n) (gm i + -147), ((i + 1 : Nat) : Int), 50, ()) = some (Tx n (sT x n (i + 1)) (gm (i + 1)), 0, ()) := by
      have := divided_T (j := i + 1) (F := tms (sT x n i) (Xt x) n) (e := gm i + -147) hn3 (by omega) (by omega) tt.bits (by omega) (by simp only [gm]; omega) (by simp only [gm]; omega)
      rw [show gm i + -147 - 83 = gm (i + 1) by simp only [gm]; omega] at this
      exact this
    have r1 := (aa.rg 230 (e' := gm (i + 1)) (by simp only [gm]; omega)).up (t := 319 + 236 * i) (by omega)
    have m3 := Plus_T (F := rg 230 (sA x n i)) (G := sT x n (i + 1)) (e := gm (i + 1)) hn3 r1.bits (ua.up (t := 319 + 236 * i) (by omega)).bits (by omega) (by simp only [gm]; omega) (by simp only [gm]; omega)
    rw [← Tx_rg n 230 (sA x n i) (show gm (i + 1) + ((230 : Nat) : Int) = gm i by simp only [gm]; omega)] at m3
    have m4 := divided_T (j := i + 2) (F := sT x n (i + 1)) (e := gm (i + 1)) hn3 (by omega) (by omega) ua.bits (by omega) (by simp only [gm]; omega) (by simp only [gm]; omega)
    have r2 := (ca.rg 230 (e' := gm (i + 1) - 83) (by simp only [gm]; omega)).up (t := 402 + 236 * i) (by omega)
    have m5 := Plus_T (F := rg 230 (sC x n i)) (G := scl (sT x n (i + 1)) (dn (i + 2))) (e := gm (i + 1) - 83) hn3 r2.bits (na.up (t := 402 + 236 * i) (by omega)).bits (by omega) (by simp only [gm]; omega) (by simp only [gm]; omega)
    rw [← Tx_rg n 230 (sC x n i) (show gm (i + 1) - 83 + ((230 : Nat) : Int) = gm i - 83 by simp only [gm]; omega)] at m5
    have w1 : IntKind.i64.wrap ((i : Int) + 1 + 1) = ((i + 2 : Nat) : Int) := by rw [wi64 (by omega) (by omega)]; omega
    simp only [series_sums_l0, series_sums_s0]
    rw [ct (by omega), m1, Option.bind_some]
    simp only [decide_true, Bool.not_true, cond_false]
    rw [show (i : Int) + 1 = ((i + 1 : Nat) : Int) by omega, m2, Option.bind_some]
    simp only [decide_true, Bool.not_true, cond_false]
    rw [show S.mat_Plus _ = _ from m3, Option.bind_some]
    simp only [decide_true, Bool.not_true, cond_false]
    rw [show ((i + 1 : Nat) : Int) + 1 = (i : Int) + 1 + 1 by omega, w1, show S.series_divided _ = _ from m4, Option.bind_some]
    simp only [decide_true, Bool.not_true, cond_false]
    rw [m5, Option.bind_some]
    simp only [decide_true, Bool.not_true, cond_false]
    rfl
  · obtain ⟨aa, ab, ac⟩ := sA_tab h 14 (by decide)
    obtain ⟨ca, cb, cc⟩ := sC_tab h 13 (by decide)
    have rA := (eA_tab h).1
    have rC := (eC_tab h).1
    have sbA : ∀ i < n, ∀ j < n, sb (((-(2 ^ (3303 - 54)), 2 ^ (3303 - 54)) : Int × Int)) 3388 := fun i _ j _ => sb.up (s := 3303 - 54) ⟨by rw [Int.natAbs_neg, natAbs_two]; exact Nat.le_refl _, by rw [natAbs_two]; exact Nat.le_refl _⟩ (by decide)
    have sbC : ∀ i < n, ∀ j < n, sb (((-(2 ^ (3386 - 54)), 2 ^ (3386 - 54)) : Int × Int)) 3472 := fun i _ j _ => sb.up (s := 3386 - 54) ⟨by rw [Int.natAbs_neg, natAbs_two]; exact Nat.le_refl _, by rw [natAbs_two]; exact Nat.le_refl _⟩ (by decide)
    have p1 := Plus_T (F := sA x n 14) (G := fun _ _ => ((-(2 ^ (3303 - 54)), 2 ^ (3303 - 54)) : Int × Int)) (e := -3303) hn3 (aa.up (t := 3388) (by decide)).bits sbA (by decide) (by decide) (by decide)
    have p2 := Plus_T (F := sC x n 14) (G := fun _ _ => ((-(2 ^ (3386 - 54)), 2 ^ (3386 - 54)) : Int × Int)) (e := -3386) hn3 (ca.up (t := 3472) (by decide)).bits sbC (by decide) (by decide) (by decide)
    have ev1 := Even_T (g := 3303) hn3 (by decide)
    have ev2 := Even_T (g := 3386) hn3 (by decide)
    have evs : Tx n (fun _ _ => ((-(2 ^ (3303 - 54)), 2 ^ (3303 - 54)) : Int × Int)) (-3303) = Tx n (fun _ _ => ((-(2 ^ (3386 - 54)), 2 ^ (3386 - 54)) : Int × Int)) (-3386) := by
      have := ev1.symm.trans ev2
      exact congrArg Prod.fst (Option.some.inj this)
    have hCt := (eC_tab h).2 (fun i => sumQ (wt 1 (x i)) 15) (fun i _ => ⟨by grind, by grind⟩)
    have q1 := Scaled_T (F := eC x n) (z := tn τ) (e := -110) (e' := -115) hn3 hCt.bits t1 (by decide) (by decide) (by decide) (by decide) (by decide) (by decide)
    have p1' : S.mat_Plus (Tx n (sA x n 14) (gm 14), Tx n (fun _ _ => ((-(2 ^ (3303 - 54)), 2 ^ (3303 - 54)) : Int × Int)) (-((3303 : Nat) : Int)), 50, ()) = some (Tx n (eA x n) (-110), 0, ()) := by
      have e1 : gm 14 = -3303 := by decide
      have e2 : -((3303 : Nat) : Int) = -3303 := by decide
      rw [e1, e2, p1]; exact congrArg (fun z => some (z, (0 : Int), ())) rA
    simp only [series_sums_l0, series_sums_s0, Vx_len]
    rw [cf (by decide), show S.mat_Even _ = _ from ev1, Option.bind_some]
    rw [show S.mat_Plus _ = _ from p1', Option.bind_some]
    simp only [decide_true, Bool.not_true, cond_false]
    have p2' : S.mat_Plus (Tx n (sC x n 14) (gm 14 - 83), Tx n (fun _ _ => ((-(2 ^ (3303 - 54)), 2 ^ (3303 - 54)) : Int × Int)) (-((3303 : Nat) : Int)), 50, ()) = some (Tx n (eC x n) (-110), 0, ()) := by
      have e1 : gm 14 - 83 = -3386 := by decide
      have e2 : -((3303 : Nat) : Int) = -3303 := by decide
      rw [e1, e2, evs, p2]; exact congrArg (fun z => some (z, (0 : Int), ())) rC
    rw [show S.mat_Plus _ = _ from p2', Option.bind_some]
    simp only [decide_true, Bool.not_true, cond_false]
    rw [show S.span_Near _ = _ from t3, Option.bind_some]
    simp only [decide_true, Bool.not_true, cond_false]
    rw [show S.series_Scaled _ = _ from q1, Option.bind_some]
    rfl
end
end Go.L

/-! EG -/
namespace Go.L
open Go.PM
set_option exponentiation.threshold 20000
set_option linter.unusedVariables false
set_option linter.unusedSimpArgs false

/-- A half, so often. -/
def hlf (n : Nat) : Rat := 1 / ((2 ^ n : Int) : Rat)
theorem hlf_zero : hlf 0 = 1 := by decide +kernel
theorem hlf_mul (n : Nat) : hlf n * ((2 ^ n : Int) : Rat) = 1 := by
  have : (0 : Rat) < ((2 ^ n : Int) : Rat) := by have := Rat.intCast_lt_intCast.2 (two_pos n); exact this
  exact Rat.div_mul_cancel (by grind)
theorem hlf_pos (n : Nat) : 0 ≤ hlf n := by
  have : (0 : Rat) < ((2 ^ n : Int) : Rat) := by have := Rat.intCast_lt_intCast.2 (two_pos n); exact this
  exact le_of_mul this (by rw [hlf_mul]; grind)
theorem hlf_succ (n : Nat) : hlf (n + 1) = hlf n * (1 / 2) := by
  have h1 := hlf_mul n
  have h2 := hlf_mul (n + 1)
  have hq : (0 : Rat) < ((2 ^ n : Int) : Rat) := by have := Rat.intCast_lt_intCast.2 (two_pos n); exact this
  rw [Int.pow_succ, Rat.intCast_mul] at h2
  have e2 : ((2 : Int) : Rat) = 2 := rfl
  rw [e2] at h2
  generalize ((2 ^ n : Int) : Rat) = c at *
  have a : hlf (n + 1) * c = hlf n * (1 / 2) * c := by grind
  exact Rat.le_antisymm (le_of_mul hq (by rw [a]; exact Rat.le_refl)) (le_of_mul hq (by rw [a]; exact Rat.le_refl))
theorem hlf_big : ∀ n ≤ 4, big (hlf n) 1 := by
  intro n hn
  match n, hn with
  | 0, _ => exact ⟨by decide +kernel, by decide +kernel⟩
  | 1, _ => exact ⟨by decide +kernel, by decide +kernel⟩
  | 2, _ => exact ⟨by decide +kernel, by decide +kernel⟩
  | 3, _ => exact ⟨by decide +kernel, by decide +kernel⟩
  | 4, _ => exact ⟨by decide +kernel, by decide +kernel⟩
  | n + 5, h => omega
theorem half_q : Rat.divInt 1 2 = 1 / 2 := by decide +kernel
theorem big_half : big (1 / 2) 1 := ⟨by decide +kernel, by decide +kernel⟩
theorem halves_step {x : Rat} {j k i : Nat} (hb : big x j) (hj : j ≤ 100) (hi : i < 65) :
    series_halves_l0 100 (k + 1) (R x).1.1 (R x).1.2.1 (R x).2.1 false [] [] (R (1 / 2)).1.1 (R (1 / 2)).1.2.1 (R (1 / 2)).2.1 (i : Int) =
      if x ≤ 1 / 2 then some ((i : Int), R x, 0, ()) else series_halves_l0 100 k (R (x * (1 / 2))).1.1 (R (x * (1 / 2))).1.2.1 (R (x * (1 / 2))).2.1 false [] [] (R (1 / 2)).1.1 (R (1 / 2)).1.2.1 (R (1 / 2)).2.1 ((i + 1 : Nat) : Int) := by
  have e1 := ratio_Compare_R hb big_half (by omega)
  have e2 := ratio_Mul_R hb big_half (by omega)
  simp only [series_halves_l0, series_halves_s0]
  rw [ct (by omega), show S.ratio_Compare _ = _ from e1, Option.bind_some]
  simp only [decide_true, Bool.not_true, cond_false]
  by_cases h : x ≤ 1 / 2
  · rw [if_pos h, ct (sgq_le h)]
  · rw [if_neg h, cf (fun h' => h (sgq_no (by omega))), show S.ratio_Mul _ = _ from e2, Option.bind_some]
    simp only [decide_true, Bool.not_true, cond_false]
    rw [wi1 (by omega)]
theorem halves_rec : ∀ (r i k : Nat) (x : Rat), i + r = 4 → 0 ≤ x → x * 2 ≤ ((2 ^ r : Int) : Rat) → big x (10 + i) →
    ∃ n, i ≤ n ∧ n ≤ 4 ∧ series_halves_l0 100 (k + r + 1) (R x).1.1 (R x).1.2.1 (R x).2.1 false [] [] (R (1 / 2)).1.1 (R (1 / 2)).1.2.1 (R (1 / 2)).2.1 (i : Int) = some ((n : Int), R (x * hlf (n - i)), 0, ()) ∧ x * hlf (n - i) ≤ 1 / 2
  | 0, i, k, x, hi, h0, h1, hb => by
    have e : ((2 ^ 0 : Int) : Rat) = 1 := rfl
    rw [e] at h1
    refine ⟨i, Nat.le_refl _, by omega, ?_, ?_⟩
    · rw [halves_step hb (by omega) (by omega), if_pos (by grind), Nat.sub_self, hlf_zero, Rat.mul_one]
    · rw [Nat.sub_self, hlf_zero, Rat.mul_one]; grind
  | r + 1, i, k, x, hi, h0, h1, hb => by
    rw [show k + (r + 1) + 1 = (k + r + 1) + 1 by omega, halves_step hb (by omega) (by omega)]
    by_cases h : x ≤ 1 / 2
    · refine ⟨i, Nat.le_refl _, by omega, ?_, ?_⟩
      · rw [if_pos h, Nat.sub_self, hlf_zero, Rat.mul_one]
      · rw [Nat.sub_self, hlf_zero, Rat.mul_one]; exact h
    · rw [if_neg h]
      have e : ((2 ^ (r + 1) : Int) : Rat) = ((2 ^ r : Int) : Rat) * 2 := by rw [Int.pow_succ, Rat.intCast_mul]; rfl
      rw [e] at h1
      obtain ⟨n, n1, n2, n3, n4⟩ := halves_rec r (i + 1) k (x * (1 / 2)) (by omega) (by grind) (by grind) ((big_mul hb big_half).mono (by omega))
      have e2 : x * (1 / 2) * hlf (n - (i + 1)) = x * hlf (n - i) := by
        rw [show n - i = n - (i + 1) + 1 by omega, hlf_succ]; grind
      rw [e2] at n3 n4
      exact ⟨n, by omega, n2, n3, n4⟩
theorem halves_T {x : Rat} (h0 : 0 ≤ x) (h8 : x ≤ 8) (hb : big x 10) : ∃ n : Nat, n ≤ 4 ∧ S.series_halves (R x, ()) = some ((n : Int), R (x * hlf n), 0, ()) ∧ x * hlf n ≤ 1 / 2 := by
  have e : ((2 ^ 4 : Int) : Rat) = 16 := by decide +kernel
  obtain ⟨n, _, n2, n3, n4⟩ := halves_rec 4 0 95 x rfl h0 (by rw [e]; grind) hb
  refine ⟨n, n2, ?_, n4⟩
  simp only [S.series_halves, L.series_halves, series_halves_b]
  rw [ratio_Of_R (by decide) (by decide) (by decide) (by decide) (by decide), Option.bind_some, half_q]
  exact n3

/-- The greatest of some, or nothing. -/
def mxq (m : Nat → Rat) : Nat → Rat
  | 0 => 0
  | i + 1 => if mxq m i < m i then m i else mxq m i
section
variable {m : Nat → Rat}
theorem mxq_ge : ∀ (n i : Nat), i < n → m i ≤ mxq m n
  | 0, i, h => by omega
  | n + 1, i, h => by
    simp only [mxq]
    by_cases e : i = n
    · subst e; split
      · exact Rat.le_refl
      · grind
    · have := mxq_ge n i (by omega)
      split
      · grind
      · exact this
theorem mxq_le {B : Rat} (hB : 0 ≤ B) : ∀ n : Nat, (∀ i < n, m i ≤ B) → mxq m n ≤ B
  | 0, _ => hB
  | n + 1, h => by
    simp only [mxq]; split
    · exact h n (by omega)
    · exact mxq_le hB n fun i hi => h i (by omega)
theorem mxq_pos : ∀ n : Nat, 0 ≤ mxq m n
  | 0 => Rat.le_refl
  | n + 1 => by
    have := mxq_pos n
    simp only [mxq]; split
    · grind
    · exact this
theorem mxq_big {j : Nat} (hj : 1 ≤ j) : ∀ n : Nat, (∀ i < n, big (m i) j) → big (mxq m n) j
  | 0, _ => big_zero hj
  | n + 1, h => by
    simp only [mxq]; split
    · exact h n (by omega)
    · exact mxq_big hj n fun i hi => h i (by omega)
theorem mxq_mul {t : Rat} (ht : 0 ≤ t) : ∀ n : Nat, (∀ i < n, m i * t ≤ mxq m n * t) := fun n i hi => Rat.mul_le_mul_of_nonneg_right (mxq_ge n i hi) ht
end
theorem norm_T {n j : Nat} {m : Nat → Rat} (hn : n ≤ 3) (hj1 : 1 ≤ j) (hj : j ≤ 100) (h0 : ∀ i < n, 0 ≤ m i) (hb : ∀ i < n, big (m i) j) : S.mat_Norm (Vx n (fun i => Rx n (dq m i)), ()) = some (R (mxq m n), 0, ()) := by
  simp only [S.mat_Norm, L.mat_Norm, mat_Norm_b, Vx_len]
  rw [ratio_Zero_R, Option.bind_some]
  refine loop_up n (fun i => R (mxq m i)) (fun k s i => mat_Norm_l0 100 k false [] [] s.1.1 s.1.2.1 s.2.1 (Vx n (fun i => Rx n (dq m i))) (n : Int) i) _ (fun k' i hi => ?_) (fun k' => ?_) 100 (by omega)
  · simp only [mat_Norm_l0, mat_Norm_s0, Vx_len]
    rw [ct (by omega), ct (by omega), ct (by omega), Int.toNat_natCast, Vx_get hi, show S.ratio_Zero _ = _ from ratio_Zero_R, Option.bind_some]
    simp only [Vx_len]
    refine loop_up n (fun j => R (if i < j then m i else 0)) (fun k s j => mat_Norm_l1 100 (mat_Norm_l0 100 k') k false [] [] (R (mxq m i)).1.1 (R (mxq m i)).1.2.1 (R (mxq m i)).2.1 s.1.1 s.1.2.1 s.2.1 (Vx n (fun i => Rx n (dq m i))) (n : Int) (i : Int) (Rx n (dq m i)) (n : Int) j) _ (fun k p hp => ?_) (fun k => ?_) 100 (by omega)
    · have a1 : big (if i < p then m i else 0) j := by split; exact hb i hi; exact big_zero hj1
      have a2 := dq_big hj1 hb hi p
      have a3 := dq_nn h0 hi p
      have e1 := ratio_Abs_R a2 (by omega)
      rw [qabs_of a3] at e1
      have e2 := ratio_Add_R a1 a2 (by omega)
      have e3 : (if i < p then m i else 0) + dq m i p = if i < p + 1 then m i else 0 := by
        unfold dq
        by_cases h : i < p
        · rw [if_pos h, if_neg (by omega), if_pos (by omega), Rat.add_zero]
        · rw [if_neg h]
          by_cases h' : i = p
          · rw [if_pos h', if_pos (by omega), Rat.zero_add]
          · rw [if_neg h', if_neg (by omega), Rat.zero_add]
      rw [e3] at e2
      simp only [mat_Norm_l1, mat_Norm_s1, Vx_len]
      rw [ct (by omega), ct (by omega), ct (by omega), Int.toNat_natCast, Vx_get hp, show S.ratio_Abs _ = _ from e1, Option.bind_some, show S.ratio_Add _ = _ from e2, Option.bind_some]
      simp only [decide_true, Bool.not_true, cond_false]
      rw [wi1 (by omega)]
    · have a1 := hb i hi
      have a2 := mxq_big hj1 i fun p hp => hb p (by omega)
      have e1 := ratio_Compare_R a1 a2 (by omega)
      simp only [mat_Norm_l1, mat_Norm_s1]
      rw [cf (by omega), if_pos hi, show S.ratio_Compare _ = _ from e1, Option.bind_some]
      simp only [decide_true, Bool.not_true, cond_false]
      rw [wi1 (by omega)]
      have e2 : mxq m (i + 1) = if mxq m i < m i then m i else mxq m i := rfl
      rw [e2]
      by_cases h : mxq m i < m i
      · rw [if_pos h, ct]
        by_cases h' : 0 < sgq (m i) (mxq m i)
        · exact h'
        · have := sgq_no h'; grind
      · rw [if_neg h, cf]
        have := sgq_le (a := m i) (b := mxq m i) (by grind)
        omega
  · simp only [mat_Norm_l0, mat_Norm_s0]
    rw [cf (by omega)]
theorem vCheck_R {n : Nat} {q : Nat → Rat} (hn : n ≤ 16) (hb : ∀ i < n, big (q i) 512) : S.vec_Check (Rx n q, (n : Int), ()) = some (0, ()) := by
  simp only [S.vec_Check, L.vec_Check, vec_Check_b, Vx_len]
  rw [cf (by omega), cf (by omega)]
  simp only [decide_true, Bool.not_true, cond_false]
  refine loop_up n (fun _ => ()) (fun k s i => vec_Check_l0 100 k (Rx n q) (n : Int) i) _ (fun k' i hi => ?_) (fun k' => ?_) 100 (by omega)
  · simp only [vec_Check_l0, vec_Check_s0, Vx_len]
    rw [ct (by omega), ct (by omega), ct (by omega), Int.toNat_natCast, Vx_get hi, show S.ratio_Check _ = _ from ratio_Check_R (hb i hi), Option.bind_some]
    simp only [decide_true, Bool.not_true, cond_false]
    rw [wi1 (by omega)]
  · simp only [vec_Check_l0, vec_Check_s0]
    rw [cf (by omega)]
theorem mCheck_R {n : Nat} {a : Nat → Nat → Rat} (hn : n ≤ 16) (hb : ∀ i < n, ∀ j < n, big (a i j) 512) : S.mat_Check (Vx n (fun i => Rx n (a i)), (n : Int), (n : Int), ()) = some (0, ()) := by
  simp only [S.mat_Check, L.mat_Check, mat_Check_b, Vx_len]
  rw [cf (by omega), cf (by omega)]
  simp only [decide_true, Bool.not_true, cond_false]
  refine loop_up n (fun _ => ()) (fun k s i => mat_Check_l0 100 k (n : Int) (Vx n (fun i => Rx n (a i))) (n : Int) i) _ (fun k' i hi => ?_) (fun k' => ?_) 100 (by omega)
  · simp only [mat_Check_l0, mat_Check_s0, Vx_len]
    rw [ct (by omega), ct (by omega), ct (by omega), Int.toNat_natCast, Vx_get hi, vCheck_R hn (hb i hi), Option.bind_some]
    simp only [decide_true, Bool.not_true, cond_false]
    rw [wi1 (by omega)]
  · simp only [mat_Check_l0, mat_Check_s0]
    rw [cf (by omega)]

/-- The tables of twice the time. -/
theorem Twice_T {n : Nat} {E C : Nat → Nat → Int × Int} {e s : Int} {bE bC k : Nat} {p q : Nat → Rat} (hn1 : 1 ≤ n) (hn : n ≤ 3) (hE : Tab n E e bE (dq p)) (hC : Tab n C s bC (dq q)) (hk : e + (k : Int) = 0) (hkb : k ≤ bE + 3) (h1 : bE + bC ≤ 5000) (h2 : bE ≤ 2500) (h3 : -4000 ≤ e) (h4 : -4000 ≤ s) (h5 : s ≤ 0) :
    S.series_Twice ((Tx n E e, Tx n C s, ()), 50, ()) = some ((Tx n (tms E E n) (e + e), Tx n (pst (rg k C) (tms E C n)) (e + s), ()), 0, ()) ∧
    Tab n (tms E E n) (e + e) (bE + bE + 3) (dq (fun i => p i * p i)) ∧ Tab n (pst (rg k C) (tms E C n)) (e + s) (bE + bC + 4) (dq (fun i => q i + p i * q i)) := by
  have t1 := (hE.times hC).up (t := bE + bC + 3) (by omega)
  have t2 := (hE.times hE).up (t := bE + bE + 3) (by omega)
  have t3 := (hC.rg k (e' := e + s) (by omega)).up (t := bE + bC + 3) (by omega)
  have t4 := t3.plus t1
  have m1 := Times_T (F := E) (G := C) (e := e) (e' := s) hn1 hn hE.bits hC.bits (by omega) (by omega) (by omega) (by omega) (by omega) (by omega)
  have m2 := Plus_T (F := rg k C) (G := tms E C n) (e := e + s) hn t3.bits t1.bits (by omega) (by omega) (by omega)
  rw [← Tx_rg n k C (show e + s + (k : Int) = s by omega)] at m2
  have m3 := Times_T (F := E) (G := E) (e := e) (e' := e) hn1 hn hE.bits hE.bits (by omega) (by omega) (by omega) (by omega) (by omega) (by omega)
  refine ⟨?_, t2.congr fun i hi j hj => (dq_mul hi).symm, t4.congr fun i hi j hj => ?_⟩
  · simp only [S.series_Twice, L.series_Twice]
    rw [m1, Option.bind_some]
    simp only [decide_true, Bool.not_true, cond_false]
    rw [m2, Option.bind_some]
    simp only [decide_true, Bool.not_true, cond_false]
    rw [m3, Option.bind_some]
  · rw [dq_mul hi, dq_add]
end Go.L
