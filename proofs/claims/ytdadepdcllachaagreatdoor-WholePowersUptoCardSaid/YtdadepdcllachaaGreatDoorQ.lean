/-
  ratios in texts; the laws of ratios: made, field, orders, rounds, between. the laws of ratios: between; texts. the laws of ratios: texts, points.
  No condition beyond those that each theorem names.
-/
import Derived.Test.YtdadepdcllachaaGreatDoorO

/-! QA -/
namespace Go.L
open Go.PM
set_option exponentiation.threshold 20000
set_option linter.unusedVariables false
set_option linter.unusedSimpArgs false

theorem ratio_Check_R {q : Rat} (hq : big q 512) : S.ratio_Check (R q, ()) = some (0, ()) := by
  have e1 := whole_Check_I hq.1
  have e2 := Check_D hq.2
  have e3 := Gcd_D hq.1 hq.2
  have hg : Nat.gcd q.num.natAbs q.den = 1 := q.reduced
  rw [hg] at e3
  have e4 := Cmp_D (P_one 1000 (by decide)) (P_one 1000 (by decide))
  have hd := q.den_pos
  have e0 : ∀ a : RT, S.ratio_Check (a, ()) = (S.whole_Check (a.1, ())).bind fun z1 => cond (!(decide (z1.1 = 0))) (some (z1.1, ())) ((S.limbs_Check (a.2.1, ())).bind fun z2 => cond (!(decide (z2.1 = 0))) (some (z2.1, ())) (cond (decide ((a.2.1.length : Int) = 0)) (some (2, ())) ((S.digits_Gcd (a.1.2.1, a.2.1, ())).bind fun z3 => (S.limbs_Of (1, ())).bind fun z4 => (S.limbs_Compare (z3.1, z4.1, ())).bind fun z5 => cond (!(decide (z5.1 = 0))) (some (2, ())) (some (0, ()))))) := fun _ => rfl
  rw [e0, e1, Option.bind_some]
  simp only [decide_true, Bool.not_true, cond_false]
  rw [e2, Option.bind_some]
  simp only [decide_true, Bool.not_true, cond_false, D_len_zero]
  rw [cf (by omega), e3, Option.bind_some, Of_one, Option.bind_some]
  simp only
  rw [e4, Option.bind_some, sgn_self]
  rfl
end Go.L

/-! QB -/
namespace Go.L
open Go.PM
set_option exponentiation.threshold 20000
set_option linter.unusedVariables false
set_option linter.unusedSimpArgs false

theorem den_pos' (q : Rat) : (0 : Rat) < ((q.den : Int) : Rat) := Rat.intCast_pos.2 (by have := q.den_pos; omega)
theorem num_den (q : Rat) : q * ((q.den : Int) : Rat) = (q.num : Rat) := by
  have h := divInt_self q
  rw [Rat.divInt_eq_div] at h
  have hd : ((q.den : Int) : Rat) ≠ 0 := by have := den_pos' q; grind
  have h2 := Rat.div_mul_cancel (a := (q.num : Rat)) hd
  rw [h] at h2
  exact h2
end Go.L

/-! QC -/
namespace Go.L
open Go.PM
set_option exponentiation.threshold 20000
set_option linter.unusedVariables false
set_option linter.unusedSimpArgs false

end Go.L
