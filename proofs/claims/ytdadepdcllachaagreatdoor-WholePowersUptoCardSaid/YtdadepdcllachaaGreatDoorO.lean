/-
  spans: the rest of their functions; what the laws of spans ask. the laws of spans: near, sizes, holds. the laws of spans: nests, sets, tight.
  No condition beyond those that each theorem names.
-/
import Derived.Test.YtdadepdcllachaaGreatDoorN

/-! UA -/
namespace Go.L
open Go.PM
set_option exponentiation.threshold 20000
set_option linter.unusedVariables false
set_option linter.unusedSimpArgs false

/-- span.Meet -/
def span_Meet (a : ((Bool × (List Int) × Unit) × Int × Unit) × ((Bool × (List Int) × Unit) × Int × Unit) × Unit) (b : ((Bool × (List Int) × Unit) × Int × Unit) × ((Bool × (List Int) × Unit) × Int × Unit) × Unit) : Option ((((Bool × (List Int) × Unit) × Int × Unit) × ((Bool × (List Int) × Unit) × Int × Unit) × Unit) × Int × Unit) :=
  (S.dyad_Max (((a.1.1.1, a.1.1.2.1, ()), a.1.2.1, ()), ((b.1.1.1, b.1.1.2.1, ()), b.1.2.1, ()), ())).bind fun z1 =>
  (S.dyad_Min (((a.2.1.1.1, a.2.1.1.2.1, ()), a.2.1.2.1, ()), ((b.2.1.1.1, b.2.1.1.2.1, ()), b.2.1.2.1, ()), ())).bind fun z2 =>
  (S.dyad_Less (((z2.1.1.1, z2.1.1.2.1, ()), z2.1.2.1, ()), ((z1.1.1.1, z1.1.1.2.1, ()), z1.1.2.1, ()), ())).bind fun z3 =>
  cond (z3.1) (some ((((false, [], ()), 0, ()), ((false, [], ()), 0, ()), ()), 4, ()))
   (
   some ((((z1.1.1.1, z1.1.1.2.1, ()), z1.1.2.1, ()), ((z2.1.1.1, z2.1.1.2.1, ()), z2.1.2.1, ()), ()), 0, ()))

def S.span_Meet (x : SP × SP × Unit) : Option (SP × Int × Unit) := L.span_Meet x.1 x.2.1
theorem span_Meet_Sp {l h l' h' e : Int} {k : Nat} (hx : lt2 l h k) (hy : lt2 l' h' k) (hk : k ≤ 490) (h0 : -60000 ≤ e) (h1 : e ≤ 20000) : S.span_Meet (Sp l h e, Sp l' h' e, ()) = some (if min h h' < max l l' then (sp0, 4, ()) else (Sp (max l l') (min h h') e, 0, ())) := by
  have e0 : ∀ (a b : SP), S.span_Meet (a, b, ()) = (S.dyad_Max (a.1, b.1, ())).bind fun z1 => (S.dyad_Min (a.2.1, b.2.1, ())).bind fun z2 => (S.dyad_Less (z2.1, z1.1, ())).bind fun z3 => cond z3.1 (some (sp0, 4, ())) (some ((z1.1, z2.1, ()), 0, ())) := fun _ _ => rfl
  have m1 : (max l l').natAbs < P k := by have := hx.1; have := hy.1; omega
  have m2 : (min h h').natAbs < P k := by have := hx.2; have := hy.2; omega
  rw [e0, dyad_Max_Yd hx.1 hy.1 (by omega) h0 (by omega), Option.bind_some, dyad_Min_Yd hx.2 hy.2 (by omega) h0 (by omega), Option.bind_some]
  simp only
  rw [dyad_Less_Yd m2 m1 (by omega) h0 (by omega), Option.bind_some]
  by_cases hc : min h h' < max l l'
  · rw [ct hc, if_pos hc]
  · rw [cf hc, if_neg hc]
/-- span.Text -/
def span_Text (a : ((Bool × (List Int) × Unit) × Int × Unit) × ((Bool × (List Int) × Unit) × Int × Unit) × Unit) : Option (ByteArray × Unit) :=
  (S.dyad_Ratio (((a.1.1.1, a.1.1.2.1, ()), a.1.2.1, ()), ())).bind fun z1 =>
  (S.dyad_Ratio (((a.2.1.1.1, a.2.1.1.2.1, ()), a.2.1.2.1, ()), ())).bind fun z2 =>
  cond (!(decide (z1.2.1 = 0))) (some ((⟨#[]⟩ : ByteArray), ()))
   (
   cond (!(decide (z2.2.1 = 0))) (some ((⟨#[]⟩ : ByteArray), ()))
   (
   (S.ratio_Text (((z1.1.1.1, z1.1.1.2.1, ()), z1.1.2.1, ()), ())).bind fun z3 =>
   cond (decide (z3.1.size + (⟨#[46, 46]⟩ : ByteArray).size ≤ 9223372036854775807))
   (
   let z4 := z3.1 ++ (⟨#[46, 46]⟩ : ByteArray)
   (S.ratio_Text (((z2.1.1.1, z2.1.1.2.1, ()), z2.1.2.1, ()), ())).bind fun z5 =>
   cond (decide (z4.size + z5.1.size ≤ 9223372036854775807)) (some ((z4 ++ z5.1), ())) none) none))

def S.span_Text (x : SP × Unit) : Option (ByteArray × Unit) := L.span_Text x.1
end Go.L

/-! UB -/
namespace Go.L
open Go.PM
set_option exponentiation.threshold 20000
set_option linter.unusedVariables false
set_option linter.unusedSimpArgs false

theorem rup_few (x : Int) (b : Nat) : few b (rup x b) := few_neg (rdn_few (-x) b)
/-- Products of ratios between dyads. -/
theorem q_mul_mid {l h l' h' e e' : Int} {x y : Rat} (h1 : dv l e ≤ x) (h2 : x ≤ dv h e) (h3 : dv l' e' ≤ y) (h4 : y ≤ dv h' e') : dv (mlo l h l' h') (e + e') ≤ x * y ∧ x * y ≤ dv (mhi l h l' h') (e + e') := by
  have hlh : l ≤ h := dv_le.1 (Rat.le_trans h1 h2)
  have a := dv_mul_le (l := l) (h := h) (x := l) (e := e) (Int.le_refl l) hlh h3 h4
  have b := dv_mul_le (l := l) (h := h) (x := h) (e := e) hlh (Int.le_refl h) h3 h4
  by_cases hy : 0 ≤ y
  · have c1 := Rat.mul_le_mul_of_nonneg_right h1 hy
    have c2 := Rat.mul_le_mul_of_nonneg_right h2 hy
    grind
  · have hy' : 0 ≤ -y := by grind
    have c1 := Rat.mul_le_mul_of_nonneg_right h1 hy'
    have c2 := Rat.mul_le_mul_of_nonneg_right h2 hy'
    grind
end Go.L

/-! UC -/
namespace Go.L
open Go.PM
set_option exponentiation.threshold 20000
set_option linter.unusedVariables false
set_option linter.unusedSimpArgs false

end Go.L
