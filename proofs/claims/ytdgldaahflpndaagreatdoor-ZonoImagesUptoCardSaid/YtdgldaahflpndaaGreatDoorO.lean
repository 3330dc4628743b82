/-
  spans: the rest of their functions; what the laws of spans ask. the laws of spans: near, sizes, holds. the laws of spans: nests, sets, tight.
  No condition beyond those that each theorem names.
-/
import Derived.Test.YtdgldaahflpndaaGreatDoorN

/-! UA -/
namespace Go.L
open Go.PM
set_option exponentiation.threshold 20000
set_option linter.unusedVariables false
set_option linter.unusedSimpArgs false

/-- span.Neg -/
def span_Neg (a : ((Bool × (List Int) × Unit) × Int × Unit) × ((Bool × (List Int) × Unit) × Int × Unit) × Unit) : Option ((((Bool × (List Int) × Unit) × Int × Unit) × ((Bool × (List Int) × Unit) × Int × Unit) × Unit) × Unit) :=
  (S.dyad_Neg (((a.2.1.1.1, a.2.1.1.2.1, ()), a.2.1.2.1, ()), ())).bind fun z1 =>
  (S.dyad_Neg (((a.1.1.1, a.1.1.2.1, ()), a.1.2.1, ()), ())).bind fun z2 =>
  some ((((z1.1.1.1, z1.1.1.2.1, ()), z1.1.2.1, ()), ((z2.1.1.1, z2.1.1.2.1, ()), z2.1.2.1, ()), ()), ())

def S.span_Neg (x : SP × Unit) : Option (SP × Unit) := L.span_Neg x.1
theorem span_Neg_Sp {l h e : Int} {k : Nat} (hx : lt2 l h k) (hk : k ≤ 1000) : S.span_Neg (Sp l h e, ()) = some (Sp (-h) (-l) e, ()) := by
  have e0 : ∀ a : SP, S.span_Neg (a, ()) = (S.dyad_Neg (a.2.1, ())).bind fun z1 => (S.dyad_Neg (a.1, ())).bind fun z2 => some ((z1.1, z2.1, ()), ()) := fun _ => rfl
  rw [e0, dyad_Neg_Yd (P1000 hx.2 hk), Option.bind_some, dyad_Neg_Yd (P1000 hx.1 hk), Option.bind_some]
/-- span.Sub -/
def span_Sub (a : ((Bool × (List Int) × Unit) × Int × Unit) × ((Bool × (List Int) × Unit) × Int × Unit) × Unit) (b : ((Bool × (List Int) × Unit) × Int × Unit) × ((Bool × (List Int) × Unit) × Int × Unit) × Unit) (bits : Int) : Option ((((Bool × (List Int) × Unit) × Int × Unit) × ((Bool × (List Int) × Unit) × Int × Unit) × Unit) × Int × Unit) :=
  (S.span_Neg ((((b.1.1.1, b.1.1.2.1, ()), b.1.2.1, ()), ((b.2.1.1.1, b.2.1.1.2.1, ()), b.2.1.2.1, ()), ()), ())).bind fun z1 =>
  (S.span_Add ((((a.1.1.1, a.1.1.2.1, ()), a.1.2.1, ()), ((a.2.1.1.1, a.2.1.1.2.1, ()), a.2.1.2.1, ()), ()), (((z1.1.1.1.1, z1.1.1.1.2.1, ()), z1.1.1.2.1, ()), ((z1.1.2.1.1.1, z1.1.2.1.1.2.1, ()), z1.1.2.1.2.1, ()), ()), bits, ())).bind fun z2 =>
  some ((((z2.1.1.1.1, z2.1.1.1.2.1, ()), z2.1.1.2.1, ()), ((z2.1.2.1.1.1, z2.1.2.1.1.2.1, ()), z2.1.2.1.2.1, ()), ()), z2.2.1, ())

def S.span_Sub (x : SP × SP × Int × Unit) : Option (SP × Int × Unit) := L.span_Sub x.1 x.2.1 x.2.2.1
theorem lt2_neg {l h : Int} {k : Nat} (hx : lt2 l h k) : lt2 (-h) (-l) k := ⟨by rw [Int.natAbs_neg]; exact hx.2, by rw [Int.natAbs_neg]; exact hx.1⟩
theorem span_Sub_Sp {l h l' h' e : Int} {b k : Nat} (hx : lt2 l h k) (hy : lt2 l' h' k) (hk : k ≤ 490) (h0 : -60000 ≤ e) (h1 : e ≤ 20000) (hb : 2 ≤ b) (hb' : b ≤ 4096) : S.span_Sub (Sp l h e, Sp l' h' e, (b : Int), ()) = some (Sp (rdn (l - h') b) (rup (h - l') b) e, 0, ()) := by
  have e0 : ∀ (a c : SP) (b : Int), S.span_Sub (a, c, b, ()) = (S.span_Neg (c, ())).bind fun z1 => (S.span_Add (a, z1.1, b, ())).bind fun z2 => some z2 := fun _ _ _ => rfl
  rw [e0, span_Neg_Sp hy (by omega), Option.bind_some, span_Add_Sp hx (lt2_neg hy) hk h0 h1 hb hb', Option.bind_some, Int.sub_eq_add_neg, Int.sub_eq_add_neg]
/-- span.Size -/
def span_Size (a : ((Bool × (List Int) × Unit) × Int × Unit) × ((Bool × (List Int) × Unit) × Int × Unit) × Unit) : Option (((Bool × (List Int) × Unit) × Int × Unit) × Unit) :=
  (S.dyad_Abs (((a.1.1.1, a.1.1.2.1, ()), a.1.2.1, ()), ())).bind fun z1 =>
  (S.dyad_Abs (((a.2.1.1.1, a.2.1.1.2.1, ()), a.2.1.2.1, ()), ())).bind fun z2 =>
  (S.dyad_Max (((z1.1.1.1, z1.1.1.2.1, ()), z1.1.2.1, ()), ((z2.1.1.1, z2.1.1.2.1, ()), z2.1.2.1, ()), ())).bind fun z3 =>
  some (((z3.1.1.1, z3.1.1.2.1, ()), z3.1.2.1, ()), ())

def S.span_Size (x : SP × Unit) : Option (DY × Unit) := L.span_Size x.1
theorem span_Size_Sp {l h e : Int} {k : Nat} (hx : lt2 l h k) (hk : k ≤ 490) (h0 : -60000 ≤ e) (h1 : e ≤ 20000) : S.span_Size (Sp l h e, ()) = some (Yd (max (l.natAbs : Int) (h.natAbs : Int)) e, ()) := by
  have e0 : ∀ (a : SP), S.span_Size (a, ()) = (S.dyad_Abs (a.1, ())).bind fun z1 => (S.dyad_Abs (a.2.1, ())).bind fun z2 => (S.dyad_Max (z1.1, z2.1, ())).bind fun z3 => some (z3.1, ()) := fun _ => rfl
  have m1 : ((l.natAbs : Int)).natAbs < P k := by rw [Int.natAbs_natCast]; exact hx.1
  have m2 : ((h.natAbs : Int)).natAbs < P k := by rw [Int.natAbs_natCast]; exact hx.2
  rw [e0, dyad_Abs_Yd (P1000 hx.1 (by omega)), Option.bind_some, dyad_Abs_Yd (P1000 hx.2 (by omega)), Option.bind_some, dyad_Max_Yd m1 m2 (by omega) h0 (by omega), Option.bind_some]
/-- span.Middle -/
def span_Middle (a : ((Bool × (List Int) × Unit) × Int × Unit) × ((Bool × (List Int) × Unit) × Int × Unit) × Unit) : Option (((Bool × (List Int) × Unit) × Int × Unit) × Int × Unit) :=
  (S.dyad_Add (((a.1.1.1, a.1.1.2.1, ()), a.1.2.1, ()), ((a.2.1.1.1, a.2.1.1.2.1, ()), a.2.1.2.1, ()), ())).bind fun z1 =>
  cond (!(decide (z1.2.1 = 0))) (some (((false, [], ()), 0, ()), z1.2.1, ()))
    (
      (S.dyad_Of (1, (-1 : Int), ())).bind fun z2 =>
      (S.dyad_Mul (((z1.1.1.1, z1.1.1.2.1, ()), z1.1.2.1, ()), ((z2.1.1.1, z2.1.1.2.1, ()), z2.1.2.1, ()), ())).bind fun z3 =>
      some (((z3.1.1.1, z3.1.1.2.1, ()), z3.1.2.1, ()), z3.2.1, ()))

def S.span_Middle (x : SP × Unit) : Option (DY × Int × Unit) := L.span_Middle x.1
theorem span_Middle_Sp {l h e : Int} {k : Nat} (hx : lt2 l h k) (hk : k ≤ 490) (h0 : -30000 ≤ e) (h1 : e ≤ 10000) : S.span_Middle (Sp l h e, ()) = some (Yd (l + h) (e - 1), 0, ()) := by
  have e0 : ∀ (a : SP), S.span_Middle (a, ()) = (S.dyad_Add (a.1, a.2.1, ())).bind fun z1 => cond (!(decide (z1.2.1 = 0))) (some (dy0, z1.2.1, ())) ((S.dyad_Of (1, (-1 : Int), ())).bind fun z2 => (S.dyad_Mul (z1.1, z2.1, ())).bind fun z3 => some z3) := fun _ => rfl
  have one : (1 : Int).natAbs < P 1 := P_one 1 (by decide)
  have m := dyad_Mul_Yd (e := e) (f := -1) (nA_add hx.1 hx.2) one (by omega) h0 h1 (by decide) (by decide)
  rw [Int.mul_one] at m
  rw [e0, dyad_Add_Yd hx.1 hx.2 (by omega) (by omega) (by omega), Option.bind_some]
  simp only [decide_true, Bool.not_true, cond_false]
  rw [dyad_Of_one (by decide) (by decide), Option.bind_some, show S.dyad_Mul _ = _ from m, Option.bind_some]
  rfl
end Go.L

/-! UB -/
namespace Go.L
open Go.PM
set_option exponentiation.threshold 20000
set_option linter.unusedVariables false
set_option linter.unusedSimpArgs false

theorem qabs_le {q : Rat} {l h e : Int} (h1 : dv l e ≤ q) (h2 : q ≤ dv h e) : qabs q ≤ dv (max (l.natAbs : Int) (h.natAbs : Int)) e := by
  have a1 : dv (-l) e ≤ dv (max (l.natAbs : Int) (h.natAbs : Int)) e := dv_le.2 (by omega)
  have a2 : dv h e ≤ dv (max (l.natAbs : Int) (h.natAbs : Int)) e := dv_le.2 (by omega)
  rw [dv_neg] at a1
  unfold qabs
  split <;> grind
theorem big_qabs {q : Rat} {k : Nat} (h : big q k) : big (qabs q) k := by
  obtain ⟨h1, h2⟩ := qabs_num q
  unfold big
  rw [h1, h2, Int.natAbs_natCast]; exact h
/-- Products of ratios between dyads. -/
theorem q_mul_mid {l h l' h' e e' : Int} {x y : Rat} (h1 : dv l e ≤ x) (h2 : x ≤ dv h e) (h3 : dv l' e' ≤ y) (h4 : y ≤ dv h' e') : dv (mlo l h l' h') (e + e') ≤ x * y ∧ x * y ≤ dv (mhi l h l' h') (e + e') := by
  have hlh : l ≤ h := dv_le.1 (Rat.le_trans h1 h2)
  have a := dv_mul_le (l := l) (h := h) (x := l) (e := e) (Int.le_refl l) hlh h3 h4
  have b := dv_mul_le (l := l) (h := h) (x := h) (e := e) hlh (Int.le_refl h) h3 h4
  by_cases hy : 0 ≤ y
  · have c1 := Rat.mul_le_mul_of_nonneg_right h1 hy
    have c2 := Rat.mul_le_mul_of_nonneg_right h2 hy
    grind
  · have hy' : 0 ≤ -y := by grind
    have c1 := Rat.mul_le_mul_of_nonneg_right h1 hy'
    have c2 := Rat.mul_le_mul_of_nonneg_right h2 hy'
    grind
end Go.L

/-! UC -/
namespace Go.L
open Go.PM
set_option exponentiation.threshold 20000
set_option linter.unusedVariables false
set_option linter.unusedSimpArgs false

theorem Point_eq (a : DY) : S.span_Point (a, ()) = some ((a, a, ()), ()) := rfl
theorem sub_abs {a b : Int} {k : Nat} (ha : a.natAbs < P k) (hb : b.natAbs < P k) : (a - b).natAbs < P (k + 1) := by
  rw [Int.sub_eq_add_neg]; exact nA_add ha (by rw [Int.natAbs_neg]; exact hb)
end Go.L
