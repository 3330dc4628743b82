/-
  spans: the rest of their functions; what the laws of spans ask. the laws of spans: near, sizes, holds. the laws of spans: nests, sets, tight.
  No condition beyond those that each theorem names.
-/
import Derived.Test.YtblbpaoidlojdaaGreatDoorN

/-! UA -/
namespace Go.L
open Go.PM
set_option exponentiation.threshold 20000
set_option linter.unusedVariables false
set_option linter.unusedSimpArgs false

/-- span.Make -/
def span_Make (lo : (Bool × (List Int) × Unit) × Int × Unit) (hi : (Bool × (List Int) × Unit) × Int × Unit) : Option ((((Bool × (List Int) × Unit) × Int × Unit) × ((Bool × (List Int) × Unit) × Int × Unit) × Unit) × Int × Unit) :=
  (S.dyad_Less (((hi.1.1, hi.1.2.1, ()), hi.2.1, ()), ((lo.1.1, lo.1.2.1, ()), lo.2.1, ()), ())).bind fun z1 =>
  cond (z1.1) (some ((((false, [], ()), 0, ()), ((false, [], ()), 0, ()), ()), 1, ()))
    (
      some ((((lo.1.1, lo.1.2.1, ()), lo.2.1, ()), ((hi.1.1, hi.1.2.1, ()), hi.2.1, ()), ()), 0, ()))

def S.span_Make (x : DY × DY × Unit) : Option (SP × Int × Unit) := L.span_Make x.1 x.2.1
/-- span.Neg -/
def span_Neg (a : ((Bool × (List Int) × Unit) × Int × Unit) × ((Bool × (List Int) × Unit) × Int × Unit) × Unit) : Option ((((Bool × (List Int) × Unit) × Int × Unit) × ((Bool × (List Int) × Unit) × Int × Unit) × Unit) × Unit) :=
  (S.dyad_Neg (((a.2.1.1.1, a.2.1.1.2.1, ()), a.2.1.2.1, ()), ())).bind fun z1 =>
  (S.dyad_Neg (((a.1.1.1, a.1.1.2.1, ()), a.1.2.1, ()), ())).bind fun z2 =>
  some ((((z1.1.1.1, z1.1.1.2.1, ()), z1.1.2.1, ()), ((z2.1.1.1, z2.1.1.2.1, ()), z2.1.2.1, ()), ()), ())

def S.span_Neg (x : SP × Unit) : Option (SP × Unit) := L.span_Neg x.1
theorem span_Neg_Sp {l h e : Int} {k : Nat} (hx : lt2 l h k) (hk : k ≤ 1000) : S.span_Neg (Sp l h e, ()) = some (Sp (-h) (-l) e, ()) := by
  have e0 : ∀ a : SP, S.span_Neg (a, ()) = (S.dyad_Neg (a.2.1, ())).bind fun z1 => (S.dyad_Neg (a.1, ())).bind fun z2 => some ((z1.1, z2.1, ()), ()) := fun _ => rfl
  rw [e0, dyad_Neg_Yd (P1000 hx.2 hk), Option.bind_some, dyad_Neg_Yd (P1000 hx.1 hk), Option.bind_some]
/-- span.Sub -/
def span_Sub (a : ((Bool × (List Int) × Unit) × Int × Unit) × ((Bool × (List Int) × Unit) × Int × Unit) × Unit) (b : ((Bool × (List Int) × Unit) × Int × Unit) × ((Bool × (List Int) × Unit) × Int × Unit) × Unit) (bits : Int) : Option ((((Bool × (List Int) × Unit) × Int × Unit) × ((Bool × (List Int) × Unit) × Int × Unit) × Unit) × Int × Unit) :=
  (S.span_Neg ((((b.1.1.1, b.1.1.2.1, ()), b.1.2.1, ()), ((b.2.1.1.1, b.2.1.1.2.1, ()), b.2.1.2.1, ()), ()), ())).bind fun z1 =>
  (S.span_Add ((((a.1.1.1, a.1.1.2.1, ()), a.1.2.1, ()), ((a.2.1.1.1, a.2.1.1.2.1, ()), a.2.1.2.1, ()), ()), (((z1.1.1.1.1, z1.1.1.1.2.1, ()), z1.1.1.2.1, ()), ((z1.1.2.1.1.1, z1.1.2.1.1.2.1, ()), z1.1.2.1.2.1, ()), ()), bits, ())).bind fun z2 =>
  some ((((z2.1.1.1.1, z2.1.1.1.2.1, ()), z2.1.1.2.1, ()), ((z2.1.2.1.1.1, z2.1.2.1.1.2.1, ()), z2.1.2.1.2.1, ()), ()), z2.2.1, ())

def S.span_Sub (x : SP × SP × Int × Unit) : Option (SP × Int × Unit) := L.span_Sub x.1 x.2.1 x.2.2.1
theorem lt2_neg {l h : Int} {k : Nat} (hx : lt2 l h k) : lt2 (-h) (-l) k := ⟨by rw [Int.natAbs_neg]; exact hx.2, by rw [Int.natAbs_neg]; exact hx.1⟩
theorem span_Sub_Sp {l h l' h' e : Int} {b k : Nat} (hx : lt2 l h k) (hy : lt2 l' h' k) (hk : k ≤ 490) (h0 : -60000 ≤ e) (h1 : e ≤ 20000) (hb : 2 ≤ b) (hb' : b ≤ 4096) : S.span_Sub (Sp l h e, Sp l' h' e, (b : Int), ()) = some (Sp (rdn (l - h') b) (rup (h - l') b) e, 0, ()) := by
  have e0 : ∀ (a c : SP) (b : Int), S.span_Sub (a, c, b, ()) = (S.span_Neg (c, ())).bind fun z1 => (S.span_Add (a, z1.1, b, ())).bind fun z2 => some z2 := fun _ _ _ => rfl
  rw [e0, span_Neg_Sp hy (by omega), Option.bind_some, span_Add_Sp hx (lt2_neg hy) hk h0 h1 hb hb', Option.bind_some, Int.sub_eq_add_neg, Int.sub_eq_add_neg]
/-- span.Round -/
def span_Round (a : ((Bool × (List Int) × Unit) × Int × Unit) × ((Bool × (List Int) × Unit) × Int × Unit) × Unit) (bits : Int) : Option ((((Bool × (List Int) × Unit) × Int × Unit) × ((Bool × (List Int) × Unit) × Int × Unit) × Unit) × Int × Unit) :=
  (S.span_out (((a.1.1.1, a.1.1.2.1, ()), a.1.2.1, ()), ((a.2.1.1.1, a.2.1.1.2.1, ()), a.2.1.2.1, ()), bits, ())).bind fun z1 =>
  some ((((z1.1.1.1.1, z1.1.1.1.2.1, ()), z1.1.1.2.1, ()), ((z1.1.2.1.1.1, z1.1.2.1.1.2.1, ()), z1.1.2.1.2.1, ()), ()), z1.2.1, ())

def S.span_Round (x : SP × Int × Unit) : Option (SP × Int × Unit) := L.span_Round x.1 x.2.1
theorem span_Round_Sp {l h e : Int} {b k : Nat} (hx : lt2 l h k) (hk : k ≤ 490) (h0 : -60000 ≤ e) (h1 : e ≤ 20000) (hb : 2 ≤ b) (hb' : b ≤ 4096) : S.span_Round (Sp l h e, (b : Int), ()) = some (Sp (rdn l b) (rup h b) e, 0, ()) := by
  have e0 : ∀ (a : SP) (b : Int), S.span_Round (a, b, ()) = (S.span_out (a.1, a.2.1, b, ())).bind fun z1 => some z1 := fun _ _ => rfl
  rw [e0, span_out_Yd hx.1 hx.2 (by omega) h0 h1 hb hb', Option.bind_some]
/-- span.Meet -/
def span_Meet (a : ((Bool × (List Int) × Unit) × Int × Unit) × ((Bool × (List Int) × Unit) × Int × Unit) × Unit) (b : ((Bool × (List Int) × Unit) × Int × Unit) × ((Bool × (List Int) × Unit) × Int × Unit) × Unit) : Option ((((Bool × (List Int) × Unit) × Int × Unit) × ((Bool × (List Int) × Unit) × Int × Unit) × Unit) × Int × Unit) :=
  (S.dyad_Max (((a.1.1.1, a.1.1.2.1, ()), a.1.2.1, ()), ((b.1.1.1, b.1.1.2.1, ()), b.1.2.1, ()), ())).bind fun z1 =>
  (S.dyad_Min (((a.2.1.1.1, a.2.1.1.2.1, ()), a.2.1.2.1, ()), ((b.2.1.1.1, b.2.1.1.2.1, ()), b.2.1.2.1, ()), ())).bind fun z2 =>
  (S.dyad_Less (((z2.1.1.1, z2.1.1.2.1, ()), z2.1.2.1, ()), ((z1.1.1.1, z1.1.1.2.1, ()), z1.1.2.1, ()), ())).bind fun z3 =>
  cond (z3.1) (some ((((false, [], ()), 0, ()), ((false, [], ()), 0, ()), ()), 4, ()))
    (
      some ((((z1.1.1.1, z1.1.1.2.1, ()), z1.1.2.1, ()), ((z2.1.1.1, z2.1.1.2.1, ()), z2.1.2.1, ()), ()), 0, ()))

def S.span_Meet (x : SP × SP × Unit) : Option (SP × Int × Unit) := L.span_Meet x.1 x.2.1
theorem span_Meet_Sp {l h l' h' e : Int} {k : Nat} (hx : lt2 l h k) (hy : lt2 l' h' k) (hk : k ≤ 490) (h0 : -60000 ≤ e) (h1 : e ≤ 20000) : S.span_Meet (Sp l h e, Sp l' h' e, ()) = some (if min h h' < max l l' then (sp0, 4, ()) else (Sp (max l l') (min h h') e, 0, ())) := by
  have e0 : ∀ (a b : SP), S.span_Meet (a, b, ()) = (S.dyad_Max (a.1, b.1, ())).bind fun z1 => (S.dyad_Min (a.2.1, b.2.1, ())).bind fun z2 => (S.dyad_Less (z2.1, z1.1, ())).bind fun z3 => cond z3.1 (some (sp0, 4, ())) (some ((z1.1, z2.1, ()), 0, ())) := fun _ _ => rfl
  have m1 : (max l l').natAbs < P k := by have := hx.1; have := hy.1; omega
  have m2 : (min h h').natAbs < P k := by have := hx.2; have := hy.2; omega
  rw [e0, dyad_Max_Yd hx.1 hy.1 (by omega) h0 (by omega), Option.bind_some, dyad_Min_Yd hx.2 hy.2 (by omega) h0 (by omega), Option.bind_some]
  simp only
  rw [dyad_Less_Yd m2 m1 (by omega) h0 (by omega), Option.bind_some]
  by_cases hc : min h h' < max l l'
  · rw [ct hc, if_pos hc]
  · rw [cf hc, if_neg hc]
/-- span.Size -/
def span_Size (a : ((Bool × (List Int) × Unit) × Int × Unit) × ((Bool × (List Int) × Unit) × Int × Unit) × Unit) : Option (((Bool × (List Int) × Unit) × Int × Unit) × Unit) :=
  (S.dyad_Abs (((a.1.1.1, a.1.1.2.1, ()), a.1.2.1, ()), ())).bind fun z1 =>
  (S.dyad_Abs (((a.2.1.1.1, a.2.1.1.2.1, ()), a.2.1.2.1, ()), ())).bind fun z2 =>
  (S.dyad_Max (((z1.1.1.1, z1.1.1.2.1, ()), z1.1.2.1, ()), ((z2.1.1.1, z2.1.1.2.1, ()), z2.1.2.1, ()), ())).bind fun z3 =>
  some (((z3.1.1.1, z3.1.1.2.1, ()), z3.1.2.1, ()), ())

def S.span_Size (x : SP × Unit) : Option (DY × Unit) := L.span_Size x.1
theorem span_Size_Sp {l h e : Int} {k : Nat} (hx : lt2 l h k) (hk : k ≤ 490) (h0 : -60000 ≤ e) (h1 : e ≤ 20000) : S.span_Size (Sp l h e, ()) = some (Yd (max (l.natAbs : Int) (h.natAbs : Int)) e, ()) := by
  have e0 : ∀ (a : SP), S.span_Size (a, ()) = (S.dyad_Abs (a.1, ())).bind fun z1 => (S.dyad_Abs (a.2.1, ())).bind fun z2 => (S.dyad_Max (z1.1, z2.1, ())).bind fun z3 => some (z3.1, ()) := fun _ => rfl
  have m1 : ((l.natAbs : Int)).natAbs < P k := by rw [Int.natAbs_natCast]; exact hx.1
  have m2 : ((h.natAbs : Int)).natAbs < P k := by rw [Int.natAbs_natCast]; exact hx.2
  rw [e0, dyad_Abs_Yd (P1000 hx.1 (by omega)), Option.bind_some, dyad_Abs_Yd (P1000 hx.2 (by omega)), Option.bind_some, dyad_Max_Yd m1 m2 (by omega) h0 (by omega), Option.bind_some]
/-- span.Middle -/
def span_Middle (a : ((Bool × (List Int) × Unit) × Int × Unit) × ((Bool × (List Int) × Unit) × Int × Unit) × Unit) : Option (((Bool × (List Int) × Unit) × Int × Unit) × Int × Unit) :=
  (S.dyad_Add (((a.1.1.1, a.1.1.2.1, ()), a.1.2.1, ()), ((a.2.1.1.1, a.2.1.1.2.1, ()), a.2.1.2.1, ()), ())).bind fun z1 =>
  cond (!(decide (z1.2.1 = 0))) (some (((false, [], ()), 0, ()), z1.2.1, ()))
    (
      (S.dyad_Of (1, (-1 : Int), ())).bind fun z2 =>
      (S.dyad_Mul (((z1.1.1.1, z1.1.1.2.1, ()), z1.1.2.1, ()), ((z2.1.1.1, z2.1.1.2.1, ()), z2.1.2.1, ()), ())).bind fun z3 =>
      some (((z3.1.1.1, z3.1.1.2.1, ()), z3.1.2.1, ()), z3.2.1, ()))

def S.span_Middle (x : SP × Unit) : Option (DY × Int × Unit) := L.span_Middle x.1
theorem span_Middle_Sp {l h e : Int} {k : Nat} (hx : lt2 l h k) (hk : k ≤ 490) (h0 : -30000 ≤ e) (h1 : e ≤ 10000) : S.span_Middle (Sp l h e, ()) = some (Yd (l + h) (e - 1), 0, ()) := by
  have e0 : ∀ (a : SP), S.span_Middle (a, ()) = (S.dyad_Add (a.1, a.2.1, ())).bind fun z1 => cond (!(decide (z1.2.1 = 0))) (some (dy0, z1.2.1, ())) ((S.dyad_Of (1, (-1 : Int), ())).bind fun z2 => (S.dyad_Mul (z1.1, z2.1, ())).bind fun z3 => some z3) := fun _ => rfl
  have one : (1 : Int).natAbs < P 1 := P_one 1 (by decide)
  have m := dyad_Mul_Yd (e := e) (f := -1) (nA_add hx.1 hx.2) one (by omega) h0 h1 (by decide) (by decide)
  rw [Int.mul_one] at m
  rw [e0, dyad_Add_Yd hx.1 hx.2 (by omega) (by omega) (by omega), Option.bind_some]
  simp only [decide_true, Bool.not_true, cond_false]
  rw [dyad_Of_one (by decide) (by decide), Option.bind_some, show S.dyad_Mul _ = _ from m, Option.bind_some]
  rfl
/-- span_Sum: one round of loop 0. -/
def span_Sum_s0 (κ0 : Int → Bool → (List Int) → Int → Bool → (List Int) → Int → Bool → (List Int) → Int → Bool → (List Int) → Int → (List (((Bool × (List Int) × Unit) × Int × Unit) × ((Bool × (List Int) × Unit) × Int × Unit) × Unit)) → Int → Int → Option ((((Bool × (List Int) × Unit) × Int × Unit) × ((Bool × (List Int) × Unit) × Int × Unit) × Unit) × Int × Unit)) (bits : Int) (t4_0 : Bool) (t4_1 : List Int) (t4_2 : Int) (t4_3 : Bool) (t4_4 : List Int) (t4_5 : Int) (all_0 : Bool) (all_1 : List Int) (all_2 : Int) (all_3 : Bool) (all_4 : List Int) (all_5 : Int) (t10 : List (((Bool × (List Int) × Unit) × Int × Unit) × ((Bool × (List Int) × Unit) × Int × Unit) × Unit)) (t11 : Int) (t12 : Int) : Option ((((Bool × (List Int) × Unit) × Int × Unit) × ((Bool × (List Int) × Unit) × Int × Unit) × Unit) × Int × Unit) :=
  cond (decide (t12 < t11))
    (
      cond (decide (0 ≤ t12))
        (
          cond (decide (t12 < (t10.length : Int)))
            (
              let z1 := t10.getD t12.toNat (((false, ([], ())), (0, ())), (((false, ([], ())), (0, ())), ()))
              (S.span_Add ((((all_0, all_1, ()), all_2, ()), ((all_3, all_4, ()), all_5, ()), ()), (((z1.1.1.1, z1.1.1.2.1, ()), z1.1.2.1, ()), ((z1.2.1.1.1, z1.2.1.1.2.1, ()), z1.2.1.2.1, ()), ()), bits, ())).bind fun z2 =>
              cond (!(decide (z2.2.1 = 0))) (some ((((false, [], ()), 0, ()), ((false, [], ()), 0, ()), ()), z2.2.1, ()))
                (
                  κ0 bits t4_0 t4_1 t4_2 t4_3 t4_4 t4_5 z2.1.1.1.1 z2.1.1.1.2.1 z2.1.1.2.1 z2.1.2.1.1.1 z2.1.2.1.1.2.1 z2.1.2.1.2.1 t10 t11 (IntKind.i64.wrap (t12 + 1)))) none) none) (some ((((all_0, all_1, ()), all_2, ()), ((all_3, all_4, ()), all_5, ()), ()), 0, ()))

def span_Sum_l0 (K : Nat) : Nat → Int → Bool → (List Int) → Int → Bool → (List Int) → Int → Bool → (List Int) → Int → Bool → (List Int) → Int → (List (((Bool × (List Int) × Unit) × Int × Unit) × ((Bool × (List Int) × Unit) × Int × Unit) × Unit)) → Int → Int → Option ((((Bool × (List Int) × Unit) × Int × Unit) × ((Bool × (List Int) × Unit) × Int × Unit) × Unit) × Int × Unit)
  | 0, _, _, _, _, _, _, _, _, _, _, _, _, _, _, _, _ => none
  | n + 1, bits, t4_0, t4_1, t4_2, t4_3, t4_4, t4_5, all_0, all_1, all_2, all_3, all_4, all_5, t10, t11, t12 => span_Sum_s0 (span_Sum_l0 K n) bits t4_0 t4_1 t4_2 t4_3 t4_4 t4_5 all_0 all_1 all_2 all_3 all_4 all_5 t10 t11 t12

/-- span.Sum -/
def span_Sum_b (I0 : Int → Bool → (List Int) → Int → Bool → (List Int) → Int → Bool → (List Int) → Int → Bool → (List Int) → Int → (List (((Bool × (List Int) × Unit) × Int × Unit) × ((Bool × (List Int) × Unit) × Int × Unit) × Unit)) → Int → Int → Option ((((Bool × (List Int) × Unit) × Int × Unit) × ((Bool × (List Int) × Unit) × Int × Unit) × Unit) × Int × Unit)) (bits : Int) (list : List (((Bool × (List Int) × Unit) × Int × Unit) × ((Bool × (List Int) × Unit) × Int × Unit) × Unit)) : Option ((((Bool × (List Int) × Unit) × Int × Unit) × ((Bool × (List Int) × Unit) × Int × Unit) × Unit) × Int × Unit) :=
  I0 bits false [] 0 false [] 0 false [] 0 false [] 0 list (list.length : Int) 0

def span_Sum (K : Nat) (bits : Int) (list : List (((Bool × (List Int) × Unit) × Int × Unit) × ((Bool × (List Int) × Unit) × Int × Unit) × Unit)) : Option ((((Bool × (List Int) × Unit) × Int × Unit) × ((Bool × (List Int) × Unit) × Int × Unit) × Unit) × Int × Unit) := span_Sum_b (span_Sum_l0 K K) bits list

def S.span_Sum (x : Int × List SP × Unit) : Option (SP × Int × Unit) := L.span_Sum 100 x.1 x.2.1
/-- span.Text -/
def span_Text (a : ((Bool × (List Int) × Unit) × Int × Unit) × ((Bool × (List Int) × Unit) × Int × Unit) × Unit) : Option (ByteArray × Unit) :=
  (S.dyad_Ratio (((a.1.1.1, a.1.1.2.1, ()), a.1.2.1, ()), ())).bind fun z1 =>
  (S.dyad_Ratio (((a.2.1.1.1, a.2.1.1.2.1, ()), a.2.1.2.1, ()), ())).bind fun z2 =>
  cond (!(decide (z1.2.1 = 0))) (some ((⟨#[]⟩ : ByteArray), ()))
    (
      cond (!(decide (z2.2.1 = 0))) (some ((⟨#[]⟩ : ByteArray), ()))
        (
          (S.ratio_Text (((z1.1.1.1, z1.1.1.2.1, ()), z1.1.2.1, ()), ())).bind fun z3 =>
          cond (decide (z3.1.size + (⟨#[46, 46]⟩ : ByteArray).size ≤ 9223372036854775807))
            (
              let z4 := z3.1 ++ (⟨#[46, 46]⟩ : ByteArray)
              (S.ratio_Text (((z2.1.1.1, z2.1.1.2.1, ()), z2.1.2.1, ()), ())).bind fun z5 =>
              cond (decide (z4.size + z5.1.size ≤ 9223372036854775807)) (some ((z4 ++ z5.1), ())) none) none))

def S.span_Text (x : SP × Unit) : Option (ByteArray × Unit) := L.span_Text x.1
def str_352f3136_11 : ByteArray := (⟨#[53, 47, 49, 54, 46, 46, 49, 49, 47, 51, 50]⟩ : ByteArray)
/-- girdlelaw06.between -/
def w06_between  : Option (Bool × Unit) :=
  (S.dyad_Of (1, 0, ())).bind fun z1 =>
  (S.dyad_Of (2, 0, ())).bind fun z2 =>
  (S.span_Make (((z1.1.1.1, z1.1.1.2.1, ()), z1.1.2.1, ()), ((z2.1.1.1, z2.1.1.2.1, ()), z2.1.2.1, ()), ())).bind fun z3 =>
  (S.dyad_Of ((-1 : Int), 0, ())).bind fun z4 =>
  (S.dyad_Of (3, 0, ())).bind fun z5 =>
  (S.span_Make (((z4.1.1.1, z4.1.1.2.1, ()), z4.1.2.1, ()), ((z5.1.1.1, z5.1.1.2.1, ()), z5.1.2.1, ()), ())).bind fun z6 =>
  (S.span_Add ((((z3.1.1.1.1, z3.1.1.1.2.1, ()), z3.1.1.2.1, ()), ((z3.1.2.1.1.1, z3.1.2.1.1.2.1, ()), z3.1.2.1.2.1, ()), ()), (((z6.1.1.1.1, z6.1.1.1.2.1, ()), z6.1.1.2.1, ()), ((z6.1.2.1.1.1, z6.1.2.1.1.2.1, ()), z6.1.2.1.2.1, ()), ()), 20, ())).bind fun z7 =>
  (S.span_Sub ((((z3.1.1.1.1, z3.1.1.1.2.1, ()), z3.1.1.2.1, ()), ((z3.1.2.1.1.1, z3.1.2.1.1.2.1, ()), z3.1.2.1.2.1, ()), ()), (((z6.1.1.1.1, z6.1.1.1.2.1, ()), z6.1.1.2.1, ()), ((z6.1.2.1.1.1, z6.1.2.1.1.2.1, ()), z6.1.2.1.2.1, ()), ()), 20, ())).bind fun z8 =>
  (S.span_Mul ((((z3.1.1.1.1, z3.1.1.1.2.1, ()), z3.1.1.2.1, ()), ((z3.1.2.1.1.1, z3.1.2.1.1.2.1, ()), z3.1.2.1.2.1, ()), ()), (((z6.1.1.1.1, z6.1.1.1.2.1, ()), z6.1.1.2.1, ()), ((z6.1.2.1.1.1, z6.1.2.1.1.2.1, ()), z6.1.2.1.2.1, ()), ()), 20, ())).bind fun z9 =>
  (S.ratio_Of (1, 3, ())).bind fun z10 =>
  (S.span_Near (((z10.1.1.1, z10.1.1.2.1, ()), z10.1.2.1, ()), 4, ())).bind fun z11 =>
  (S.span_Meet ((((z3.1.1.1.1, z3.1.1.1.2.1, ()), z3.1.1.2.1, ()), ((z3.1.2.1.1.1, z3.1.2.1.1.2.1, ()), z3.1.2.1.2.1, ()), ()), (((z6.1.1.1.1, z6.1.1.1.2.1, ()), z6.1.1.2.1, ()), ((z6.1.2.1.1.1, z6.1.2.1.1.2.1, ()), z6.1.2.1.2.1, ()), ()), ())).bind fun z12 =>
  (S.span_Width ((((z6.1.1.1.1, z6.1.1.1.2.1, ()), z6.1.1.2.1, ()), ((z6.1.2.1.1.1, z6.1.2.1.1.2.1, ()), z6.1.2.1.2.1, ()), ()), ())).bind fun z13 =>
  (S.span_Middle ((((z3.1.1.1.1, z3.1.1.1.2.1, ()), z3.1.1.2.1, ()), ((z3.1.2.1.1.1, z3.1.2.1.1.2.1, ()), z3.1.2.1.2.1, ()), ()), ())).bind fun z14 =>
  (S.span_Sum (20, [(((z3.1.1.1.1, z3.1.1.1.2.1, ()), z3.1.1.2.1, ()), ((z3.1.2.1.1.1, z3.1.2.1.1.2.1, ()), z3.1.2.1.2.1, ()), ()), (((z3.1.1.1.1, z3.1.1.1.2.1, ()), z3.1.1.2.1, ()), ((z3.1.2.1.1.1, z3.1.2.1.1.2.1, ()), z3.1.2.1.2.1, ()), ()), (((z6.1.1.1.1, z6.1.1.1.2.1, ()), z6.1.1.2.1, ()), ((z6.1.2.1.1.1, z6.1.2.1.1.2.1, ()), z6.1.2.1.2.1, ()), ())], ())).bind fun z15 =>
  (S.ratio_Of (1, 3, ())).bind fun z16 =>
  (S.span_HasRatio ((((z11.1.1.1.1, z11.1.1.1.2.1, ()), z11.1.1.2.1, ()), ((z11.1.2.1.1.1, z11.1.2.1.1.2.1, ()), z11.1.2.1.2.1, ()), ()), ((z16.1.1.1, z16.1.1.2.1, ()), z16.1.2.1, ()), ())).bind fun z17 =>
  (S.span_Round ((((z11.1.1.1.1, z11.1.1.1.2.1, ()), z11.1.1.2.1, ()), ((z11.1.2.1.1.1, z11.1.2.1.1.2.1, ()), z11.1.2.1.2.1, ()), ()), 2, ())).bind fun z18 =>
  (S.dyad_Of (2, 0, ())).bind fun z19 =>
  (S.dyad_Of (1, 0, ())).bind fun z20 =>
  (S.span_Make (((z19.1.1.1, z19.1.1.2.1, ()), z19.1.2.1, ()), ((z20.1.1.1, z20.1.1.2.1, ()), z20.1.2.1, ()), ())).bind fun z21 =>
  cond (decide ((IntKind.i64.wrap ((IntKind.i64.wrap ((IntKind.i64.wrap ((IntKind.i64.wrap ((IntKind.i64.wrap ((IntKind.i64.wrap ((IntKind.i64.wrap ((IntKind.i64.wrap ((IntKind.i64.wrap ((IntKind.i64.wrap ((IntKind.i64.wrap (z3.2.1 + z6.2.1)) + z7.2.1)) + z8.2.1)) + z9.2.1)) + z11.2.1)) + z12.2.1)) + z13.2.1)) + z14.2.1)) + z15.2.1)) + z17.2.1)) + z18.2.1)) = 0))
    (
      cond (decide (z21.2.1 = 1))
        (
          (S.span_Text ((((z7.1.1.1.1, z7.1.1.1.2.1, ()), z7.1.1.2.1, ()), ((z7.1.2.1.1.1, z7.1.2.1.1.2.1, ()), z7.1.2.1.2.1, ()), ()), ())).bind fun z33 =>
          cond ((z33.1.toList == (⟨#[48, 46, 46, 53]⟩ : ByteArray).toList))
            (
              (S.span_Text ((((z8.1.1.1.1, z8.1.1.1.2.1, ()), z8.1.1.2.1, ()), ((z8.1.2.1.1.1, z8.1.2.1.1.2.1, ()), z8.1.2.1.2.1, ()), ()), ())).bind fun z34 =>
              cond ((z34.1.toList == (⟨#[45, 50, 46, 46, 51]⟩ : ByteArray).toList))
                (
                  (S.span_Text ((((z9.1.1.1.1, z9.1.1.1.2.1, ()), z9.1.1.2.1, ()), ((z9.1.2.1.1.1, z9.1.2.1.1.2.1, ()), z9.1.2.1.2.1, ()), ()), ())).bind fun z35 =>
                  cond ((z35.1.toList == (⟨#[45, 50, 46, 46, 54]⟩ : ByteArray).toList))
                    (
                      (S.span_Text ((((z11.1.1.1.1, z11.1.1.1.2.1, ()), z11.1.1.2.1, ()), ((z11.1.2.1.1.1, z11.1.2.1.1.2.1, ()), z11.1.2.1.2.1, ()), ()), ())).bind fun z36 =>
                      cond ((z36.1.toList == str_352f3136_11.toList))
                        (
                          (S.span_Text ((((z12.1.1.1.1, z12.1.1.1.2.1, ()), z12.1.1.2.1, ()), ((z12.1.2.1.1.1, z12.1.2.1.1.2.1, ()), z12.1.2.1.2.1, ()), ()), ())).bind fun z37 =>
                          cond ((z37.1.toList == (⟨#[49, 46, 46, 50]⟩ : ByteArray).toList))
                            (
                              (S.dyad_Of (4, 0, ())).bind fun z38 =>
                              (S.dyad_Compare (((z13.1.1.1, z13.1.1.2.1, ()), z13.1.2.1, ()), ((z38.1.1.1, z38.1.1.2.1, ()), z38.1.2.1, ()), ())).bind fun z39 =>
                              cond (decide (z39.1 = 0))
                                (
                                  (S.dyad_Of (3, (-1 : Int), ())).bind fun z40 =>
                                  (S.dyad_Compare (((z14.1.1.1, z14.1.1.2.1, ()), z14.1.2.1, ()), ((z40.1.1.1, z40.1.1.2.1, ()), z40.1.2.1, ()), ())).bind fun z41 =>
                                  cond (decide (z41.1 = 0))
                                    (
                                      (S.span_Text ((((z15.1.1.1.1, z15.1.1.1.2.1, ()), z15.1.1.2.1, ()), ((z15.1.2.1.1.1, z15.1.2.1.1.2.1, ()), z15.1.2.1.2.1, ()), ()), ())).bind fun z42 =>
                                      cond ((z42.1.toList == (⟨#[49, 46, 46, 55]⟩ : ByteArray).toList))
                                        (
                                          cond (z17.1)
                                            (
                                              (S.span_Holds ((((z18.1.1.1.1, z18.1.1.1.2.1, ()), z18.1.1.2.1, ()), ((z18.1.2.1.1.1, z18.1.2.1.1.2.1, ()), z18.1.2.1.2.1, ()), ()), (((z11.1.1.1.1, z11.1.1.1.2.1, ()), z11.1.1.2.1, ()), ((z11.1.2.1.1.1, z11.1.2.1.1.2.1, ()), z11.1.2.1.2.1, ()), ()), ())).bind fun z43 =>
                                              cond (z43.1)
                                                (
                                                  (S.span_Hull ((((z3.1.1.1.1, z3.1.1.1.2.1, ()), z3.1.1.2.1, ()), ((z3.1.2.1.1.1, z3.1.2.1.1.2.1, ()), z3.1.2.1.2.1, ()), ()), (((z6.1.1.1.1, z6.1.1.1.2.1, ()), z6.1.1.2.1, ()), ((z6.1.2.1.1.1, z6.1.2.1.1.2.1, ()), z6.1.2.1.2.1, ()), ()), ())).bind fun z44 =>
                                                  (S.span_Text ((((z44.1.1.1.1, z44.1.1.1.2.1, ()), z44.1.1.2.1, ()), ((z44.1.2.1.1.1, z44.1.2.1.1.2.1, ()), z44.1.2.1.2.1, ()), ()), ())).bind fun z45 =>
                                                  cond ((z45.1.toList == (⟨#[45, 49, 46, 46, 51]⟩ : ByteArray).toList))
                                                    (
                                                      (S.dyad_Of (0, 0, ())).bind fun z46 =>
                                                      (S.span_Has ((((z6.1.1.1.1, z6.1.1.1.2.1, ()), z6.1.1.2.1, ()), ((z6.1.2.1.1.1, z6.1.2.1.1.2.1, ()), z6.1.2.1.2.1, ()), ()), ((z46.1.1.1, z46.1.1.2.1, ()), z46.1.2.1, ()), ())).bind fun z47 =>
                                                      cond (z47.1)
                                                        (
                                                          (S.span_Size ((((z6.1.1.1.1, z6.1.1.1.2.1, ()), z6.1.1.2.1, ()), ((z6.1.2.1.1.1, z6.1.2.1.1.2.1, ()), z6.1.2.1.2.1, ()), ()), ())).bind fun z48 =>
                                                          (S.dyad_Of (3, 0, ())).bind fun z49 =>
                                                          (S.dyad_Compare (((z48.1.1.1, z48.1.1.2.1, ()), z48.1.2.1, ()), ((z49.1.1.1, z49.1.1.2.1, ()), z49.1.2.1, ()), ())).bind fun z50 =>
                                                          cond (decide (z50.1 = 0))
                                                            (
                                                              (S.span_Neg ((((z3.1.1.1.1, z3.1.1.1.2.1, ()), z3.1.1.2.1, ()), ((z3.1.2.1.1.1, z3.1.2.1.1.2.1, ()), z3.1.2.1.2.1, ()), ()), ())).bind fun z51 =>
                                                              (S.span_Text ((((z51.1.1.1.1, z51.1.1.1.2.1, ()), z51.1.1.2.1, ()), ((z51.1.2.1.1.1, z51.1.2.1.1.2.1, ()), z51.1.2.1.2.1, ()), ()), ())).bind fun z52 =>
                                                              cond ((z52.1.toList == (⟨#[45, 50, 46, 46, 45, 49]⟩ : ByteArray).toList))
                                                                (
                                                                  (S.dyad_Of (1, 1, ())).bind fun z53 =>
                                                                  (S.span_Point (((z53.1.1.1, z53.1.1.2.1, ()), z53.1.2.1, ()), ())).bind fun z54 =>
                                                                  (S.span_Text ((((z54.1.1.1.1, z54.1.1.1.2.1, ()), z54.1.1.2.1, ()), ((z54.1.2.1.1.1, z54.1.2.1.1.2.1, ()), z54.1.2.1.2.1, ()), ()), ())).bind fun z55 =>
                                                                  cond ((z55.1.toList == (⟨#[50, 46, 46, 50]⟩ : ByteArray).toList))
                                                                    (
                                                                      (S.dyad_Of ((-1 : Int), 0, ())).bind fun z56 =>
                                                                      (S.span_Even (((z56.1.1.1, z56.1.1.2.1, ()), z56.1.2.1, ()), ())).bind fun z57 =>
                                                                      (S.span_Text ((((z57.1.1.1.1, z57.1.1.1.2.1, ()), z57.1.1.2.1, ()), ((z57.1.2.1.1.1, z57.1.2.1.1.2.1, ()), z57.1.2.1.2.1, ()), ()), ())).bind fun z58 =>
                                                                      cond ((z58.1.toList == (⟨#[45, 49, 46, 46, 49]⟩ : ByteArray).toList))
                                                                        (
                                                                          (S.span_Check ((((z3.1.1.1.1, z3.1.1.1.2.1, ()), z3.1.1.2.1, ()), ((z3.1.2.1.1.1, z3.1.2.1.1.2.1, ()), z3.1.2.1.2.1, ()), ()), ())).bind fun z59 =>
                                                                          some (decide (z59.1 = 0), ())) (some (false, ()))) (some (false, ()))) (some (false, ()))) (some (false, ()))) (some (false, ()))) (some (false, ()))) (some (false, ()))) (some (false, ()))) (some (false, ()))) (some (false, ()))) (some (false, ()))) (some (false, ()))) (some (false, ()))) (some (false, ()))) (some (false, ()))) (some (false, ()))) (some (false, ()))) (some (false, ()))

def S.w06_between (x : Unit) : Option (Bool × Unit) := L.w06_between
theorem w06_between_true : S.w06_between () = some (true, ()) := by
  simp only [S.w06_between, L.w06_between, toList_eq]
  decide +kernel
/-- w06_fit: one round of loop 1. -/
def w06_fit_s1 (κ0 : (List (((Bool × (List Int) × Unit) × Int × Unit) × ((Bool × (List Int) × Unit) × Int × Unit) × Unit)) → Int → Int → Option (Bool × Unit)) (κ1 : Bool → (List Int) → Int → Bool → (List Int) → Int → (List (((Bool × (List Int) × Unit) × Int × Unit) × ((Bool × (List Int) × Unit) × Int × Unit) × Unit)) → Int → Int → (List ((Bool × (List Int) × Unit) × Int × Unit)) → Int → Int → Option (Bool × Unit)) (a_0 : Bool) (a_1 : List Int) (a_2 : Int) (a_3 : Bool) (a_4 : List Int) (a_5 : Int) (t7 : List (((Bool × (List Int) × Unit) × Int × Unit) × ((Bool × (List Int) × Unit) × Int × Unit) × Unit)) (t8 : Int) (t9 : Int) (t17 : List ((Bool × (List Int) × Unit) × Int × Unit)) (t18 : Int) (t19 : Int) : Option (Bool × Unit) :=
  cond (decide (t19 < t18))
    (
      cond (decide (0 ≤ t19))
        (
          cond (decide (t19 < (t17.length : Int)))
            (
              let z2 := t17.getD t19.toNat ((false, ([], ())), (0, ()))
              cond (decide (10 < (z2.1.2.1.length : Int))) (some (false, ()))
                (
                  cond (decide (200 < z2.2.1)) (some (false, ()))
                    (
                      cond (decide (z2.2.1 < (-200 : Int))) (some (false, ())) (κ1 a_0 a_1 a_2 a_3 a_4 a_5 t7 t8 t9 t17 t18 (IntKind.i64.wrap (t19 + 1)))))) none) none)
    (
      (S.span_Check ((((a_0, a_1, ()), a_2, ()), ((a_3, a_4, ()), a_5, ()), ()), ())).bind fun z4 =>
      cond (!(decide (z4.1 = 0))) (some (false, ())) (κ0 t7 t8 (IntKind.i64.wrap (t9 + 1))))

def w06_fit_l1 (K : Nat) (κ0 : (List (((Bool × (List Int) × Unit) × Int × Unit) × ((Bool × (List Int) × Unit) × Int × Unit) × Unit)) → Int → Int → Option (Bool × Unit)) : Nat → Bool → (List Int) → Int → Bool → (List Int) → Int → (List (((Bool × (List Int) × Unit) × Int × Unit) × ((Bool × (List Int) × Unit) × Int × Unit) × Unit)) → Int → Int → (List ((Bool × (List Int) × Unit) × Int × Unit)) → Int → Int → Option (Bool × Unit)
  | 0, _, _, _, _, _, _, _, _, _, _, _, _ => none
  | n + 1, a_0, a_1, a_2, a_3, a_4, a_5, t7, t8, t9, t17, t18, t19 => w06_fit_s1 κ0 (w06_fit_l1 K κ0 n) a_0 a_1 a_2 a_3 a_4 a_5 t7 t8 t9 t17 t18 t19

/-- w06_fit: one round of loop 0. -/
def w06_fit_s0 (I1 : Bool → (List Int) → Int → Bool → (List Int) → Int → (List (((Bool × (List Int) × Unit) × Int × Unit) × ((Bool × (List Int) × Unit) × Int × Unit) × Unit)) → Int → Int → (List ((Bool × (List Int) × Unit) × Int × Unit)) → Int → Int → Option (Bool × Unit)) (κ0 : (List (((Bool × (List Int) × Unit) × Int × Unit) × ((Bool × (List Int) × Unit) × Int × Unit) × Unit)) → Int → Int → Option (Bool × Unit)) (t7 : List (((Bool × (List Int) × Unit) × Int × Unit) × ((Bool × (List Int) × Unit) × Int × Unit) × Unit)) (t8 : Int) (t9 : Int) : Option (Bool × Unit) :=
  cond (decide (t9 < t8))
    (
      cond (decide (0 ≤ t9))
        (
          cond (decide (t9 < (t7.length : Int)))
            (
              let z1 := t7.getD t9.toNat (((false, ([], ())), (0, ())), (((false, ([], ())), (0, ())), ()))
              I1 z1.1.1.1 z1.1.1.2.1 z1.1.2.1 z1.2.1.1.1 z1.2.1.1.2.1 z1.2.1.2.1 t7 t8 t9 ([((z1.1.1.1, z1.1.1.2.1, ()), z1.1.2.1, ()), ((z1.2.1.1.1, z1.2.1.1.2.1, ()), z1.2.1.2.1, ())]) (([((z1.1.1.1, z1.1.1.2.1, ()), z1.1.2.1, ()), ((z1.2.1.1.1, z1.2.1.1.2.1, ()), z1.2.1.2.1, ())]).length : Int) 0) none) none) (some (true, ()))

def w06_fit_l0 (K : Nat) : Nat → (List (((Bool × (List Int) × Unit) × Int × Unit) × ((Bool × (List Int) × Unit) × Int × Unit) × Unit)) → Int → Int → Option (Bool × Unit)
  | 0, _, _, _ => none
  | n + 1, t7, t8, t9 => w06_fit_s0 (w06_fit_l1 K (w06_fit_l0 K n) K) (w06_fit_l0 K n) t7 t8 t9

/-- girdlelaw06.fit -/
def w06_fit_b (I0 : (List (((Bool × (List Int) × Unit) × Int × Unit) × ((Bool × (List Int) × Unit) × Int × Unit) × Unit)) → Int → Int → Option (Bool × Unit)) (list : List (((Bool × (List Int) × Unit) × Int × Unit) × ((Bool × (List Int) × Unit) × Int × Unit) × Unit)) : Option (Bool × Unit) :=
  I0 list (list.length : Int) 0

def w06_fit (K : Nat) (list : List (((Bool × (List Int) × Unit) × Int × Unit) × ((Bool × (List Int) × Unit) × Int × Unit) × Unit)) : Option (Bool × Unit) := w06_fit_b (w06_fit_l0 K K) list

def S.w06_fit (x : List SP × Unit) : Option (Bool × Unit) := L.w06_fit 100 x.1
/-- A span that fits. -/
def fits06 (a : SP) : Prop := ∃ l h : Int, a = Sp l h (-((200 : Nat) : Int)) ∧ lt2 l h 23 ∧ l ≤ h
theorem fit06_two {K k : Nat} {κ0 : List SP → Int → Int → Option (Bool × Unit)} {a : SP} {p : List SP} {r s : Int} (ha : inS a) :
    w06_fit_l1 K κ0 (k + 3) a.1.1.1 a.1.1.2.1 a.1.2.1 a.2.1.1.1 a.2.1.1.2.1 a.2.1.2.1 p r s [a.1, a.2.1] (([a.1, a.2.1] : List DY).length : Int) 0 = some (false, ()) ∨
    (w06_fit_l1 K κ0 (k + 3) a.1.1.1 a.1.1.2.1 a.1.2.1 a.2.1.1.1 a.2.1.1.2.1 a.2.1.2.1 p r s [a.1, a.2.1] (([a.1, a.2.1] : List DY).length : Int) 0 = κ0 p r (IntKind.i64.wrap (s + 1)) ∧ fits06 a) := by
  rcases loop_or 2 (fun _ => ()) (fun k' _ i => w06_fit_l1 K κ0 k' a.1.1.1 a.1.1.2.1 a.1.2.1 a.2.1.1.1 a.2.1.1.2.1 a.2.1.2.1 p r s [a.1, a.2.1] (([a.1, a.2.1] : List DY).length : Int) i) (fun r => r = some (false, ())) (fun i => sz 10 200 (([a.1, a.2.1] : List DY).getD i dy0)) (fun k' i hk hi => by
    simp only [w06_fit_l1, w06_fit_s1]
    have hl : (([a.1, a.2.1] : List DY).length : Int) = 2 := rfl
    rw [ct (by omega), ct (by omega), ct (by omega), Int.toNat_natCast]
    generalize hd : ([a.1, a.2.1] : List DY).getD i ((false, ([], ())), (0, ())) = d
    by_cases h1 : 10 < d.1.2.1.length
    · right; rw [ct (by omega)]
    rw [cf (by omega)]
    by_cases h2 : 200 < d.2.1
    · right; rw [ct h2]
    rw [cf h2]
    by_cases h3 : d.2.1 < -200
    · right; rw [ct h3]
    · left; rw [cf h3, wi1 (by omega)]; exact ⟨rfl, by unfold sz; omega⟩) (k + 3) (by omega) with h | ⟨k', e, h⟩
  · exact .inl h
  · have z1 := h 0 (by decide)
    have z2 := h 1 (by decide)
    have e' : w06_fit_l1 K κ0 (k + 3) a.1.1.1 a.1.1.2.1 a.1.2.1 a.2.1.1.1 a.2.1.1.2.1 a.2.1.2.1 p r s [a.1, a.2.1] (([a.1, a.2.1] : List DY).length : Int) 0 = _ := e
    rw [e']
    simp only [w06_fit_l1, w06_fit_s1]
    have hl : (([a.1, a.2.1] : List DY).length : Int) = 2 := rfl
    rw [cf (by omega)]
    rcases span_Check_full ha with ⟨c, c0, e⟩ | ⟨e, y1, y2, hle⟩
    · left; rw [show S.span_Check _ = _ from e, Option.bind_some]; simp only; rw [decide_eq_false c0]; rfl
    · right
      rw [show S.span_Check _ = _ from e, Option.bind_some]
      obtain ⟨a1, a2, a3⟩ := z1
      obtain ⟨b1, b2, b3⟩ := z2
      exact ⟨rfl, isS_Sp (B := 200) (n := 10) (k := 23) y1 y2 hle a1 b1 a2 a3 b2 b3 (by decide) (by decide) (by decide)⟩
theorem w06_fit_in {l : List SP} (hl : l.length ≤ 16) (h : ∀ s ∈ l, inS s) : S.w06_fit (l, ()) = some (false, ()) ∨ (S.w06_fit (l, ()) = some (true, ()) ∧ ∀ i < l.length, fits06 (l.getD i sp0)) := by
  simp only [S.w06_fit, L.w06_fit, w06_fit_b]
  rcases loop_or l.length (fun _ => ()) (fun k _ i => w06_fit_l0 100 k l (l.length : Int) i) (fun r => r = some (false, ())) (fun i => fits06 (l.getD i sp0)) (fun k i hk hi => by
    simp only [w06_fit_l0, w06_fit_s0]
    rw [ct (by omega), ct (by omega), ct (by omega), Int.toNat_natCast]
    have hm : l.getD i sp0 ∈ l := by rw [List.getD_eq_getElem?_getD, List.getElem?_eq_getElem hi]; exact List.getElem_mem hi
    rcases fit06_two (K := 100) (k := 97) (κ0 := w06_fit_l0 100 k) (p := l) (r := (l.length : Int)) (s := (i : Int)) (h _ hm) with e | ⟨e, q⟩
    · right; exact e
    · left; refine ⟨?_, q⟩
      rw [← wi1 (by omega)]; exact e) 100 (by omega) with h | ⟨k, e, h⟩
  · exact .inl h
  · right
    refine ⟨?_, h⟩
    have e' : w06_fit_l0 100 100 l (l.length : Int) 0 = _ := e
    rw [e']
    simp only [w06_fit_l0, w06_fit_s0]
    rw [cf (by omega)]
theorem w06_fit1 {a : SP} (ha : inS a) : S.w06_fit ([a], ()) = some (false, ()) ∨ (S.w06_fit ([a], ()) = some (true, ()) ∧ fits06 a) := by
  rcases w06_fit_in (l := [a]) (by simp) (fun l hl => by rcases List.mem_cons.1 hl with rfl | h; exact ha; cases h) with h | ⟨h, h2⟩
  · exact .inl h
  · exact .inr ⟨h, h2 0 (by simp)⟩
theorem w06_fit2 {a b : SP} (ha : inS a) (hb : inS b) : S.w06_fit ([a, b], ()) = some (false, ()) ∨ (S.w06_fit ([a, b], ()) = some (true, ()) ∧ fits06 a ∧ fits06 b) := by
  rcases w06_fit_in (l := [a, b]) (by simp) (fun l hl => by
      rcases List.mem_cons.1 hl with rfl | h
      · exact ha
      · rcases List.mem_cons.1 h with rfl | h
        · exact hb
        · cases h) with h | ⟨h, h2⟩
  · exact .inl h
  · exact .inr ⟨h, h2 0 (by simp), h2 1 (by simp)⟩
theorem w06_fit3 {a b c : SP} (ha : inS a) (hb : inS b) (hc : inS c) : S.w06_fit ([a, b, c], ()) = some (false, ()) ∨ (S.w06_fit ([a, b, c], ()) = some (true, ()) ∧ fits06 a ∧ fits06 b ∧ fits06 c) := by
  rcases w06_fit_in (l := [a, b, c]) (by simp) (fun l hl => by
      rcases List.mem_cons.1 hl with rfl | h
      · exact ha
      · rcases List.mem_cons.1 h with rfl | h
        · exact hb
        · rcases List.mem_cons.1 h with rfl | h
          · exact hc
          · cases h) with h | ⟨h, h2⟩
  · exact .inl h
  · exact .inr ⟨h, h2 0 (by simp), h2 1 (by simp), h2 2 (by simp)⟩
theorem span_HasRatio_Yn {l h e : Int} {q : Rat} {k i j : Nat} (hl : lt2 l h k) (hk : k ≤ 500) (hki : k ≤ i) (he0 : -5000 ≤ e) (he1 : e ≤ 0) (hi : -e < 32 * (i : Int)) (hq : big q j) (hj : i + j ≤ 512) (h1 : dv l e ≤ q) (h2 : q ≤ dv h e) : S.span_HasRatio (Sp l h e, R q, ()) = some (true, 0, ()) := by
  have e0 : ∀ (a : SP) (r : RT), S.span_HasRatio (a, r, ()) = (S.dyad_Cmp (a.1, r, ())).bind fun z1 => cond (!(decide (z1.2.1 = 0))) (some (false, z1.2.1, ())) ((S.dyad_Cmp (a.2.1, r, ())).bind fun z2 => cond (decide (z2.2.1 = 0)) (cond (decide (z1.1 ≤ 0)) (some (decide (0 ≤ z2.1), z2.2.1, ())) (some (false, z2.2.1, ()))) (some (false, z2.2.1, ()))) := fun _ _ => rfl
  have c1 := dyad_Cmp_Yn hl.1 hk hki he0 he1 hi hq hj
  have c2 := dyad_Cmp_Yn hl.2 hk hki he0 he1 hi hq hj
  rw [e0, show S.dyad_Cmp _ = _ from c1, Option.bind_some]
  simp only [decide_true, Bool.not_true, cond_false]
  rw [show S.dyad_Cmp _ = _ from c2, Option.bind_some]
  simp only [decide_true, cond_true]
  rw [ct (sgq_le h1), decide_eq_true (sgq_ge h2)]
/-- girdlelaw06.has -/
def w06_has (a : ((Bool × (List Int) × Unit) × Int × Unit) × ((Bool × (List Int) × Unit) × Int × Unit) × Unit) (e : Int) (r : (Bool × (List Int) × Unit) × (List Int) × Unit) (bits : Int) : Option (Bool × Unit) :=
  (S.span_HasRatio ((((a.1.1.1, a.1.1.2.1, ()), a.1.2.1, ()), ((a.2.1.1.1, a.2.1.1.2.1, ()), a.2.1.2.1, ()), ()), ((r.1.1, r.1.2.1, ()), r.2.1, ()), ())).bind fun z1 =>
  cond (decide (e = 0))
    (
      cond (decide (z1.2.1 = 0))
        (
          cond (z1.1)
            (
              (S.limbs_Bits (a.1.1.2.1, ())).bind fun z2 =>
              cond (decide (z2.1 ≤ bits))
                (
                  (S.limbs_Bits (a.2.1.1.2.1, ())).bind fun z3 =>
                  cond (decide (z3.1 ≤ bits))
                    (
                      (S.span_Check ((((a.1.1.1, a.1.1.2.1, ()), a.1.2.1, ()), ((a.2.1.1.1, a.2.1.1.2.1, ()), a.2.1.2.1, ()), ()), ())).bind fun z4 =>
                      some (decide (z4.1 = 0), ())) (some (false, ()))) (some (false, ()))) (some (false, ()))) (some (false, ()))) (some (false, ()))

def S.w06_has (x : SP × Int × RT × Int × Unit) : Option (Bool × Unit) := L.w06_has x.1 x.2.1 x.2.2.1 x.2.2.2.1
theorem w06_has_true {l h e : Int} {q : Rat} {b k i j : Nat} (hl : lt2 l h k) (hk : k ≤ 490) (hki : k ≤ i) (he0 : -5000 ≤ e) (he1 : e ≤ 0) (hi : -e < 32 * (i : Int)) (hq : big q j) (hj : i + j ≤ 512) (h1 : dv l e ≤ q) (h2 : q ≤ dv h e) (hb : 1 ≤ b) (f1 : few b l) (f2 : few b h) : S.w06_has (Sp l h e, 0, R q, (b : Int), ()) = some (true, ()) := by
  have e0 : ∀ (a : SP) (e : Int) (r : RT) (b : Int), S.w06_has (a, e, r, b, ()) = (S.span_HasRatio (a, r, ())).bind fun z1 => cond (decide (e = 0)) (cond (decide (z1.2.1 = 0)) (cond z1.1 ((S.limbs_Bits (a.1.1.2.1, ())).bind fun z2 => cond (decide (z2.1 ≤ b)) ((S.limbs_Bits (a.2.1.1.2.1, ())).bind fun z3 => cond (decide (z3.1 ≤ b)) ((S.span_Check (a, ())).bind fun z4 => some (decide (z4.1 = 0), ())) (some (false, ()))) (some (false, ()))) (some (false, ()))) (some (false, ()))) (some (false, ())) := fun _ _ _ _ => rfl
  have c1 := span_HasRatio_Yn hl (by omega) hki he0 he1 hi hq hj h1 h2
  have g1 : S.limbs_Bits ((Yd l e).1.2.1, ()) = some ((bl (od l) : Int), ()) := Bits_I (x := od l) (P1000 (Yd_abs hl.1) (by omega))
  have g2 : S.limbs_Bits ((Yd h e).1.2.1, ()) = some ((bl (od h) : Int), ()) := Bits_I (x := od h) (P1000 (Yd_abs hl.2) (by omega))
  have c2 := span_Check_Sp (e := e) hl (dv_le.1 (Rat.le_trans h1 h2)) hk (by omega) (by omega)
  have b1 := few_bl hb f1
  have b2 := few_bl hb f2
  rw [e0, c1, Option.bind_some]
  simp only [decide_true, cond_true]
  rw [g1, Option.bind_some, ct (by simp only; omega), g2, Option.bind_some, ct (by simp only; omega), c2, Option.bind_some]
  rfl
/-- girdlelaw06.at -/
def w06_at (a : ((Bool × (List Int) × Unit) × Int × Unit) × ((Bool × (List Int) × Unit) × Int × Unit) × Unit) (part : Int) : Option (((Bool × (List Int) × Unit) × (List Int) × Unit) × Unit) :=
  (S.dyad_Ratio (((a.1.1.1, a.1.1.2.1, ()), a.1.2.1, ()), ())).bind fun z1 =>
  (S.dyad_Ratio (((a.2.1.1.1, a.2.1.1.2.1, ()), a.2.1.2.1, ()), ())).bind fun z2 =>
  (S.ratio_Sub (((z2.1.1.1, z2.1.1.2.1, ()), z2.1.2.1, ()), ((z1.1.1.1, z1.1.1.2.1, ()), z1.1.2.1, ()), ())).bind fun z3 =>
  (S.ratio_Of (((ibits .and .i64 part 127).tmod 101), 100, ())).bind fun z6 =>
  (S.ratio_Mul (((z3.1.1.1, z3.1.1.2.1, ()), z3.1.2.1, ()), ((z6.1.1.1, z6.1.1.2.1, ()), z6.1.2.1, ()), ())).bind fun z7 =>
  (S.ratio_Add (((z1.1.1.1, z1.1.1.2.1, ()), z1.1.2.1, ()), ((z7.1.1.1, z7.1.1.2.1, ()), z7.1.2.1, ()), ())).bind fun z8 =>
  some (((z8.1.1.1, z8.1.1.2.1, ()), z8.1.2.1, ()), ())

def S.w06_at (x : SP × Int × Unit) : Option (RT × Unit) := L.w06_at x.1 x.2.1
theorem and127 (p : Int) : 0 ≤ ibits .and .i64 p 127 ∧ ibits .and .i64 p 127 ≤ 127 := by
  simp only [ibits, BitVec.toNat_and]
  have h : (BitVec.ofInt IntKind.i64.bits p).toNat &&& (BitVec.ofInt IntKind.i64.bits 127).toNat ≤ 127 := Nat.and_le_right
  generalize (BitVec.ofInt IntKind.i64.bits p).toNat &&& (BitVec.ofInt IntKind.i64.bits 127).toNat = m at h
  rw [wi64 (by omega) (by omega)]
  omega
theorem w06_at_Sp {l h : Int} (p : Int) (hl : lt2 l h 23) (hlh : l ≤ h) : ∃ q : Rat, S.w06_at (Sp l h (-((200 : Nat) : Int)), p, ()) = some (R q, ()) ∧ big q 73 ∧ dv l (-((200 : Nat) : Int)) ≤ q ∧ q ≤ dv h (-((200 : Nat) : Int)) := by
  obtain ⟨r1, b1⟩ := dyad_Ratio_Yn (e := -((200 : Nat) : Int)) (j := 23) hl.1 (by decide) (by decide) (by decide) (by decide) (by decide)
  obtain ⟨r2, b2⟩ := dyad_Ratio_Yn (e := -((200 : Nat) : Int)) (j := 23) hl.2 (by decide) (by decide) (by decide) (by decide) (by decide)
  have e3 := ratio_Sub_R b2 b1 (by decide)
  have b3 := big_sub b2 b1
  have h127 := and127 p
  obtain ⟨t, ht⟩ : ∃ t, (ibits .and .i64 p 127).tmod 101 = t := ⟨_, rfl⟩
  have ht0 : 0 ≤ t ∧ t ≤ 100 := by
    rw [← ht, Int.tmod_eq_emod_of_nonneg h127.1]; omega
  have e4 := ratio_Of_R (n := t) (d := 100) (by omega) (by omega) (by decide) (by decide) (by decide)
  have b4 : big (Rat.divInt t 100) 1 := big_frac (k := 1) (by rw [show P 1 = 4294967296 from by decide]; omega) (by decide) (by decide)
  have e5 := ratio_Mul_R b3 b4 (by decide)
  have b5 := big_mul b3 b4
  have e6 := ratio_Add_R b1 b5 (by decide)
  have b6 := big_add b1 b5
  have e0 : ∀ (a : SP) (p : Int), S.w06_at (a, p, ()) = (S.dyad_Ratio (a.1, ())).bind fun z1 => (S.dyad_Ratio (a.2.1, ())).bind fun z2 => (S.ratio_Sub (z2.1, z1.1, ())).bind fun z3 => (S.ratio_Of (((ibits .and .i64 p 127).tmod 101), 100, ())).bind fun z6 => (S.ratio_Mul (z3.1, z6.1, ())).bind fun z7 => (S.ratio_Add (z1.1, z7.1, ())).bind fun z8 => some (z8.1, ()) := fun _ _ => rfl
  refine ⟨dv l (-((200 : Nat) : Int)) + (dv h (-((200 : Nat) : Int)) - dv l (-((200 : Nat) : Int))) * Rat.divInt t 100, ?_, b6.mono (by decide), ?_, ?_⟩
  · rw [e0, r1, Option.bind_some, r2, Option.bind_some]
    simp only
    rw [e3, Option.bind_some, ht, e4, Option.bind_some]
    simp only
    rw [e5, Option.bind_some]
    simp only
    rw [e6, Option.bind_some]
  · have hd : 0 ≤ dv h (-((200 : Nat) : Int)) - dv l (-((200 : Nat) : Int)) := by
      have := (dv_le (e := -((200 : Nat) : Int))).2 hlh; grind
    have ht : (0 : Rat) ≤ Rat.divInt t 100 := by
      rw [Rat.divInt_eq_div]
      have : (0 : Rat) ≤ (t : Rat) := Rat.intCast_nonneg.2 ht0.1
      grind
    have := Rat.mul_nonneg hd ht
    grind
  · have hd : 0 ≤ dv h (-((200 : Nat) : Int)) - dv l (-((200 : Nat) : Int)) := by
      have := (dv_le (e := -((200 : Nat) : Int))).2 hlh; grind
    have ht : (0 : Rat) ≤ 1 - Rat.divInt t 100 := by
      rw [Rat.divInt_eq_div]
      have : (t : Rat) ≤ ((100 : Int) : Rat) := Rat.intCast_le_intCast.2 ht0.2
      have e : ((100 : Int) : Rat) = 100 := rfl
      grind
    have := Rat.mul_nonneg hd ht
    grind
end Go.L

/-! UB -/
namespace Go.L
open Go.PM
set_option exponentiation.threshold 20000
set_option linter.unusedVariables false
set_option linter.unusedSimpArgs false

theorem few_scale {b : Nat} {z : Int} (n : Nat) (h : few b z) : few b (z * 2 ^ n) := by
  obtain ⟨m, j, rfl, hm⟩ := h
  exact ⟨m, j + n, by rw [Int.pow_add, Int.mul_assoc], hm⟩
theorem nr_few (up : Bool) (q : Rat) (b B : Nat) : few b (nr up q b B) := by
  unfold nr
  split
  · exact few_zero b
  · exact few_scale _ (rnd_few up _ b)
theorem rup_few (x : Int) (b : Nat) : few b (rup x b) := few_neg (rdn_few (-x) b)
/-- girdlelaw06.SpanNear -/
def w06_SpanNear (r : (Bool × (List Int) × Unit) × (List Int) × Unit) (bits : Int) (fewer : Int) : Option (Bool × Unit) :=
  (S.w06_between (())).bind fun z1 =>
  cond (!z1.1) (some (false, ()))
    (
      cond (decide (10 < (r.1.2.1.length : Int))) (some (true, ()))
        (
          cond (decide (10 < (r.2.1.length : Int))) (some (true, ()))
            (
              (S.ratio_Check (((r.1.1, r.1.2.1, ()), r.2.1, ()), ())).bind fun z2 =>
              cond (!(decide (z2.1 = 0))) (some (true, ()))
                (
                  cond (decide (bits < 2)) (some (true, ()))
                    (
                      cond (decide (1000 < bits)) (some (true, ()))
                        (
                          cond (decide (fewer < 2)) (some (true, ()))
                            (
                              cond (decide (bits < fewer)) (some (true, ()))
                                (
                                  (S.span_Near (((r.1.1, r.1.2.1, ()), r.2.1, ()), bits, ())).bind fun z3 =>
                                  (S.span_Round ((((z3.1.1.1.1, z3.1.1.1.2.1, ()), z3.1.1.2.1, ()), ((z3.1.2.1.1.1, z3.1.2.1.1.2.1, ()), z3.1.2.1.2.1, ()), ()), fewer, ())).bind fun z4 =>
                                  (S.w06_has ((((z3.1.1.1.1, z3.1.1.1.2.1, ()), z3.1.1.2.1, ()), ((z3.1.2.1.1.1, z3.1.2.1.1.2.1, ()), z3.1.2.1.2.1, ()), ()), z3.2.1, ((r.1.1, r.1.2.1, ()), r.2.1, ()), bits, ())).bind fun z5 =>
                                  cond (z5.1)
                                    (
                                      (S.w06_has ((((z4.1.1.1.1, z4.1.1.1.2.1, ()), z4.1.1.2.1, ()), ((z4.1.2.1.1.1, z4.1.2.1.1.2.1, ()), z4.1.2.1.2.1, ()), ()), z4.2.1, ((r.1.1, r.1.2.1, ()), r.2.1, ()), fewer, ())).bind fun z6 =>
                                      cond (z6.1)
                                        (
                                          (S.span_Holds ((((z4.1.1.1.1, z4.1.1.1.2.1, ()), z4.1.1.2.1, ()), ((z4.1.2.1.1.1, z4.1.2.1.1.2.1, ()), z4.1.2.1.2.1, ()), ()), (((z3.1.1.1.1, z3.1.1.1.2.1, ()), z3.1.1.2.1, ()), ((z3.1.2.1.1.1, z3.1.2.1.1.2.1, ()), z3.1.2.1.2.1, ()), ()), ())).bind fun z7 =>
                                          some (z7.1, ())) (some (false, ()))) (some (false, ()))))))))))

theorem SpanNear_true {r : RT} {bits fewer : Int} (hr : inR r) : w06_SpanNear r bits fewer = some (true, ()) := by
  unfold w06_SpanNear
  rw [w06_between_true, Option.bind_some]
  simp only [Bool.not_true, cond_false]
  by_cases hn : 10 < r.1.2.1.length
  · rw [ct (by omega)]
  rw [cf (by omega)]
  by_cases hd : 10 < r.2.1.length
  · rw [ct (by omega)]
  rw [cf (by omega)]
  rcases ratio_Check_in hr with ⟨c, c0, e⟩ | ⟨e, q, rfl, hq2⟩
  · rw [show S.ratio_Check _ = _ from e, Option.bind_some]; simp only; rw [decide_eq_false c0]; rfl
  rw [show S.ratio_Check _ = _ from e, Option.bind_some]
  simp only [decide_true, Bool.not_true, cond_false]
  have hq : big q 10 := big_len (m := 0) (by simp only at hn; omega) (by simp only at hd; omega)
  by_cases h1 : bits < 2
  · rw [ct h1]
  rw [cf h1]
  by_cases h2 : 1000 < bits
  · rw [ct h2]
  rw [cf h2]
  by_cases h3 : fewer < 2
  · rw [ct h3]
  rw [cf h3]
  by_cases h4 : bits < fewer
  · rw [ct h4]
  rw [cf h4]
  obtain ⟨b, rfl⟩ : ∃ b : Nat, bits = b := ⟨bits.toNat, by omega⟩
  obtain ⟨f, rfl⟩ : ∃ f : Nat, fewer = f := ⟨fewer.toNat, by omega⟩
  have hs := nsh_le (b := b) hq
  have hB : nsh q b ≤ ((1400 : Nat) : Int) := by omega
  have n1 := span_Near_nr (B := 1400) hq (by decide) (b := b) (by omega) (by omega) hB
  have z : lt2 (nr false q b 1400) (nr true q b 1400) 207 := ⟨nr_abs hq (by omega) (by decide), nr_abs hq (by omega) (by decide)⟩
  have r1 := span_Round_Sp (e := -((1400 : Nat) : Int)) (b := f) z (by decide) (by decide) (by decide) (by omega) (by omega)
  have z' : lt2 (rdn (nr false q b 1400) f) (rup (nr true q b 1400) f) 208 := ⟨rdn_abs z.1, rup_abs z.2⟩
  have lo := nr_lo hB
  have hi := nr_hi hB
  have g1 := rdn_le (nr false q b 1400) f
  have g2 := rup_ge (nr true q b 1400) f
  have t1 := w06_has_true (e := -((1400 : Nat) : Int)) (b := b) (i := 208) z (by decide) (by decide) (by decide) (by decide) (by decide) hq (by decide) lo hi (by omega) (nr_few false q b 1400) (nr_few true q b 1400)
  have t2 := w06_has_true (e := -((1400 : Nat) : Int)) (b := f) (i := 208) z' (by decide) (by decide) (by decide) (by decide) (by decide) hq (by decide) (Rat.le_trans (dv_le.2 g1) lo) (Rat.le_trans hi (dv_le.2 g2)) (by omega) (rdn_few _ f) (rup_few _ f)
  have le := nr_le hB
  have t3 := span_Holds_Sp (e := -((1400 : Nat) : Int)) z' (lt2_up z (show 207 ≤ 208 by decide)) (by decide) (by decide) (by decide)
  rw [decide_eq_true (by omega)] at t3
  rw [show S.span_Near _ = _ from n1, Option.bind_some, show S.span_Round _ = _ from r1, Option.bind_some, show S.w06_has _ = _ from t1, Option.bind_some]
  simp only [cond_true]
  rw [show S.w06_has _ = _ from t2, Option.bind_some]
  simp only [cond_true]
  rw [show S.span_Holds _ = _ from t3, Option.bind_some]
/-- girdlelaw06.SpanSizes -/
def w06_SpanSizes (a : ((Bool × (List Int) × Unit) × Int × Unit) × ((Bool × (List Int) × Unit) × Int × Unit) × Unit) (part : Int) : Option (Bool × Unit) :=
  (S.w06_between (())).bind fun z1 =>
  cond (!z1.1) (some (false, ()))
    (
      (S.w06_fit ([(((a.1.1.1, a.1.1.2.1, ()), a.1.2.1, ()), ((a.2.1.1.1, a.2.1.1.2.1, ()), a.2.1.2.1, ()), ())], ())).bind fun z2 =>
      cond (!z2.1) (some (true, ()))
        (
          (S.w06_at ((((a.1.1.1, a.1.1.2.1, ()), a.1.2.1, ()), ((a.2.1.1.1, a.2.1.1.2.1, ()), a.2.1.2.1, ()), ()), part, ())).bind fun z3 =>
          (S.span_Size ((((a.1.1.1, a.1.1.2.1, ()), a.1.2.1, ()), ((a.2.1.1.1, a.2.1.1.2.1, ()), a.2.1.2.1, ()), ()), ())).bind fun z4 =>
          (S.ratio_Abs (((z3.1.1.1, z3.1.1.2.1, ()), z3.1.2.1, ()), ())).bind fun z5 =>
          (S.dyad_Cmp (((z4.1.1.1, z4.1.1.2.1, ()), z4.1.2.1, ()), ((z5.1.1.1, z5.1.1.2.1, ()), z5.1.2.1, ()), ())).bind fun z6 =>
          (S.span_Width ((((a.1.1.1, a.1.1.2.1, ()), a.1.2.1, ()), ((a.2.1.1.1, a.2.1.1.2.1, ()), a.2.1.2.1, ()), ()), ())).bind fun z7 =>
          (S.span_Middle ((((a.1.1.1, a.1.1.2.1, ()), a.1.2.1, ()), ((a.2.1.1.1, a.2.1.1.2.1, ()), a.2.1.2.1, ()), ()), ())).bind fun z8 =>
          cond (!(decide (z6.2.1 = 0))) (some (false, ()))
            (
              cond (!(decide (z7.2.1 = 0))) (some (false, ()))
                (
                  cond (!(decide (z8.2.1 = 0))) (some (false, ()))
                    (
                      cond (decide (z6.1 < 0)) (some (false, ()))
                        (
                          (S.dyad_Sign (((z7.1.1.1, z7.1.1.2.1, ()), z7.1.2.1, ()), ())).bind fun z9 =>
                          cond (decide (z9.1 < 0)) (some (false, ()))
                            (
                              (S.span_Has ((((a.1.1.1, a.1.1.2.1, ()), a.1.2.1, ()), ((a.2.1.1.1, a.2.1.1.2.1, ()), a.2.1.2.1, ()), ()), ((z8.1.1.1, z8.1.1.2.1, ()), z8.1.2.1, ()), ())).bind fun z10 =>
                              cond (!z10.1) (some (false, ()))
                                (
                                  (S.dyad_Sub (((a.2.1.1.1, a.2.1.1.2.1, ()), a.2.1.2.1, ()), ((z8.1.1.1, z8.1.1.2.1, ()), z8.1.2.1, ()), ())).bind fun z11 =>
                                  (S.dyad_Sub (((z8.1.1.1, z8.1.1.2.1, ()), z8.1.2.1, ()), ((a.1.1.1, a.1.1.2.1, ()), a.1.2.1, ()), ())).bind fun z12 =>
                                  (S.dyad_Add (((a.1.1.1, a.1.1.2.1, ()), a.1.2.1, ()), ((z7.1.1.1, z7.1.1.2.1, ()), z7.1.2.1, ()), ())).bind fun z13 =>
                                  (S.span_Size ((((a.1.1.1, a.1.1.2.1, ()), a.1.2.1, ()), ((a.2.1.1.1, a.2.1.1.2.1, ()), a.2.1.2.1, ()), ()), ())).bind fun z14 =>
                                  (S.dyad_Abs (((a.1.1.1, a.1.1.2.1, ()), a.1.2.1, ()), ())).bind fun z15 =>
                                  (S.dyad_Compare (((z14.1.1.1, z14.1.1.2.1, ()), z14.1.2.1, ()), ((z15.1.1.1, z15.1.1.2.1, ()), z15.1.2.1, ()), ())).bind fun z16 =>
                                  cond (decide (z16.1 = 0))
                                    (
                                      (S.dyad_Compare (((z11.1.1.1, z11.1.1.2.1, ()), z11.1.2.1, ()), ((z12.1.1.1, z12.1.1.2.1, ()), z12.1.2.1, ()), ())).bind fun z17 =>
                                      cond (decide (z17.1 = 0))
                                        (
                                          (S.dyad_Compare (((z13.1.1.1, z13.1.1.2.1, ()), z13.1.2.1, ()), ((a.2.1.1.1, a.2.1.1.2.1, ()), a.2.1.2.1, ()), ())).bind fun z18 =>
                                          cond (decide (z18.1 = 0)) (some (true, ())) (some (false, ()))) (some (false, ())))
                                    (
                                      (S.span_Size ((((a.1.1.1, a.1.1.2.1, ()), a.1.2.1, ()), ((a.2.1.1.1, a.2.1.1.2.1, ()), a.2.1.2.1, ()), ()), ())).bind fun z19 =>
                                      (S.dyad_Abs (((a.2.1.1.1, a.2.1.1.2.1, ()), a.2.1.2.1, ()), ())).bind fun z20 =>
                                      (S.dyad_Compare (((z19.1.1.1, z19.1.1.2.1, ()), z19.1.2.1, ()), ((z20.1.1.1, z20.1.1.2.1, ()), z20.1.2.1, ()), ())).bind fun z21 =>
                                      (S.dyad_Compare (((z11.1.1.1, z11.1.1.2.1, ()), z11.1.2.1, ()), ((z12.1.1.1, z12.1.1.2.1, ()), z12.1.2.1, ()), ())).bind fun z22 =>
                                      cond (decide (z22.1 = 0))
                                        (
                                          (S.dyad_Compare (((z13.1.1.1, z13.1.1.2.1, ()), z13.1.2.1, ()), ((a.2.1.1.1, a.2.1.1.2.1, ()), a.2.1.2.1, ()), ())).bind fun z23 =>
                                          cond (decide (z23.1 = 0)) (some (decide (z21.1 = 0), ())) (some (false, ()))) (some (false, ())))))))))))

theorem qabs_le {q : Rat} {l h e : Int} (h1 : dv l e ≤ q) (h2 : q ≤ dv h e) : qabs q ≤ dv (max (l.natAbs : Int) (h.natAbs : Int)) e := by
  have a1 : dv (-l) e ≤ dv (max (l.natAbs : Int) (h.natAbs : Int)) e := dv_le.2 (by omega)
  have a2 : dv h e ≤ dv (max (l.natAbs : Int) (h.natAbs : Int)) e := dv_le.2 (by omega)
  rw [dv_neg] at a1
  unfold qabs
  split <;> grind
theorem big_qabs {q : Rat} {k : Nat} (h : big q k) : big (qabs q) k := by
  obtain ⟨h1, h2⟩ := qabs_num q
  unfold big
  rw [h1, h2, Int.natAbs_natCast]; exact h
theorem SpanSizes_true {a : SP} {part : Int} (ha : inS a) : w06_SpanSizes a part = some (true, ()) := by
  unfold w06_SpanSizes
  rw [w06_between_true, Option.bind_some]
  simp only [Bool.not_true, cond_false]
  rcases w06_fit1 ha with e | ⟨e, l, h, rfl, hl, hlh⟩
  · rw [show S.w06_fit _ = _ from e]; rfl
  rw [show S.w06_fit _ = _ from e, Option.bind_some]
  simp only [Bool.not_true, cond_false]
  obtain ⟨q, at1, bq, q1, q2⟩ := w06_at_Sp part hl hlh
  have e1 := span_Size_Sp (e := -((200 : Nat) : Int)) hl (by decide) (by decide) (by decide)
  have e2 := ratio_Abs_R bq (by decide)
  have hm : (max (l.natAbs : Int) (h.natAbs : Int)).natAbs < P 23 := by have := hl.1; have := hl.2; omega
  have e3 := dyad_Cmp_Yn (e := -((200 : Nat) : Int)) (i := 23) hm (by decide) (by decide) (by decide) (by decide) (by decide) (big_qabs bq) (by decide)
  have s3 := sgq_ge (qabs_le q1 q2)
  have e4 := span_Width_Sp (e := -((200 : Nat) : Int)) hl (by decide) (by decide) (by decide)
  have e5 := span_Middle_Sp (e := -((200 : Nat) : Int)) hl (by decide) (by decide) (by decide)
  rw [show -((200 : Nat) : Int) - 1 = -201 from rfl] at e5
  have e6 := dyad_Sign_Yd (h - l) (-((200 : Nat) : Int))
  have s6 := sgn0 (h - l)
  have dbl : ∀ x : Int, Yd x (-((200 : Nat) : Int)) = Yd (x * 2) (-201) := fun x => by
    have := (Yd_scale x 1 (-201)).symm
    rw [Int.pow_one] at this
    exact this
  have two : (2 : Int).natAbs < P 1 := by decide
  have l2 : lt2 (l * 2) (h * 2) 24 := ⟨nA_mul hl.1 two, nA_mul hl.2 two⟩
  have hs := nA_add hl.1 hl.2
  have e7 := span_Has_Sp (e := -201) l2 hs (by decide) (by decide) (by decide)
  rw [decide_eq_true (by omega)] at e7
  have eSp : Sp l h (-((200 : Nat) : Int)) = Sp (l * 2) (h * 2) (-201) := by simp only [Sp, dbl]
  rw [← eSp] at e7
  have e8 := dyad_Sub_Yd (e := -201) l2.2 hs (by decide) (by decide) (by decide)
  have e9 := dyad_Sub_Yd (e := -201) hs l2.1 (by decide) (by decide) (by decide)
  rw [← dbl] at e8 e9
  have hw : (h - l).natAbs < P 24 := by rw [Int.sub_eq_add_neg]; exact nA_add hl.2 (by rw [Int.natAbs_neg]; exact hl.1)
  have e10 := dyad_Add_Yd (e := -((200 : Nat) : Int)) (nA_up hl.1 (show 23 ≤ 24 by decide)) hw (by decide) (by decide) (by decide)
  rw [show l + (h - l) = h by omega] at e10
  rw [show h * 2 - (l + h) = h - l by omega] at e8
  rw [show l + h - l * 2 = h - l by omega] at e9
  have e11 := dyad_Abs_Yd (e := -((200 : Nat) : Int)) (P1000 hl.1 (by decide))
  have e12 := dyad_Abs_Yd (e := -((200 : Nat) : Int)) (P1000 hl.2 (by decide))
  have m1 : ((l.natAbs : Int)).natAbs < P 23 := by rw [Int.natAbs_natCast]; exact hl.1
  have m2 : ((h.natAbs : Int)).natAbs < P 23 := by rw [Int.natAbs_natCast]; exact hl.2
  have c1 := dyad_Compare_Yd (e := -((200 : Nat) : Int)) hm m1 (by decide) (by decide) (by decide)
  have c2 := dyad_Compare_Yd (e := -((200 : Nat) : Int)) hm m2 (by decide) (by decide) (by decide)
  have c3 := dyad_Compare_Yd (e := -201) hw hw (by decide) (by decide) (by decide)
  have c4 := dyad_Compare_Yd (e := -((200 : Nat) : Int)) hl.2 hl.2 (by decide) (by decide) (by decide)
  rw [sgn_self] at c3 c4
  rw [show S.w06_at _ = _ from at1, Option.bind_some, show S.span_Size _ = _ from e1, Option.bind_some, show S.ratio_Abs _ = _ from e2, Option.bind_some, show S.dyad_Cmp _ = _ from e3, Option.bind_some, show S.span_Width _ = _ from e4, Option.bind_some, show S.span_Middle _ = _ from e5, Option.bind_some]
  simp only [decide_true, Bool.not_true, cond_false]
  rw [cf (by omega), show S.dyad_Sign _ = _ from e6, Option.bind_some, cf (by simp only; omega), show S.span_Has _ = _ from e7, Option.bind_some]
  simp only [Bool.not_true, cond_false]
  rw [show S.dyad_Sub _ = _ from e8, Option.bind_some, show S.dyad_Sub _ = _ from e9, Option.bind_some, show S.dyad_Add _ = _ from e10, Option.bind_some, Option.bind_some, show S.dyad_Abs _ = _ from e11, Option.bind_some, show S.dyad_Compare _ = _ from c1, Option.bind_some]
  simp only
  by_cases hc : sgn (max (l.natAbs : Int) (h.natAbs : Int)) (l.natAbs : Int) = 0
  · rw [ct hc, show S.dyad_Compare _ = _ from c3, Option.bind_some]
    simp only [decide_true, cond_true]
    rw [show S.dyad_Compare _ = _ from c4, Option.bind_some]
    rfl
  · rw [cf hc, Option.bind_some, show S.dyad_Abs _ = _ from e12, Option.bind_some]
    rw [show S.dyad_Compare _ = _ from c2, Option.bind_some, show S.dyad_Compare _ = _ from c3, Option.bind_some]
    simp only [decide_true, cond_true]
    rw [show S.dyad_Compare _ = _ from c4, Option.bind_some]
    simp only [decide_true, cond_true]
    have : sgn (max (l.natAbs : Int) (h.natAbs : Int)) (h.natAbs : Int) = 0 := by
      unfold sgn at hc ⊢
      split at hc <;> (try split at hc) <;> split <;> (try split) <;> omega
    rw [decide_eq_true this]
/-- girdlelaw06.SpanHolds -/
def w06_SpanHolds (a : ((Bool × (List Int) × Unit) × Int × Unit) × ((Bool × (List Int) × Unit) × Int × Unit) × Unit) (b : ((Bool × (List Int) × Unit) × Int × Unit) × ((Bool × (List Int) × Unit) × Int × Unit) × Unit) (parts : Int × Int × Int × Unit) : Option (Bool × Unit) :=
  (S.w06_between (())).bind fun z1 =>
  cond (!z1.1) (some (false, ()))
    (
      (S.w06_fit ([(((a.1.1.1, a.1.1.2.1, ()), a.1.2.1, ()), ((a.2.1.1.1, a.2.1.1.2.1, ()), a.2.1.2.1, ()), ()), (((b.1.1.1, b.1.1.2.1, ()), b.1.2.1, ()), ((b.2.1.1.1, b.2.1.1.2.1, ()), b.2.1.2.1, ()), ())], ())).bind fun z2 =>
      cond (!z2.1) (some (true, ()))
        (
          cond (decide (parts.2.2.1 < 2)) (some (true, ()))
            (
              cond (decide (500 < parts.2.2.1)) (some (true, ()))
                (
                  (S.w06_at ((((a.1.1.1, a.1.1.2.1, ()), a.1.2.1, ()), ((a.2.1.1.1, a.2.1.1.2.1, ()), a.2.1.2.1, ()), ()), parts.1, ())).bind fun z3 =>
                  (S.w06_at ((((b.1.1.1, b.1.1.2.1, ()), b.1.2.1, ()), ((b.2.1.1.1, b.2.1.1.2.1, ()), b.2.1.2.1, ()), ()), parts.2.1, ())).bind fun z4 =>
                  (S.span_Add ((((a.1.1.1, a.1.1.2.1, ()), a.1.2.1, ()), ((a.2.1.1.1, a.2.1.1.2.1, ()), a.2.1.2.1, ()), ()), (((b.1.1.1, b.1.1.2.1, ()), b.1.2.1, ()), ((b.2.1.1.1, b.2.1.1.2.1, ()), b.2.1.2.1, ()), ()), parts.2.2.1, ())).bind fun z5 =>
                  (S.span_Sub ((((a.1.1.1, a.1.1.2.1, ()), a.1.2.1, ()), ((a.2.1.1.1, a.2.1.1.2.1, ()), a.2.1.2.1, ()), ()), (((b.1.1.1, b.1.1.2.1, ()), b.1.2.1, ()), ((b.2.1.1.1, b.2.1.1.2.1, ()), b.2.1.2.1, ()), ()), parts.2.2.1, ())).bind fun z6 =>
                  (S.span_Mul ((((a.1.1.1, a.1.1.2.1, ()), a.1.2.1, ()), ((a.2.1.1.1, a.2.1.1.2.1, ()), a.2.1.2.1, ()), ()), (((b.1.1.1, b.1.1.2.1, ()), b.1.2.1, ()), ((b.2.1.1.1, b.2.1.1.2.1, ()), b.2.1.2.1, ()), ()), parts.2.2.1, ())).bind fun z7 =>
                  (S.span_Round ((((a.1.1.1, a.1.1.2.1, ()), a.1.2.1, ()), ((a.2.1.1.1, a.2.1.1.2.1, ()), a.2.1.2.1, ()), ()), parts.2.2.1, ())).bind fun z8 =>
                  (S.ratio_Add (((z3.1.1.1, z3.1.1.2.1, ()), z3.1.2.1, ()), ((z4.1.1.1, z4.1.1.2.1, ()), z4.1.2.1, ()), ())).bind fun z9 =>
                  (S.ratio_Sub (((z3.1.1.1, z3.1.1.2.1, ()), z3.1.2.1, ()), ((z4.1.1.1, z4.1.1.2.1, ()), z4.1.2.1, ()), ())).bind fun z10 =>
                  (S.ratio_Mul (((z3.1.1.1, z3.1.1.2.1, ()), z3.1.2.1, ()), ((z4.1.1.1, z4.1.1.2.1, ()), z4.1.2.1, ()), ())).bind fun z11 =>
                  (S.ratio_Sum ([((z3.1.1.1, z3.1.1.2.1, ()), z3.1.2.1, ()), ((z4.1.1.1, z4.1.1.2.1, ()), z4.1.2.1, ()), ((z3.1.1.1, z3.1.1.2.1, ()), z3.1.2.1, ())], ())).bind fun z12 =>
                  (S.span_Sum (parts.2.2.1, [(((a.1.1.1, a.1.1.2.1, ()), a.1.2.1, ()), ((a.2.1.1.1, a.2.1.1.2.1, ()), a.2.1.2.1, ()), ()), (((b.1.1.1, b.1.1.2.1, ()), b.1.2.1, ()), ((b.2.1.1.1, b.2.1.1.2.1, ()), b.2.1.2.1, ()), ()), (((a.1.1.1, a.1.1.2.1, ()), a.1.2.1, ()), ((a.2.1.1.1, a.2.1.1.2.1, ()), a.2.1.2.1, ()), ())], ())).bind fun z13 =>
                  (S.w06_has ((((z5.1.1.1.1, z5.1.1.1.2.1, ()), z5.1.1.2.1, ()), ((z5.1.2.1.1.1, z5.1.2.1.1.2.1, ()), z5.1.2.1.2.1, ()), ()), z5.2.1, ((z9.1.1.1, z9.1.1.2.1, ()), z9.1.2.1, ()), parts.2.2.1, ())).bind fun z14 =>
                  cond (z14.1)
                    (
                      (S.w06_has ((((z6.1.1.1.1, z6.1.1.1.2.1, ()), z6.1.1.2.1, ()), ((z6.1.2.1.1.1, z6.1.2.1.1.2.1, ()), z6.1.2.1.2.1, ()), ()), z6.2.1, ((z10.1.1.1, z10.1.1.2.1, ()), z10.1.2.1, ()), parts.2.2.1, ())).bind fun z15 =>
                      cond (z15.1)
                        (
                          (S.w06_has ((((z7.1.1.1.1, z7.1.1.1.2.1, ()), z7.1.1.2.1, ()), ((z7.1.2.1.1.1, z7.1.2.1.1.2.1, ()), z7.1.2.1.2.1, ()), ()), z7.2.1, ((z11.1.1.1, z11.1.1.2.1, ()), z11.1.2.1, ()), parts.2.2.1, ())).bind fun z16 =>
                          cond (z16.1)
                            (
                              (S.w06_has ((((z8.1.1.1.1, z8.1.1.1.2.1, ()), z8.1.1.2.1, ()), ((z8.1.2.1.1.1, z8.1.2.1.1.2.1, ()), z8.1.2.1.2.1, ()), ()), z8.2.1, ((z3.1.1.1, z3.1.1.2.1, ()), z3.1.2.1, ()), parts.2.2.1, ())).bind fun z17 =>
                              cond (z17.1)
                                (
                                  (S.w06_has ((((z13.1.1.1.1, z13.1.1.1.2.1, ()), z13.1.1.2.1, ()), ((z13.1.2.1.1.1, z13.1.2.1.1.2.1, ()), z13.1.2.1.2.1, ()), ()), z13.2.1, ((z12.1.1.1, z12.1.1.2.1, ()), z12.1.2.1, ()), parts.2.2.1, ())).bind fun z18 =>
                                  some (z18.1, ())) (some (false, ()))) (some (false, ()))) (some (false, ()))) (some (false, ()))))))

end Go.L

/-! UC -/
namespace Go.L
open Go.PM
set_option exponentiation.threshold 20000
set_option linter.unusedVariables false
set_option linter.unusedSimpArgs false

theorem Point_eq (a : DY) : S.span_Point (a, ()) = some ((a, a, ()), ()) := rfl
/-- girdlelaw06.reckon -/
def w06_reckon (kind : Int) (a : ((Bool × (List Int) × Unit) × Int × Unit) × ((Bool × (List Int) × Unit) × Int × Unit) × Unit) (b : ((Bool × (List Int) × Unit) × Int × Unit) × ((Bool × (List Int) × Unit) × Int × Unit) × Unit) (bits : Int) : Option ((((Bool × (List Int) × Unit) × Int × Unit) × ((Bool × (List Int) × Unit) × Int × Unit) × Unit) × Int × Unit) :=
  cond (decide (kind = 0))
    (
      (S.span_Add ((((a.1.1.1, a.1.1.2.1, ()), a.1.2.1, ()), ((a.2.1.1.1, a.2.1.1.2.1, ()), a.2.1.2.1, ()), ()), (((b.1.1.1, b.1.1.2.1, ()), b.1.2.1, ()), ((b.2.1.1.1, b.2.1.1.2.1, ()), b.2.1.2.1, ()), ()), bits, ())).bind fun z1 =>
      some ((((z1.1.1.1.1, z1.1.1.1.2.1, ()), z1.1.1.2.1, ()), ((z1.1.2.1.1.1, z1.1.2.1.1.2.1, ()), z1.1.2.1.2.1, ()), ()), z1.2.1, ()))
    (
      cond (decide (kind = 1))
        (
          (S.span_Sub ((((a.1.1.1, a.1.1.2.1, ()), a.1.2.1, ()), ((a.2.1.1.1, a.2.1.1.2.1, ()), a.2.1.2.1, ()), ()), (((b.1.1.1, b.1.1.2.1, ()), b.1.2.1, ()), ((b.2.1.1.1, b.2.1.1.2.1, ()), b.2.1.2.1, ()), ()), bits, ())).bind fun z2 =>
          some ((((z2.1.1.1.1, z2.1.1.1.2.1, ()), z2.1.1.2.1, ()), ((z2.1.2.1.1.1, z2.1.2.1.1.2.1, ()), z2.1.2.1.2.1, ()), ()), z2.2.1, ()))
        (
          (S.span_Mul ((((a.1.1.1, a.1.1.2.1, ()), a.1.2.1, ()), ((a.2.1.1.1, a.2.1.1.2.1, ()), a.2.1.2.1, ()), ()), (((b.1.1.1, b.1.1.2.1, ()), b.1.2.1, ()), ((b.2.1.1.1, b.2.1.1.2.1, ()), b.2.1.2.1, ()), ()), bits, ())).bind fun z3 =>
          some ((((z3.1.1.1.1, z3.1.1.1.2.1, ()), z3.1.1.2.1, ()), ((z3.1.2.1.1.1, z3.1.2.1.1.2.1, ()), z3.1.2.1.2.1, ()), ()), z3.2.1, ())))

def S.w06_reckon (x : Int × SP × SP × Int × Unit) : Option (SP × Int × Unit) := L.w06_reckon x.1 x.2.1 x.2.2.1 x.2.2.2.1
/-- What is reckoned of two spans, its exponent. -/
def rkn (i : Nat) (l h l' h' : Int) (b : Nat) : Int × Int := if i = 0 then (rdn (l + l') b, rup (h + h') b) else if i = 1 then (rdn (l - h') b, rup (h - l') b) else (rdn (mlo l h l' h') b, rup (mhi l h l' h') b)
def rkne (i : Nat) (e : Int) : Int := if i = 0 then e else if i = 1 then e else e + e
theorem sub_abs {a b : Int} {k : Nat} (ha : a.natAbs < P k) (hb : b.natAbs < P k) : (a - b).natAbs < P (k + 1) := by
  rw [Int.sub_eq_add_neg]; exact nA_add ha (by rw [Int.natAbs_neg]; exact hb)
theorem rkn_abs {i : Nat} {l h l' h' : Int} {b k : Nat} (hx : lt2 l h k) (hy : lt2 l' h' k) (hk : 2 ≤ k) : lt2 (rkn i l h l' h' b).1 (rkn i l h l' h' b).2 (2 * k + 1) := by
  unfold rkn
  have hm := mlo_abs hx hy
  split
  · exact lt2_up (k := 2 * k + 1) (j := k + 1 + 1) ⟨rdn_abs (nA_add hx.1 hy.1), rup_abs (nA_add hx.2 hy.2)⟩ (by omega)
  · split
    · exact lt2_up (k := 2 * k + 1) (j := k + 1 + 1) ⟨rdn_abs (sub_abs hx.1 hy.2), rup_abs (sub_abs hx.2 hy.1)⟩ (by omega)
    · exact lt2_up (k := 2 * k + 1) (j := k + k + 1) ⟨rdn_abs hm.1, rup_abs hm.2⟩ (by omega)
theorem w06_reckon_Sp {i : Nat} {l h l' h' e : Int} {b k : Nat} (hx : lt2 l h k) (hy : lt2 l' h' k) (hk : k ≤ 200) (h0 : -30000 ≤ e) (h1 : e ≤ 10000) (hb : 2 ≤ b) (hb' : b ≤ 4096) : S.w06_reckon ((i : Int), Sp l h e, Sp l' h' e, (b : Int), ()) = some (Sp (rkn i l h l' h' b).1 (rkn i l h l' h' b).2 (rkne i e), 0, ()) := by
  have e0 : ∀ (i : Int) (a c : SP) (b : Int), S.w06_reckon (i, a, c, b, ()) = cond (decide (i = 0)) ((S.span_Add (a, c, b, ())).bind fun z1 => some z1) (cond (decide (i = 1)) ((S.span_Sub (a, c, b, ())).bind fun z2 => some z2) ((S.span_Mul (a, c, b, ())).bind fun z3 => some z3)) := fun _ _ _ _ => rfl
  rw [e0]
  unfold rkn rkne
  by_cases hi : i = 0
  · rw [ct (by omega), if_pos hi, if_pos hi, span_Add_Sp hx hy (by omega) (by omega) (by omega) hb hb', Option.bind_some]
  · rw [cf (by omega), if_neg hi, if_neg hi]
    by_cases hi1 : i = 1
    · rw [ct (by omega), if_pos hi1, if_pos hi1, span_Sub_Sp hx hy (by omega) (by omega) (by omega) hb hb', Option.bind_some]
    · rw [cf (by omega), if_neg hi1, if_neg hi1, span_Mul_Sp hx hy (by omega) h0 h1 h0 h1 hb hb', Option.bind_some]
theorem mul_nest2 {a b l h c d p q : Int} (h0 : a ≤ b) (h1 : l ≤ a) (h2 : b ≤ h) (h3 : c ≤ d) (h4 : p ≤ c) (h5 : d ≤ q) : mlo l h p q ≤ mlo a b c d ∧ mhi a b c d ≤ mhi l h p q := by
  have p1 := mul_mid (x := a) (y := c) (l := l) (h := h) (l' := p) (h' := q) (by omega) (by omega) (by omega) (by omega)
  have p2 := mul_mid (x := a) (y := d) (l := l) (h := h) (l' := p) (h' := q) (by omega) (by omega) (by omega) (by omega)
  have p3 := mul_mid (x := b) (y := c) (l := l) (h := h) (l' := p) (h' := q) (by omega) (by omega) (by omega) (by omega)
  have p4 := mul_mid (x := b) (y := d) (l := l) (h := h) (l' := p) (h' := q) (by omega) (by omega) (by omega) (by omega)
  have q1 := mlo_is a b c d
  have q2 := mhi_is a b c d
  omega
theorem mlo_le (l h l' h' : Int) : mlo l h l' h' ≤ mhi l h l' h' := by unfold mlo mhi; omega
theorem rkn_nest {i : Nat} {a b l h c d p q : Int} {v : Nat} (hv : 1 ≤ v) (h0 : a ≤ b) (h1 : l ≤ a) (h2 : b ≤ h) (h3 : c ≤ d) (h4 : p ≤ c) (h5 : d ≤ q) : (rkn i l h p q v).1 ≤ (rkn i a b c d v).1 ∧ (rkn i a b c d v).2 ≤ (rkn i l h p q v).2 ∧ (rkn i a b c d v).1 ≤ (rkn i a b c d v).2 := by
  unfold rkn
  have hm := mul_nest2 h0 h1 h2 h3 h4 h5
  split
  · have g1 := rdn_le (a + c) v
    have g2 := rup_ge (b + d) v
    exact ⟨rdn_mono hv (by omega), rup_mono hv (by omega), by simp only; omega⟩
  · split
    · have g1 := rdn_le (a - d) v
      have g2 := rup_ge (b - c) v
      exact ⟨rdn_mono hv (by omega), rup_mono hv (by omega), by simp only; omega⟩
    · have g1 := rdn_le (mlo a b c d) v
      have g2 := rup_ge (mhi a b c d) v
      have g3 := mlo_le a b c d
      exact ⟨rdn_mono hv hm.1, rup_mono hv hm.2, by simp only; omega⟩
/-- w06_SpanNests: one round of loop 0. -/
def w06_SpanNests_s0 (κ0 : Int → Bool → (List Int) → Int → Bool → (List Int) → Int → Bool → (List Int) → Int → Bool → (List Int) → Int → Bool → (List Int) → Int → Bool → (List Int) → Int → Int → Option (Bool × Unit)) (bits : Int) (a_0 : Bool) (a_1 : List Int) (a_2 : Int) (a_3 : Bool) (a_4 : List Int) (a_5 : Int) (h_0 : Bool) (h_1 : List Int) (h_2 : Int) (h_3 : Bool) (h_4 : List Int) (h_5 : Int) (p_0 : Bool) (p_1 : List Int) (p_2 : Int) (p_3 : Bool) (p_4 : List Int) (p_5 : Int) (t45 : Int) : Option (Bool × Unit) :=
  cond (decide (t45 < 3))
    (
      (S.w06_reckon (t45, (((p_0, p_1, ()), p_2, ()), ((p_3, p_4, ()), p_5, ()), ()), (((a_0, a_1, ()), a_2, ()), ((a_3, a_4, ()), a_5, ()), ()), bits, ())).bind fun z6 =>
      (S.w06_reckon (t45, (((a_0, a_1, ()), a_2, ()), ((a_3, a_4, ()), a_5, ()), ()), (((a_0, a_1, ()), a_2, ()), ((a_3, a_4, ()), a_5, ()), ()), bits, ())).bind fun z7 =>
      (S.w06_reckon (t45, (((h_0, h_1, ()), h_2, ()), ((h_3, h_4, ()), h_5, ()), ()), (((h_0, h_1, ()), h_2, ()), ((h_3, h_4, ()), h_5, ()), ()), bits, ())).bind fun z8 =>
      cond (!(decide (z6.2.1 = 0))) (some (false, ()))
        (
          cond (!(decide (z7.2.1 = 0))) (some (false, ()))
            (
              cond (!(decide (z8.2.1 = 0))) (some (false, ()))
                (
                  (S.span_Holds ((((z7.1.1.1.1, z7.1.1.1.2.1, ()), z7.1.1.2.1, ()), ((z7.1.2.1.1.1, z7.1.2.1.1.2.1, ()), z7.1.2.1.2.1, ()), ()), (((z6.1.1.1.1, z6.1.1.1.2.1, ()), z6.1.1.2.1, ()), ((z6.1.2.1.1.1, z6.1.2.1.1.2.1, ()), z6.1.2.1.2.1, ()), ()), ())).bind fun z9 =>
                  cond (!z9.1) (some (false, ()))
                    (
                      (S.span_Holds ((((z8.1.1.1.1, z8.1.1.1.2.1, ()), z8.1.1.2.1, ()), ((z8.1.2.1.1.1, z8.1.2.1.1.2.1, ()), z8.1.2.1.2.1, ()), ()), (((z7.1.1.1.1, z7.1.1.1.2.1, ()), z7.1.1.2.1, ()), ((z7.1.2.1.1.1, z7.1.2.1.1.2.1, ()), z7.1.2.1.2.1, ()), ()), ())).bind fun z10 =>
                      cond (!z10.1) (some (false, ()))
                        (
                          κ0 bits a_0 a_1 a_2 a_3 a_4 a_5 h_0 h_1 h_2 h_3 h_4 h_5 p_0 p_1 p_2 p_3 p_4 p_5 (IntKind.i64.wrap (t45 + 1)))))))) (some (true, ()))

def w06_SpanNests_l0 (K : Nat) : Nat → Int → Bool → (List Int) → Int → Bool → (List Int) → Int → Bool → (List Int) → Int → Bool → (List Int) → Int → Bool → (List Int) → Int → Bool → (List Int) → Int → Int → Option (Bool × Unit)
  | 0, _, _, _, _, _, _, _, _, _, _, _, _, _, _, _, _, _, _, _, _ => none
  | n + 1, bits, a_0, a_1, a_2, a_3, a_4, a_5, h_0, h_1, h_2, h_3, h_4, h_5, p_0, p_1, p_2, p_3, p_4, p_5, t45 => w06_SpanNests_s0 (w06_SpanNests_l0 K n) bits a_0 a_1 a_2 a_3 a_4 a_5 h_0 h_1 h_2 h_3 h_4 h_5 p_0 p_1 p_2 p_3 p_4 p_5 t45

/-- girdlelaw06.SpanNests -/
def w06_SpanNests_b (I0 : Int → Bool → (List Int) → Int → Bool → (List Int) → Int → Bool → (List Int) → Int → Bool → (List Int) → Int → Bool → (List Int) → Int → Bool → (List Int) → Int → Int → Option (Bool × Unit)) (a : ((Bool × (List Int) × Unit) × Int × Unit) × ((Bool × (List Int) × Unit) × Int × Unit) × Unit) (b : ((Bool × (List Int) × Unit) × Int × Unit) × ((Bool × (List Int) × Unit) × Int × Unit) × Unit) (bits : Int) : Option (Bool × Unit) :=
  (S.w06_between (())).bind fun z1 =>
  cond (!z1.1) (some (false, ()))
    (
      (S.w06_fit ([(((a.1.1.1, a.1.1.2.1, ()), a.1.2.1, ()), ((a.2.1.1.1, a.2.1.1.2.1, ()), a.2.1.2.1, ()), ()), (((b.1.1.1, b.1.1.2.1, ()), b.1.2.1, ()), ((b.2.1.1.1, b.2.1.1.2.1, ()), b.2.1.2.1, ()), ())], ())).bind fun z2 =>
      cond (!z2.1) (some (true, ()))
        (
          cond (decide (bits < 2)) (some (true, ()))
            (
              cond (decide (300 < bits)) (some (true, ()))
                (
                  (S.span_Hull ((((a.1.1.1, a.1.1.2.1, ()), a.1.2.1, ()), ((a.2.1.1.1, a.2.1.1.2.1, ()), a.2.1.2.1, ()), ()), (((b.1.1.1, b.1.1.2.1, ()), b.1.2.1, ()), ((b.2.1.1.1, b.2.1.1.2.1, ()), b.2.1.2.1, ()), ()), ())).bind fun z3 =>
                  (S.span_Middle ((((a.1.1.1, a.1.1.2.1, ()), a.1.2.1, ()), ((a.2.1.1.1, a.2.1.1.2.1, ()), a.2.1.2.1, ()), ()), ())).bind fun z4 =>
                  cond (!(decide (z4.2.1 = 0))) (some (false, ()))
                    (
                      (S.span_Point (((z4.1.1.1, z4.1.1.2.1, ()), z4.1.2.1, ()), ())).bind fun z5 =>
                      I0 bits a.1.1.1 a.1.1.2.1 a.1.2.1 a.2.1.1.1 a.2.1.1.2.1 a.2.1.2.1 z3.1.1.1.1 z3.1.1.1.2.1 z3.1.1.2.1 z3.1.2.1.1.1 z3.1.2.1.1.2.1 z3.1.2.1.2.1 z5.1.1.1.1 z5.1.1.1.2.1 z5.1.1.2.1 z5.1.2.1.1.1 z5.1.2.1.1.2.1 z5.1.2.1.2.1 0)))))

def w06_SpanNests (K : Nat) (a : ((Bool × (List Int) × Unit) × Int × Unit) × ((Bool × (List Int) × Unit) × Int × Unit) × Unit) (b : ((Bool × (List Int) × Unit) × Int × Unit) × ((Bool × (List Int) × Unit) × Int × Unit) × Unit) (bits : Int) : Option (Bool × Unit) := w06_SpanNests_b (w06_SpanNests_l0 K K) a b bits

def S.w06_SpanNests (x : SP × SP × Int × Unit) : Option (Bool × Unit) := L.w06_SpanNests 100 x.1 x.2.1 x.2.2.1
theorem SpanNests_true {a b : SP} {bits : Int} (ha : inS a) (hb : inS b) : w06_SpanNests 100 a b bits = some (true, ()) := by
  unfold w06_SpanNests w06_SpanNests_b
  rw [w06_between_true, Option.bind_some]
  simp only [Bool.not_true, cond_false]
  rcases w06_fit2 ha hb with e | ⟨e, ⟨l, h, rfl, hl, hlh⟩, l', h', rfl, hl', hlh'⟩
  · rw [show S.w06_fit _ = _ from e]; rfl
  rw [show S.w06_fit _ = _ from e, Option.bind_some]
  simp only [Bool.not_true, cond_false]
  by_cases h1 : bits < 2
  · rw [ct h1]
  rw [cf h1]
  by_cases h2 : 300 < bits
  · rw [ct h2]
  rw [cf h2]
  obtain ⟨v, rfl⟩ : ∃ v : Nat, bits = v := ⟨bits.toNat, by omega⟩
  have dbl : ∀ x : Int, Yd x (-((200 : Nat) : Int)) = Yd (x * 2) (-201) := fun x => by
    have := (Yd_scale x 1 (-201)).symm
    rw [Int.pow_one] at this
    exact this
  have two : (2 : Int).natAbs < P 1 := by decide
  have e1 := span_Hull_Sp (e := -((200 : Nat) : Int)) hl hl' (by decide) (by decide) (by decide)
  have e2 := span_Middle_Sp (e := -((200 : Nat) : Int)) hl (by decide) (by decide) (by decide)
  rw [show -((200 : Nat) : Int) - 1 = -201 from rfl] at e2
  have l2 : lt2 (l * 2) (h * 2) 24 := ⟨nA_mul hl.1 two, nA_mul hl.2 two⟩
  have hm1 : (min l l').natAbs < P 23 := by have := hl.1; have := hl'.1; omega
  have hm2 : (max h h').natAbs < P 23 := by have := hl.2; have := hl'.2; omega
  have g2 : lt2 (min l l' * 2) (max h h' * 2) 24 := ⟨nA_mul hm1 two, nA_mul hm2 two⟩
  have hs := nA_add hl.1 hl.2
  have p2 : lt2 (l + h) (l + h) 24 := ⟨hs, hs⟩
  rw [show S.span_Hull _ = _ from e1, Option.bind_some, show S.span_Middle _ = _ from e2, Option.bind_some]
  simp only [decide_true, Bool.not_true, cond_false]
  rw [show S.span_Point _ = _ from Point_eq (Yd (l + h) (-201)), Option.bind_some]
  rw [dbl l, dbl h, dbl (min l l'), dbl (max h h')]
  have A : ∀ i : Nat, S.w06_reckon ((i : Int), Sp (l + h) (l + h) (-201), Sp (l * 2) (h * 2) (-201), (v : Int), ()) = _ := fun i => w06_reckon_Sp (e := -201) p2 l2 (by decide) (by decide) (by decide) (by omega) (by omega)
  have B : ∀ i : Nat, S.w06_reckon ((i : Int), Sp (l * 2) (h * 2) (-201), Sp (l * 2) (h * 2) (-201), (v : Int), ()) = _ := fun i => w06_reckon_Sp (e := -201) l2 l2 (by decide) (by decide) (by decide) (by omega) (by omega)
  have C : ∀ i : Nat, S.w06_reckon ((i : Int), Sp (min l l' * 2) (max h h' * 2) (-201), Sp (min l l' * 2) (max h h' * 2) (-201), (v : Int), ()) = _ := fun i => w06_reckon_Sp (e := -201) g2 g2 (by decide) (by decide) (by decide) (by omega) (by omega)
  have rA : ∀ i, lt2 (rkn i (l + h) (l + h) (l * 2) (h * 2) v).1 (rkn i (l + h) (l + h) (l * 2) (h * 2) v).2 49 := fun i => rkn_abs (k := 24) p2 l2 (by decide)
  have rB : ∀ i, lt2 (rkn i (l * 2) (h * 2) (l * 2) (h * 2) v).1 (rkn i (l * 2) (h * 2) (l * 2) (h * 2) v).2 49 := fun i => rkn_abs (k := 24) l2 l2 (by decide)
  have rC : ∀ i, lt2 (rkn i (min l l' * 2) (max h h' * 2) (min l l' * 2) (max h h' * 2) v).1 (rkn i (min l l' * 2) (max h h' * 2) (min l l' * 2) (max h h' * 2) v).2 49 := fun i => rkn_abs (k := 24) g2 g2 (by decide)
  have N1 : ∀ i, _ := fun i => rkn_nest (i := i) (v := v) (a := l + h) (b := l + h) (l := l * 2) (h := h * 2) (c := l * 2) (d := h * 2) (p := l * 2) (q := h * 2) (by omega) (by omega) (by omega) (by omega) (by omega) (by omega) (by omega)
  have N2 : ∀ i, _ := fun i => rkn_nest (i := i) (v := v) (a := l * 2) (b := h * 2) (l := min l l' * 2) (h := max h h' * 2) (c := l * 2) (d := h * 2) (p := min l l' * 2) (q := max h h' * 2) (by omega) (by omega) (by omega) (by omega) (by omega) (by omega) (by omega)
  have E : ∀ i, -60000 ≤ rkne i (-201) ∧ rkne i (-201) ≤ 20000 := fun i => by unfold rkne; split <;> (try split) <;> omega
  refine loop_up 3 (fun _ => ()) (fun k s i => w06_SpanNests_l0 100 k (v : Int) (Yd (l * 2) (-201)).1.1 (Yd (l * 2) (-201)).1.2.1 (Yd (l * 2) (-201)).2.1 (Yd (h * 2) (-201)).1.1 (Yd (h * 2) (-201)).1.2.1 (Yd (h * 2) (-201)).2.1 (Yd (min l l' * 2) (-201)).1.1 (Yd (min l l' * 2) (-201)).1.2.1 (Yd (min l l' * 2) (-201)).2.1 (Yd (max h h' * 2) (-201)).1.1 (Yd (max h h' * 2) (-201)).1.2.1 (Yd (max h h' * 2) (-201)).2.1 (Yd (l + h) (-201)).1.1 (Yd (l + h) (-201)).1.2.1 (Yd (l + h) (-201)).2.1 (Yd (l + h) (-201)).1.1 (Yd (l + h) (-201)).1.2.1 (Yd (l + h) (-201)).2.1 i) _ (fun k i hi => ?_) (fun k => ?_) 100 (by omega)
  · simp only [w06_SpanNests_l0, w06_SpanNests_s0]
    have H1 := span_Holds_Sp (e := rkne i (-201)) (rB i) (rA i) (by decide) (E i).1 (E i).2
    have H2 := span_Holds_Sp (e := rkne i (-201)) (rC i) (rB i) (by decide) (E i).1 (E i).2
    have n1 := N1 i
    have n2 := N2 i
    rw [decide_eq_true (by omega)] at H1 H2
    rw [ct (by omega), show S.w06_reckon _ = _ from A i, Option.bind_some, show S.w06_reckon _ = _ from B i, Option.bind_some, show S.w06_reckon _ = _ from C i, Option.bind_some]
    simp only [decide_true, Bool.not_true, cond_false]
    rw [show S.span_Holds _ = _ from H1, Option.bind_some]
    simp only [Bool.not_true, cond_false]
    rw [show S.span_Holds _ = _ from H2, Option.bind_some]
    simp only [Bool.not_true, cond_false]
    rw [wi1 (by omega)]
  · simp only [w06_SpanNests_l0, w06_SpanNests_s0]
    rw [cf (by omega)]
/-- w06_SpanTight: one round of loop 1. -/
def w06_SpanTight_s1 (κ0 : Bool → (List Int) → Int → Bool → (List Int) → Int → Bool → (List Int) → Int → Bool → (List Int) → Int → Bool → Bool → (List ((Bool × (List Int) × Unit) × Int × Unit)) → Int → Int → Option (Bool × Unit)) (κ1 : Bool → (List Int) → Int → Bool → (List Int) → Int → Bool → (List Int) → Int → Bool → (List Int) → Int → Bool → Bool → Bool → (List Int) → Int → (List ((Bool × (List Int) × Unit) × Int × Unit)) → Int → Int → (List ((Bool × (List Int) × Unit) × Int × Unit)) → Int → Int → Option (Bool × Unit)) (b_0 : Bool) (b_1 : List Int) (b_2 : Int) (b_3 : Bool) (b_4 : List Int) (b_5 : Int) (p_0 : Bool) (p_1 : List Int) (p_2 : Int) (p_3 : Bool) (p_4 : List Int) (p_5 : Int) (low : Bool) (high : Bool) (x_0 : Bool) (x_1 : List Int) (x_2 : Int) (t124 : List ((Bool × (List Int) × Unit) × Int × Unit)) (t125 : Int) (t126 : Int) (t134 : List ((Bool × (List Int) × Unit) × Int × Unit)) (t135 : Int) (t136 : Int) : Option (Bool × Unit) :=
  cond (decide (t136 < t135))
    (
      cond (decide (0 ≤ t136))
        (
          cond (decide (t136 < (t134.length : Int)))
            (
              let z15 := t134.getD t136.toNat ((false, ([], ())), (0, ()))
              (S.dyad_Mul (((x_0, x_1, ()), x_2, ()), ((z15.1.1, z15.1.2.1, ()), z15.2.1, ()), ())).bind fun z16 =>
              (S.span_Has ((((p_0, p_1, ()), p_2, ()), ((p_3, p_4, ()), p_5, ()), ()), ((z16.1.1.1, z16.1.1.2.1, ()), z16.1.2.1, ()), ())).bind fun z17 =>
              cond (!z17.1) (some (false, ()))
                (
                  cond (low)
                    (
                      cond (high)
                        (
                          κ1 b_0 b_1 b_2 b_3 b_4 b_5 p_0 p_1 p_2 p_3 p_4 p_5 true true x_0 x_1 x_2 t124 t125 t126 t134 t135 (IntKind.i64.wrap (t136 + 1)))
                        (
                          (S.dyad_Compare (((z16.1.1.1, z16.1.1.2.1, ()), z16.1.2.1, ()), ((p_3, p_4, ()), p_5, ()), ())).bind fun z19 =>
                          κ1 b_0 b_1 b_2 b_3 b_4 b_5 p_0 p_1 p_2 p_3 p_4 p_5 true (decide (z19.1 = 0)) x_0 x_1 x_2 t124 t125 t126 t134 t135 (IntKind.i64.wrap (t136 + 1))))
                    (
                      (S.dyad_Compare (((z16.1.1.1, z16.1.1.2.1, ()), z16.1.2.1, ()), ((p_0, p_1, ()), p_2, ()), ())).bind fun z21 =>
                      cond (high)
                        (
                          κ1 b_0 b_1 b_2 b_3 b_4 b_5 p_0 p_1 p_2 p_3 p_4 p_5 (decide (z21.1 = 0)) true x_0 x_1 x_2 t124 t125 t126 t134 t135 (IntKind.i64.wrap (t136 + 1)))
                        (
                          (S.dyad_Compare (((z16.1.1.1, z16.1.1.2.1, ()), z16.1.2.1, ()), ((p_3, p_4, ()), p_5, ()), ())).bind fun z23 =>
                          κ1 b_0 b_1 b_2 b_3 b_4 b_5 p_0 p_1 p_2 p_3 p_4 p_5 (decide (z21.1 = 0)) (decide (z23.1 = 0)) x_0 x_1 x_2 t124 t125 t126 t134 t135 (IntKind.i64.wrap (t136 + 1)))))) none) none)
    (
      κ0 b_0 b_1 b_2 b_3 b_4 b_5 p_0 p_1 p_2 p_3 p_4 p_5 low high t124 t125 (IntKind.i64.wrap (t126 + 1)))

def w06_SpanTight_l1 (K : Nat) (κ0 : Bool → (List Int) → Int → Bool → (List Int) → Int → Bool → (List Int) → Int → Bool → (List Int) → Int → Bool → Bool → (List ((Bool × (List Int) × Unit) × Int × Unit)) → Int → Int → Option (Bool × Unit)) : Nat → Bool → (List Int) → Int → Bool → (List Int) → Int → Bool → (List Int) → Int → Bool → (List Int) → Int → Bool → Bool → Bool → (List Int) → Int → (List ((Bool × (List Int) × Unit) × Int × Unit)) → Int → Int → (List ((Bool × (List Int) × Unit) × Int × Unit)) → Int → Int → Option (Bool × Unit)
  | 0, _, _, _, _, _, _, _, _, _, _, _, _, _, _, _, _, _, _, _, _, _, _, _ => none
  | n + 1, b_0, b_1, b_2, b_3, b_4, b_5, p_0, p_1, p_2, p_3, p_4, p_5, low, high, x_0, x_1, x_2, t124, t125, t126, t134, t135, t136 => w06_SpanTight_s1 κ0 (w06_SpanTight_l1 K κ0 n) b_0 b_1 b_2 b_3 b_4 b_5 p_0 p_1 p_2 p_3 p_4 p_5 low high x_0 x_1 x_2 t124 t125 t126 t134 t135 t136

/-- w06_SpanTight: one round of loop 0. -/
def w06_SpanTight_s0 (I1 : Bool → (List Int) → Int → Bool → (List Int) → Int → Bool → (List Int) → Int → Bool → (List Int) → Int → Bool → Bool → Bool → (List Int) → Int → (List ((Bool × (List Int) × Unit) × Int × Unit)) → Int → Int → (List ((Bool × (List Int) × Unit) × Int × Unit)) → Int → Int → Option (Bool × Unit)) (κ0 : Bool → (List Int) → Int → Bool → (List Int) → Int → Bool → (List Int) → Int → Bool → (List Int) → Int → Bool → Bool → (List ((Bool × (List Int) × Unit) × Int × Unit)) → Int → Int → Option (Bool × Unit)) (b_0 : Bool) (b_1 : List Int) (b_2 : Int) (b_3 : Bool) (b_4 : List Int) (b_5 : Int) (p_0 : Bool) (p_1 : List Int) (p_2 : Int) (p_3 : Bool) (p_4 : List Int) (p_5 : Int) (low : Bool) (high : Bool) (t124 : List ((Bool × (List Int) × Unit) × Int × Unit)) (t125 : Int) (t126 : Int) : Option (Bool × Unit) :=
  cond (decide (t126 < t125))
    (
      cond (decide (0 ≤ t126))
        (
          cond (decide (t126 < (t124.length : Int)))
            (
              let z14 := t124.getD t126.toNat ((false, ([], ())), (0, ()))
              I1 b_0 b_1 b_2 b_3 b_4 b_5 p_0 p_1 p_2 p_3 p_4 p_5 low high z14.1.1 z14.1.2.1 z14.2.1 t124 t125 t126 ([((b_0, b_1, ()), b_2, ()), ((b_3, b_4, ()), b_5, ())]) (([((b_0, b_1, ()), b_2, ()), ((b_3, b_4, ()), b_5, ())]).length : Int) 0) none) none)
    (
      cond (low) (some (high, ())) (some (false, ())))

def w06_SpanTight_l0 (K : Nat) : Nat → Bool → (List Int) → Int → Bool → (List Int) → Int → Bool → (List Int) → Int → Bool → (List Int) → Int → Bool → Bool → (List ((Bool × (List Int) × Unit) × Int × Unit)) → Int → Int → Option (Bool × Unit)
  | 0, _, _, _, _, _, _, _, _, _, _, _, _, _, _, _, _, _ => none
  | n + 1, b_0, b_1, b_2, b_3, b_4, b_5, p_0, p_1, p_2, p_3, p_4, p_5, low, high, t124, t125, t126 => w06_SpanTight_s0 (w06_SpanTight_l1 K (w06_SpanTight_l0 K n) K) (w06_SpanTight_l0 K n) b_0 b_1 b_2 b_3 b_4 b_5 p_0 p_1 p_2 p_3 p_4 p_5 low high t124 t125 t126

/-- girdlelaw06.SpanTight -/
def w06_SpanTight_b (I0 : Bool → (List Int) → Int → Bool → (List Int) → Int → Bool → (List Int) → Int → Bool → (List Int) → Int → Bool → Bool → (List ((Bool × (List Int) × Unit) × Int × Unit)) → Int → Int → Option (Bool × Unit)) (a : ((Bool × (List Int) × Unit) × Int × Unit) × ((Bool × (List Int) × Unit) × Int × Unit) × Unit) (b : ((Bool × (List Int) × Unit) × Int × Unit) × ((Bool × (List Int) × Unit) × Int × Unit) × Unit) : Option (Bool × Unit) :=
  (S.w06_between (())).bind fun z1 =>
  cond (!z1.1) (some (false, ()))
    (
      (S.w06_fit ([(((a.1.1.1, a.1.1.2.1, ()), a.1.2.1, ()), ((a.2.1.1.1, a.2.1.1.2.1, ()), a.2.1.2.1, ()), ()), (((b.1.1.1, b.1.1.2.1, ()), b.1.2.1, ()), ((b.2.1.1.1, b.2.1.1.2.1, ()), b.2.1.2.1, ()), ())], ())).bind fun z2 =>
      cond (!z2.1) (some (true, ()))
        (
          (S.span_Add ((((a.1.1.1, a.1.1.2.1, ()), a.1.2.1, ()), ((a.2.1.1.1, a.2.1.1.2.1, ()), a.2.1.2.1, ()), ()), (((b.1.1.1, b.1.1.2.1, ()), b.1.2.1, ()), ((b.2.1.1.1, b.2.1.1.2.1, ()), b.2.1.2.1, ()), ()), 4000, ())).bind fun z3 =>
          (S.span_Sub ((((a.1.1.1, a.1.1.2.1, ()), a.1.2.1, ()), ((a.2.1.1.1, a.2.1.1.2.1, ()), a.2.1.2.1, ()), ()), (((b.1.1.1, b.1.1.2.1, ()), b.1.2.1, ()), ((b.2.1.1.1, b.2.1.1.2.1, ()), b.2.1.2.1, ()), ()), 4000, ())).bind fun z4 =>
          (S.span_Mul ((((a.1.1.1, a.1.1.2.1, ()), a.1.2.1, ()), ((a.2.1.1.1, a.2.1.1.2.1, ()), a.2.1.2.1, ()), ()), (((b.1.1.1, b.1.1.2.1, ()), b.1.2.1, ()), ((b.2.1.1.1, b.2.1.1.2.1, ()), b.2.1.2.1, ()), ()), 4000, ())).bind fun z5 =>
          cond (!(decide (z3.2.1 = 0))) (some (false, ()))
            (
              cond (!(decide (z4.2.1 = 0))) (some (false, ()))
                (
                  cond (!(decide (z5.2.1 = 0))) (some (false, ()))
                    (
                      (S.dyad_Add (((a.1.1.1, a.1.1.2.1, ()), a.1.2.1, ()), ((b.1.1.1, b.1.1.2.1, ()), b.1.2.1, ()), ())).bind fun z6 =>
                      (S.dyad_Add (((a.2.1.1.1, a.2.1.1.2.1, ()), a.2.1.2.1, ()), ((b.2.1.1.1, b.2.1.1.2.1, ()), b.2.1.2.1, ()), ())).bind fun z7 =>
                      (S.dyad_Sub (((a.1.1.1, a.1.1.2.1, ()), a.1.2.1, ()), ((b.2.1.1.1, b.2.1.1.2.1, ()), b.2.1.2.1, ()), ())).bind fun z8 =>
                      (S.dyad_Sub (((a.2.1.1.1, a.2.1.1.2.1, ()), a.2.1.2.1, ()), ((b.1.1.1, b.1.1.2.1, ()), b.1.2.1, ()), ())).bind fun z9 =>
                      (S.dyad_Compare (((z3.1.1.1.1, z3.1.1.1.2.1, ()), z3.1.1.2.1, ()), ((z6.1.1.1, z6.1.1.2.1, ()), z6.1.2.1, ()), ())).bind fun z10 =>
                      cond (!(decide (z10.1 = 0))) (some (false, ()))
                        (
                          (S.dyad_Compare (((z3.1.2.1.1.1, z3.1.2.1.1.2.1, ()), z3.1.2.1.2.1, ()), ((z7.1.1.1, z7.1.1.2.1, ()), z7.1.2.1, ()), ())).bind fun z11 =>
                          cond (!(decide (z11.1 = 0))) (some (false, ()))
                            (
                              (S.dyad_Compare (((z4.1.1.1.1, z4.1.1.1.2.1, ()), z4.1.1.2.1, ()), ((z8.1.1.1, z8.1.1.2.1, ()), z8.1.2.1, ()), ())).bind fun z12 =>
                              cond (!(decide (z12.1 = 0))) (some (false, ()))
                                (
                                  (S.dyad_Compare (((z4.1.2.1.1.1, z4.1.2.1.1.2.1, ()), z4.1.2.1.2.1, ()), ((z9.1.1.1, z9.1.1.2.1, ()), z9.1.2.1, ()), ())).bind fun z13 =>
                                  cond (!(decide (z13.1 = 0))) (some (false, ()))
                                    (
                                      I0 b.1.1.1 b.1.1.2.1 b.1.2.1 b.2.1.1.1 b.2.1.1.2.1 b.2.1.2.1 z5.1.1.1.1 z5.1.1.1.2.1 z5.1.1.2.1 z5.1.2.1.1.1 z5.1.2.1.1.2.1 z5.1.2.1.2.1 false false ([((a.1.1.1, a.1.1.2.1, ()), a.1.2.1, ()), ((a.2.1.1.1, a.2.1.1.2.1, ()), a.2.1.2.1, ())]) (([((a.1.1.1, a.1.1.2.1, ()), a.1.2.1, ()), ((a.2.1.1.1, a.2.1.1.2.1, ()), a.2.1.2.1, ())]).length : Int) 0)))))))))

def w06_SpanTight (K : Nat) (a : ((Bool × (List Int) × Unit) × Int × Unit) × ((Bool × (List Int) × Unit) × Int × Unit) × Unit) (b : ((Bool × (List Int) × Unit) × Int × Unit) × ((Bool × (List Int) × Unit) × Int × Unit) × Unit) : Option (Bool × Unit) := w06_SpanTight_b (w06_SpanTight_l0 K K) a b

def S.w06_SpanTight (x : SP × SP × Unit) : Option (Bool × Unit) := L.w06_SpanTight 100 x.1 x.2.1
/-- Is a product the least, is it the greatest, so far? -/
def tg (m : Int) (x : Int) (y : Nat → Int) (b : Bool) : Nat → Bool
  | 0 => b
  | i + 1 => bif tg m x y b i then true else decide (sgn (x * y i) m = 0)
theorem tg_of {m x : Int} {y : Nat → Int} {b : Bool} {n : Nat} (h : b = true ∨ ∃ j < n, x * y j = m) : tg m x y b n = true := by
  induction n with
  | zero => rcases h with h | ⟨j, hj, _⟩
            · exact h
            · omega
  | succ n ih =>
    simp only [tg]
    cases hb : tg m x y b n with
    | true => rfl
    | false =>
      simp only [cond_false]
      rcases h with h | ⟨j, hj, e⟩
      · rw [ih (.inl h)] at hb; cases hb
      · by_cases hjn : j = n
        · subst hjn; rw [e, sgn_self]; rfl
        · rw [ih (.inr ⟨j, by omega, e⟩)] at hb; cases hb
def tg2 (m : Int) (x y : Nat → Int) : Nat → Bool
  | 0 => false
  | i + 1 => tg m (x i) y (tg2 m x y i) 2
theorem tg2_of {m : Int} {x y : Nat → Int} {n : Nat} (h : ∃ i < n, ∃ j < 2, x i * y j = m) : tg2 m x y n = true := by
  induction n with
  | zero => obtain ⟨i, hi, _⟩ := h; omega
  | succ n ih =>
    simp only [tg2]
    apply tg_of
    obtain ⟨i, hi, j, hj, e⟩ := h
    by_cases hin : i = n
    · subst hin; exact .inr ⟨j, hj, e⟩
    · exact .inl (ih ⟨i, by omega, j, hj, e⟩)
theorem SpanTight_true {a b : SP} (ha : inS a) (hb : inS b) : w06_SpanTight 100 a b = some (true, ()) := by
  unfold w06_SpanTight w06_SpanTight_b
  rw [w06_between_true, Option.bind_some]
  simp only [Bool.not_true, cond_false]
  rcases w06_fit2 ha hb with e | ⟨e, ⟨l, h, rfl, hl, hlh⟩, l', h', rfl, hl', hlh'⟩
  · rw [show S.w06_fit _ = _ from e]; rfl
  rw [show S.w06_fit _ = _ from e, Option.bind_some]
  simp only [Bool.not_true, cond_false]
  have hm := mlo_abs hl hl'
  have e1 := span_Add_Sp (e := -((200 : Nat) : Int)) (b := 4000) hl hl' (by decide) (by decide) (by decide) (by decide) (by decide)
  have e2 := span_Sub_Sp (e := -((200 : Nat) : Int)) (b := 4000) hl hl' (by decide) (by decide) (by decide) (by decide) (by decide)
  have e3 := span_Mul_Sp (e := -((200 : Nat) : Int)) (f := -((200 : Nat) : Int)) (b := 4000) hl hl' (by decide) (by decide) (by decide) (by decide) (by decide) (by decide) (by decide)
  have a1 := nA_add hl.1 hl'.1
  have a2 := nA_add hl.2 hl'.2
  have a3 := sub_abs hl.1 hl'.2
  have a4 := sub_abs hl.2 hl'.1
  rw [rdn_same (P_bl a1 (by decide)), rup_same (P_bl a2 (by decide))] at e1
  rw [rdn_same (P_bl a3 (by decide)), rup_same (P_bl a4 (by decide))] at e2
  rw [rdn_same (P_bl hm.1 (by decide)), rup_same (P_bl hm.2 (by decide))] at e3
  have e4 := dyad_Add_Yd (e := -((200 : Nat) : Int)) hl.1 hl'.1 (by decide) (by decide) (by decide)
  have e5 := dyad_Add_Yd (e := -((200 : Nat) : Int)) hl.2 hl'.2 (by decide) (by decide) (by decide)
  have e6 := dyad_Sub_Yd (e := -((200 : Nat) : Int)) hl.1 hl'.2 (by decide) (by decide) (by decide)
  have e7 := dyad_Sub_Yd (e := -((200 : Nat) : Int)) hl.2 hl'.1 (by decide) (by decide) (by decide)
  have c1 := dyad_Compare_Yd (e := -((200 : Nat) : Int)) a1 a1 (by decide) (by decide) (by decide)
  have c2 := dyad_Compare_Yd (e := -((200 : Nat) : Int)) a2 a2 (by decide) (by decide) (by decide)
  have c3 := dyad_Compare_Yd (e := -((200 : Nat) : Int)) a3 a3 (by decide) (by decide) (by decide)
  have c4 := dyad_Compare_Yd (e := -((200 : Nat) : Int)) a4 a4 (by decide) (by decide) (by decide)
  rw [sgn_self] at c1 c2 c3 c4
  rw [show (4000 : Int) = ((4000 : Nat) : Int) from rfl, show S.span_Add _ = _ from e1, Option.bind_some, show S.span_Sub _ = _ from e2, Option.bind_some, show S.span_Mul _ = _ from e3, Option.bind_some]
  simp only [decide_true, Bool.not_true, cond_false]
  rw [show S.dyad_Add _ = _ from e4, Option.bind_some, show S.dyad_Add _ = _ from e5, Option.bind_some, show S.dyad_Sub _ = _ from e6, Option.bind_some, show S.dyad_Sub _ = _ from e7, Option.bind_some, show S.dyad_Compare _ = _ from c1, Option.bind_some]
  simp only [decide_true, Bool.not_true, cond_false]
  rw [show S.dyad_Compare _ = _ from c2, Option.bind_some]
  simp only [decide_true, Bool.not_true, cond_false]
  rw [show S.dyad_Compare _ = _ from c3, Option.bind_some]
  simp only [decide_true, Bool.not_true, cond_false]
  rw [show S.dyad_Compare _ = _ from c4, Option.bind_some]
  simp only [decide_true, Bool.not_true, cond_false]
  have xs : ∀ i, i < 2 → ([Yd l (-((200 : Nat) : Int)), Yd h (-((200 : Nat) : Int))] : List DY).getD i dy0 = Yd (if i = 0 then l else h) (-((200 : Nat) : Int)) := fun i hi => by
    rcases (by omega : i = 0 ∨ i = 1) with rfl | rfl <;> rfl
  have ys : ∀ i, i < 2 → ([Yd l' (-((200 : Nat) : Int)), Yd h' (-((200 : Nat) : Int))] : List DY).getD i dy0 = Yd (if i = 0 then l' else h') (-((200 : Nat) : Int)) := fun i hi => by
    rcases (by omega : i = 0 ∨ i = 1) with rfl | rfl <;> rfl
  have h2l : (([Yd l (-((200 : Nat) : Int)), Yd h (-((200 : Nat) : Int))] : List DY).length : Int) = ((2 : Nat) : Int) := rfl
  have h2l' : (([Yd l' (-((200 : Nat) : Int)), Yd h' (-((200 : Nat) : Int))] : List DY).length : Int) = ((2 : Nat) : Int) := rfl
  generalize hX : (fun i : Nat => if i = 0 then l else h) = X
  generalize hY : (fun i : Nat => if i = 0 then l' else h') = Y
  have xX : ∀ i, (if i = 0 then l else h) = X i := fun i => by rw [← hX]
  have yY : ∀ i, (if i = 0 then l' else h') = Y i := fun i => by rw [← hY]
  have bX : ∀ i, (X i).natAbs < P 23 ∧ l ≤ X i ∧ X i ≤ h := fun i => by
    rw [← xX]; split
    · exact ⟨hl.1, by omega, by omega⟩
    · exact ⟨hl.2, by omega, by omega⟩
  have bY : ∀ i, (Y i).natAbs < P 23 ∧ l' ≤ Y i ∧ Y i ≤ h' := fun i => by
    rw [← yY]; split
    · exact ⟨hl'.1, by omega, by omega⟩
    · exact ⟨hl'.2, by omega, by omega⟩
  have X0 : X 0 = l := by rw [← xX]; rfl
  have X1 : X 1 = h := by rw [← xX]; rfl
  have Y0 : Y 0 = l' := by rw [← yY]; rfl
  have Y1 : Y 1 = h' := by rw [← yY]; rfl
  have T1 : tg2 (mlo l h l' h') X Y 2 = true := by
    apply tg2_of
    rcases mlo_is l h l' h' with e | e | e | e
    · exact ⟨0, by decide, 0, by decide, by rw [X0, Y0, e]⟩
    · exact ⟨0, by decide, 1, by decide, by rw [X0, Y1, e]⟩
    · exact ⟨1, by decide, 0, by decide, by rw [X1, Y0, e]⟩
    · exact ⟨1, by decide, 1, by decide, by rw [X1, Y1, e]⟩
  have T2 : tg2 (mhi l h l' h') X Y 2 = true := by
    apply tg2_of
    rcases mhi_is l h l' h' with e | e | e | e
    · exact ⟨0, by decide, 0, by decide, by rw [X0, Y0, e]⟩
    · exact ⟨0, by decide, 1, by decide, by rw [X0, Y1, e]⟩
    · exact ⟨1, by decide, 0, by decide, by rw [X1, Y0, e]⟩
    · exact ⟨1, by decide, 1, by decide, by rw [X1, Y1, e]⟩
  generalize hM1 : mlo l h l' h' = M1 at *
  generalize hM2 : mhi l h l' h' = M2 at *
  refine loop_up 2 (fun i => (tg2 M1 X Y i, tg2 M2 X Y i)) (fun k s i => w06_SpanTight_l0 100 k (Yd l' (-((200 : Nat) : Int))).1.1 (Yd l' (-((200 : Nat) : Int))).1.2.1 (Yd l' (-((200 : Nat) : Int))).2.1 (Yd h' (-((200 : Nat) : Int))).1.1 (Yd h' (-((200 : Nat) : Int))).1.2.1 (Yd h' (-((200 : Nat) : Int))).2.1 (Yd M1 (-((200 : Nat) : Int) + -((200 : Nat) : Int))).1.1 (Yd M1 (-((200 : Nat) : Int) + -((200 : Nat) : Int))).1.2.1 (Yd M1 (-((200 : Nat) : Int) + -((200 : Nat) : Int))).2.1 (Yd M2 (-((200 : Nat) : Int) + -((200 : Nat) : Int))).1.1 (Yd M2 (-((200 : Nat) : Int) + -((200 : Nat) : Int))).1.2.1 (Yd M2 (-((200 : Nat) : Int) + -((200 : Nat) : Int))).2.1 s.1 s.2 [Yd l (-((200 : Nat) : Int)), Yd h (-((200 : Nat) : Int))] ((2 : Nat) : Int) i) _ (fun k i hi => ?_) (fun k => ?_) 100 (by omega)
  · simp only [w06_SpanTight_l0, w06_SpanTight_s0]
    rw [ct (by omega), ct (by omega), ct (by rw [h2l]; omega), Int.toNat_natCast, xs i hi, xX i]
    refine loop_up 2 (fun j => (tg M1 (X i) Y (tg2 M1 X Y i) j, tg M2 (X i) Y (tg2 M2 X Y i) j)) (fun k2 s j => w06_SpanTight_l1 100 (w06_SpanTight_l0 100 k) k2 (Yd l' (-((200 : Nat) : Int))).1.1 (Yd l' (-((200 : Nat) : Int))).1.2.1 (Yd l' (-((200 : Nat) : Int))).2.1 (Yd h' (-((200 : Nat) : Int))).1.1 (Yd h' (-((200 : Nat) : Int))).1.2.1 (Yd h' (-((200 : Nat) : Int))).2.1 (Yd M1 (-((200 : Nat) : Int) + -((200 : Nat) : Int))).1.1 (Yd M1 (-((200 : Nat) : Int) + -((200 : Nat) : Int))).1.2.1 (Yd M1 (-((200 : Nat) : Int) + -((200 : Nat) : Int))).2.1 (Yd M2 (-((200 : Nat) : Int) + -((200 : Nat) : Int))).1.1 (Yd M2 (-((200 : Nat) : Int) + -((200 : Nat) : Int))).1.2.1 (Yd M2 (-((200 : Nat) : Int) + -((200 : Nat) : Int))).2.1 s.1 s.2 (Yd (X i) (-((200 : Nat) : Int))).1.1 (Yd (X i) (-((200 : Nat) : Int))).1.2.1 (Yd (X i) (-((200 : Nat) : Int))).2.1 [Yd l (-((200 : Nat) : Int)), Yd h (-((200 : Nat) : Int))] ((2 : Nat) : Int) (i : Int) [Yd l' (-((200 : Nat) : Int)), Yd h' (-((200 : Nat) : Int))] ((2 : Nat) : Int) j) _ (fun k2 j hj => ?_) (fun k2 => ?_) 100 (by omega)
    · simp only [w06_SpanTight_l1, w06_SpanTight_s1]
      rw [ct (by omega), ct (by omega), ct (by rw [h2l']; omega), Int.toNat_natCast, ys j hj, yY j]
      have bx := bX i
      have by_ := bY j
      have m1 := dyad_Mul_Yd (e := -((200 : Nat) : Int)) (f := -((200 : Nat) : Int)) bx.1 by_.1 (by decide) (by decide) (by decide) (by decide) (by decide)
      have hp := nA_mul bx.1 by_.1
      have hmid := mul_mid bx.2.1 bx.2.2 by_.2.1 by_.2.2
      rw [hM1, hM2] at hmid
      have h3 := span_Has_Sp (e := -((200 : Nat) : Int) + -((200 : Nat) : Int)) hm hp (by decide) (by decide) (by decide)
      rw [decide_eq_true hmid] at h3
      have q1 := dyad_Compare_Yd (e := -((200 : Nat) : Int) + -((200 : Nat) : Int)) hp hm.1 (by decide) (by decide) (by decide)
      have q2 := dyad_Compare_Yd (e := -((200 : Nat) : Int) + -((200 : Nat) : Int)) hp hm.2 (by decide) (by decide) (by decide)
      rw [show S.dyad_Mul _ = _ from m1, Option.bind_some, show S.span_Has _ = _ from h3, Option.bind_some]
      simp only [Bool.not_true, cond_false, tg]
      rw [wi1 (by omega)]
      cases tg M1 (X i) Y (tg2 M1 X Y i) j <;> cases tg M2 (X i) Y (tg2 M2 X Y i) j <;> simp only [cond_true, cond_false]
      · rw [show S.dyad_Compare _ = _ from q1, Option.bind_some, show S.dyad_Compare _ = _ from q2, Option.bind_some]
      · rw [show S.dyad_Compare _ = _ from q1, Option.bind_some]
      · rw [show S.dyad_Compare _ = _ from q2, Option.bind_some]
    · simp only [w06_SpanTight_l1, w06_SpanTight_s1]
      rw [cf (by omega), wi1 (by omega)]
      rfl
  · simp only [w06_SpanTight_l0, w06_SpanTight_s0]
    rw [cf (by omega), T1, T2]
    rfl
/-- girdlelaw06.SpanSets -/
def w06_SpanSets (a : ((Bool × (List Int) × Unit) × Int × Unit) × ((Bool × (List Int) × Unit) × Int × Unit) × Unit) (b : ((Bool × (List Int) × Unit) × Int × Unit) × ((Bool × (List Int) × Unit) × Int × Unit) × Unit) (d : (Bool × (List Int) × Unit) × Int × Unit) : Option (Bool × Unit) :=
  (S.w06_between (())).bind fun z1 =>
  cond (!z1.1) (some (false, ()))
    (
      (S.span_Point (((d.1.1, d.1.2.1, ()), d.2.1, ()), ())).bind fun z2 =>
      (S.w06_fit ([(((a.1.1.1, a.1.1.2.1, ()), a.1.2.1, ()), ((a.2.1.1.1, a.2.1.1.2.1, ()), a.2.1.2.1, ()), ()), (((b.1.1.1, b.1.1.2.1, ()), b.1.2.1, ()), ((b.2.1.1.1, b.2.1.1.2.1, ()), b.2.1.2.1, ()), ()), (((z2.1.1.1.1, z2.1.1.1.2.1, ()), z2.1.1.2.1, ()), ((z2.1.2.1.1.1, z2.1.2.1.1.2.1, ()), z2.1.2.1.2.1, ()), ())], ())).bind fun z3 =>
      cond (!z3.1) (some (true, ()))
        (
          (S.span_Hull ((((a.1.1.1, a.1.1.2.1, ()), a.1.2.1, ()), ((a.2.1.1.1, a.2.1.1.2.1, ()), a.2.1.2.1, ()), ()), (((b.1.1.1, b.1.1.2.1, ()), b.1.2.1, ()), ((b.2.1.1.1, b.2.1.1.2.1, ()), b.2.1.2.1, ()), ()), ())).bind fun z4 =>
          (S.span_Meet ((((a.1.1.1, a.1.1.2.1, ()), a.1.2.1, ()), ((a.2.1.1.1, a.2.1.1.2.1, ()), a.2.1.2.1, ()), ()), (((b.1.1.1, b.1.1.2.1, ()), b.1.2.1, ()), ((b.2.1.1.1, b.2.1.1.2.1, ()), b.2.1.2.1, ()), ()), ())).bind fun z5 =>
          (S.span_Holds ((((z4.1.1.1.1, z4.1.1.1.2.1, ()), z4.1.1.2.1, ()), ((z4.1.2.1.1.1, z4.1.2.1.1.2.1, ()), z4.1.2.1.2.1, ()), ()), (((a.1.1.1, a.1.1.2.1, ()), a.1.2.1, ()), ((a.2.1.1.1, a.2.1.1.2.1, ()), a.2.1.2.1, ()), ()), ())).bind fun z6 =>
          cond (!z6.1) (some (false, ()))
            (
              (S.span_Holds ((((z4.1.1.1.1, z4.1.1.1.2.1, ()), z4.1.1.2.1, ()), ((z4.1.2.1.1.1, z4.1.2.1.1.2.1, ()), z4.1.2.1.2.1, ()), ()), (((b.1.1.1, b.1.1.2.1, ()), b.1.2.1, ()), ((b.2.1.1.1, b.2.1.1.2.1, ()), b.2.1.2.1, ()), ()), ())).bind fun z7 =>
              cond (!z7.1) (some (false, ()))
                (
                  (S.span_Neg ((((a.1.1.1, a.1.1.2.1, ()), a.1.2.1, ()), ((a.2.1.1.1, a.2.1.1.2.1, ()), a.2.1.2.1, ()), ()), ())).bind fun z8 =>
                  (S.dyad_Neg (((d.1.1, d.1.2.1, ()), d.2.1, ()), ())).bind fun z9 =>
                  (S.span_Has ((((z8.1.1.1.1, z8.1.1.1.2.1, ()), z8.1.1.2.1, ()), ((z8.1.2.1.1.1, z8.1.2.1.1.2.1, ()), z8.1.2.1.2.1, ()), ()), ((z9.1.1.1, z9.1.1.2.1, ()), z9.1.2.1, ()), ())).bind fun z10 =>
                  (S.span_Has ((((a.1.1.1, a.1.1.2.1, ()), a.1.2.1, ()), ((a.2.1.1.1, a.2.1.1.2.1, ()), a.2.1.2.1, ()), ()), ((d.1.1, d.1.2.1, ()), d.2.1, ()), ())).bind fun z11 =>
                  cond (!(z10.1 == z11.1)) (some (false, ()))
                    (
                      (S.span_Has ((((a.1.1.1, a.1.1.2.1, ()), a.1.2.1, ()), ((a.2.1.1.1, a.2.1.1.2.1, ()), a.2.1.2.1, ()), ()), ((d.1.1, d.1.2.1, ()), d.2.1, ()), ())).bind fun z12 =>
                      cond (z12.1)
                        (
                          (S.span_Has ((((z4.1.1.1.1, z4.1.1.1.2.1, ()), z4.1.1.2.1, ()), ((z4.1.2.1.1.1, z4.1.2.1.1.2.1, ()), z4.1.2.1.2.1, ()), ()), ((d.1.1, d.1.2.1, ()), d.2.1, ()), ())).bind fun z13 =>
                          cond (!z13.1) (some (false, ()))
                            (
                              (S.span_Has ((((a.1.1.1, a.1.1.2.1, ()), a.1.2.1, ()), ((a.2.1.1.1, a.2.1.1.2.1, ()), a.2.1.2.1, ()), ()), ((d.1.1, d.1.2.1, ()), d.2.1, ()), ())).bind fun z14 =>
                              cond (z14.1)
                                (
                                  (S.span_Has ((((b.1.1.1, b.1.1.2.1, ()), b.1.2.1, ()), ((b.2.1.1.1, b.2.1.1.2.1, ()), b.2.1.2.1, ()), ()), ((d.1.1, d.1.2.1, ()), d.2.1, ()), ())).bind fun z15 =>
                                  cond (!(decide (z5.2.1 = 0)))
                                    (
                                      cond (decide (z5.2.1 = 4))
                                        (
                                          cond (!z15.1)
                                            (
                                              (S.dyad_Less (((a.2.1.1.1, a.2.1.1.2.1, ()), a.2.1.2.1, ()), ((b.1.1.1, b.1.1.2.1, ()), b.1.2.1, ()), ())).bind fun z16 =>
                                              cond (z16.1) (some (true, ()))
                                                (
                                                  (S.dyad_Less (((b.2.1.1.1, b.2.1.1.2.1, ()), b.2.1.2.1, ()), ((a.1.1.1, a.1.1.2.1, ()), a.1.2.1, ()), ())).bind fun z17 =>
                                                  some (z17.1, ()))) (some (false, ()))) (some (false, ())))
                                    (
                                      (S.span_Has ((((z5.1.1.1.1, z5.1.1.1.2.1, ()), z5.1.1.2.1, ()), ((z5.1.2.1.1.1, z5.1.2.1.1.2.1, ()), z5.1.2.1.2.1, ()), ()), ((d.1.1, d.1.2.1, ()), d.2.1, ()), ())).bind fun z18 =>
                                      cond ((z18.1 == z15.1))
                                        (
                                          (S.span_Holds ((((a.1.1.1, a.1.1.2.1, ()), a.1.2.1, ()), ((a.2.1.1.1, a.2.1.1.2.1, ()), a.2.1.2.1, ()), ()), (((z5.1.1.1.1, z5.1.1.1.2.1, ()), z5.1.1.2.1, ()), ((z5.1.2.1.1.1, z5.1.2.1.1.2.1, ()), z5.1.2.1.2.1, ()), ()), ())).bind fun z19 =>
                                          cond (z19.1)
                                            (
                                              (S.span_Holds ((((b.1.1.1, b.1.1.2.1, ()), b.1.2.1, ()), ((b.2.1.1.1, b.2.1.1.2.1, ()), b.2.1.2.1, ()), ()), (((z5.1.1.1.1, z5.1.1.1.2.1, ()), z5.1.1.2.1, ()), ((z5.1.2.1.1.1, z5.1.2.1.1.2.1, ()), z5.1.2.1.2.1, ()), ()), ())).bind fun z20 =>
                                              some (z20.1, ())) (some (false, ()))) (some (false, ()))))
                                (
                                  cond (!(decide (z5.2.1 = 0)))
                                    (
                                      cond (decide (z5.2.1 = 4))
                                        (
                                          (S.dyad_Less (((a.2.1.1.1, a.2.1.1.2.1, ()), a.2.1.2.1, ()), ((b.1.1.1, b.1.1.2.1, ()), b.1.2.1, ()), ())).bind fun z21 =>
                                          cond (z21.1) (some (true, ()))
                                            (
                                              (S.dyad_Less (((b.2.1.1.1, b.2.1.1.2.1, ()), b.2.1.2.1, ()), ((a.1.1.1, a.1.1.2.1, ()), a.1.2.1, ()), ())).bind fun z22 =>
                                              some (z22.1, ()))) (some (false, ())))
                                    (
                                      (S.span_Has ((((z5.1.1.1.1, z5.1.1.1.2.1, ()), z5.1.1.2.1, ()), ((z5.1.2.1.1.1, z5.1.2.1.1.2.1, ()), z5.1.2.1.2.1, ()), ()), ((d.1.1, d.1.2.1, ()), d.2.1, ()), ())).bind fun z23 =>
                                      cond ((z23.1 == false))
                                        (
                                          (S.span_Holds ((((a.1.1.1, a.1.1.2.1, ()), a.1.2.1, ()), ((a.2.1.1.1, a.2.1.1.2.1, ()), a.2.1.2.1, ()), ()), (((z5.1.1.1.1, z5.1.1.1.2.1, ()), z5.1.1.2.1, ()), ((z5.1.2.1.1.1, z5.1.2.1.1.2.1, ()), z5.1.2.1.2.1, ()), ()), ())).bind fun z24 =>
                                          cond (z24.1)
                                            (
                                              (S.span_Holds ((((b.1.1.1, b.1.1.2.1, ()), b.1.2.1, ()), ((b.2.1.1.1, b.2.1.1.2.1, ()), b.2.1.2.1, ()), ()), (((z5.1.1.1.1, z5.1.1.1.2.1, ()), z5.1.1.2.1, ()), ((z5.1.2.1.1.1, z5.1.2.1.1.2.1, ()), z5.1.2.1.2.1, ()), ()), ())).bind fun z25 =>
                                              some (z25.1, ())) (some (false, ()))) (some (false, ()))))))
                        (
                          (S.span_Has ((((b.1.1.1, b.1.1.2.1, ()), b.1.2.1, ()), ((b.2.1.1.1, b.2.1.1.2.1, ()), b.2.1.2.1, ()), ()), ((d.1.1, d.1.2.1, ()), d.2.1, ()), ())).bind fun z26 =>
                          cond (z26.1)
                            (
                              (S.span_Has ((((z4.1.1.1.1, z4.1.1.1.2.1, ()), z4.1.1.2.1, ()), ((z4.1.2.1.1.1, z4.1.2.1.1.2.1, ()), z4.1.2.1.2.1, ()), ()), ((d.1.1, d.1.2.1, ()), d.2.1, ()), ())).bind fun z27 =>
                              cond (!z27.1) (some (false, ()))
                                (
                                  (S.span_Has ((((a.1.1.1, a.1.1.2.1, ()), a.1.2.1, ()), ((a.2.1.1.1, a.2.1.1.2.1, ()), a.2.1.2.1, ()), ()), ((d.1.1, d.1.2.1, ()), d.2.1, ()), ())).bind fun z28 =>
                                  cond (z28.1)
                                    (
                                      (S.span_Has ((((b.1.1.1, b.1.1.2.1, ()), b.1.2.1, ()), ((b.2.1.1.1, b.2.1.1.2.1, ()), b.2.1.2.1, ()), ()), ((d.1.1, d.1.2.1, ()), d.2.1, ()), ())).bind fun z29 =>
                                      cond (!(decide (z5.2.1 = 0)))
                                        (
                                          cond (decide (z5.2.1 = 4))
                                            (
                                              cond (!z29.1)
                                                (
                                                  (S.dyad_Less (((a.2.1.1.1, a.2.1.1.2.1, ()), a.2.1.2.1, ()), ((b.1.1.1, b.1.1.2.1, ()), b.1.2.1, ()), ())).bind fun z30 =>
                                                  cond (z30.1) (some (true, ()))
                                                    (
                                                      (S.dyad_Less (((b.2.1.1.1, b.2.1.1.2.1, ()), b.2.1.2.1, ()), ((a.1.1.1, a.1.1.2.1, ()), a.1.2.1, ()), ())).bind fun z31 =>
                                                      some (z31.1, ()))) (some (false, ()))) (some (false, ())))
                                        (
                                          (S.span_Has ((((z5.1.1.1.1, z5.1.1.1.2.1, ()), z5.1.1.2.1, ()), ((z5.1.2.1.1.1, z5.1.2.1.1.2.1, ()), z5.1.2.1.2.1, ()), ()), ((d.1.1, d.1.2.1, ()), d.2.1, ()), ())).bind fun z32 =>
                                          cond ((z32.1 == z29.1))
                                            (
                                              (S.span_Holds ((((a.1.1.1, a.1.1.2.1, ()), a.1.2.1, ()), ((a.2.1.1.1, a.2.1.1.2.1, ()), a.2.1.2.1, ()), ()), (((z5.1.1.1.1, z5.1.1.1.2.1, ()), z5.1.1.2.1, ()), ((z5.1.2.1.1.1, z5.1.2.1.1.2.1, ()), z5.1.2.1.2.1, ()), ()), ())).bind fun z33 =>
                                              cond (z33.1)
                                                (
                                                  (S.span_Holds ((((b.1.1.1, b.1.1.2.1, ()), b.1.2.1, ()), ((b.2.1.1.1, b.2.1.1.2.1, ()), b.2.1.2.1, ()), ()), (((z5.1.1.1.1, z5.1.1.1.2.1, ()), z5.1.1.2.1, ()), ((z5.1.2.1.1.1, z5.1.2.1.1.2.1, ()), z5.1.2.1.2.1, ()), ()), ())).bind fun z34 =>
                                                  some (z34.1, ())) (some (false, ()))) (some (false, ()))))
                                    (
                                      cond (!(decide (z5.2.1 = 0)))
                                        (
                                          cond (decide (z5.2.1 = 4))
                                            (
                                              (S.dyad_Less (((a.2.1.1.1, a.2.1.1.2.1, ()), a.2.1.2.1, ()), ((b.1.1.1, b.1.1.2.1, ()), b.1.2.1, ()), ())).bind fun z35 =>
                                              cond (z35.1) (some (true, ()))
                                                (
                                                  (S.dyad_Less (((b.2.1.1.1, b.2.1.1.2.1, ()), b.2.1.2.1, ()), ((a.1.1.1, a.1.1.2.1, ()), a.1.2.1, ()), ())).bind fun z36 =>
                                                  some (z36.1, ()))) (some (false, ())))
                                        (
                                          (S.span_Has ((((z5.1.1.1.1, z5.1.1.1.2.1, ()), z5.1.1.2.1, ()), ((z5.1.2.1.1.1, z5.1.2.1.1.2.1, ()), z5.1.2.1.2.1, ()), ()), ((d.1.1, d.1.2.1, ()), d.2.1, ()), ())).bind fun z37 =>
                                          cond ((z37.1 == false))
                                            (
                                              (S.span_Holds ((((a.1.1.1, a.1.1.2.1, ()), a.1.2.1, ()), ((a.2.1.1.1, a.2.1.1.2.1, ()), a.2.1.2.1, ()), ()), (((z5.1.1.1.1, z5.1.1.1.2.1, ()), z5.1.1.2.1, ()), ((z5.1.2.1.1.1, z5.1.2.1.1.2.1, ()), z5.1.2.1.2.1, ()), ()), ())).bind fun z38 =>
                                              cond (z38.1)
                                                (
                                                  (S.span_Holds ((((b.1.1.1, b.1.1.2.1, ()), b.1.2.1, ()), ((b.2.1.1.1, b.2.1.1.2.1, ()), b.2.1.2.1, ()), ()), (((z5.1.1.1.1, z5.1.1.1.2.1, ()), z5.1.1.2.1, ()), ((z5.1.2.1.1.1, z5.1.2.1.1.2.1, ()), z5.1.2.1.2.1, ()), ()), ())).bind fun z39 =>
                                                  some (z39.1, ())) (some (false, ()))) (some (false, ()))))))
                            (
                              (S.span_Has ((((a.1.1.1, a.1.1.2.1, ()), a.1.2.1, ()), ((a.2.1.1.1, a.2.1.1.2.1, ()), a.2.1.2.1, ()), ()), ((d.1.1, d.1.2.1, ()), d.2.1, ()), ())).bind fun z40 =>
                              cond (z40.1)
                                (
                                  (S.span_Has ((((b.1.1.1, b.1.1.2.1, ()), b.1.2.1, ()), ((b.2.1.1.1, b.2.1.1.2.1, ()), b.2.1.2.1, ()), ()), ((d.1.1, d.1.2.1, ()), d.2.1, ()), ())).bind fun z41 =>
                                  cond (!(decide (z5.2.1 = 0)))
                                    (
                                      cond (decide (z5.2.1 = 4))
                                        (
                                          cond (!z41.1)
                                            (
                                              (S.dyad_Less (((a.2.1.1.1, a.2.1.1.2.1, ()), a.2.1.2.1, ()), ((b.1.1.1, b.1.1.2.1, ()), b.1.2.1, ()), ())).bind fun z42 =>
                                              cond (z42.1) (some (true, ()))
                                                (
                                                  (S.dyad_Less (((b.2.1.1.1, b.2.1.1.2.1, ()), b.2.1.2.1, ()), ((a.1.1.1, a.1.1.2.1, ()), a.1.2.1, ()), ())).bind fun z43 =>
                                                  some (z43.1, ()))) (some (false, ()))) (some (false, ())))
                                    (
                                      (S.span_Has ((((z5.1.1.1.1, z5.1.1.1.2.1, ()), z5.1.1.2.1, ()), ((z5.1.2.1.1.1, z5.1.2.1.1.2.1, ()), z5.1.2.1.2.1, ()), ()), ((d.1.1, d.1.2.1, ()), d.2.1, ()), ())).bind fun z44 =>
                                      cond ((z44.1 == z41.1))
                                        (
                                          (S.span_Holds ((((a.1.1.1, a.1.1.2.1, ()), a.1.2.1, ()), ((a.2.1.1.1, a.2.1.1.2.1, ()), a.2.1.2.1, ()), ()), (((z5.1.1.1.1, z5.1.1.1.2.1, ()), z5.1.1.2.1, ()), ((z5.1.2.1.1.1, z5.1.2.1.1.2.1, ()), z5.1.2.1.2.1, ()), ()), ())).bind fun z45 =>
                                          cond (z45.1)
                                            (
                                              (S.span_Holds ((((b.1.1.1, b.1.1.2.1, ()), b.1.2.1, ()), ((b.2.1.1.1, b.2.1.1.2.1, ()), b.2.1.2.1, ()), ()), (((z5.1.1.1.1, z5.1.1.1.2.1, ()), z5.1.1.2.1, ()), ((z5.1.2.1.1.1, z5.1.2.1.1.2.1, ()), z5.1.2.1.2.1, ()), ()), ())).bind fun z46 =>
                                              some (z46.1, ())) (some (false, ()))) (some (false, ()))))
                                (
                                  cond (!(decide (z5.2.1 = 0)))
                                    (
                                      cond (decide (z5.2.1 = 4))
                                        (
                                          (S.dyad_Less (((a.2.1.1.1, a.2.1.1.2.1, ()), a.2.1.2.1, ()), ((b.1.1.1, b.1.1.2.1, ()), b.1.2.1, ()), ())).bind fun z47 =>
                                          cond (z47.1) (some (true, ()))
                                            (
                                              (S.dyad_Less (((b.2.1.1.1, b.2.1.1.2.1, ()), b.2.1.2.1, ()), ((a.1.1.1, a.1.1.2.1, ()), a.1.2.1, ()), ())).bind fun z48 =>
                                              some (z48.1, ()))) (some (false, ())))
                                    (
                                      (S.span_Has ((((z5.1.1.1.1, z5.1.1.1.2.1, ()), z5.1.1.2.1, ()), ((z5.1.2.1.1.1, z5.1.2.1.1.2.1, ()), z5.1.2.1.2.1, ()), ()), ((d.1.1, d.1.2.1, ()), d.2.1, ()), ())).bind fun z49 =>
                                      cond ((z49.1 == false))
                                        (
                                          (S.span_Holds ((((a.1.1.1, a.1.1.2.1, ()), a.1.2.1, ()), ((a.2.1.1.1, a.2.1.1.2.1, ()), a.2.1.2.1, ()), ()), (((z5.1.1.1.1, z5.1.1.1.2.1, ()), z5.1.1.2.1, ()), ((z5.1.2.1.1.1, z5.1.2.1.1.2.1, ()), z5.1.2.1.2.1, ()), ()), ())).bind fun z50 =>
                                          cond (z50.1)
                                            (
                                              (S.span_Holds ((((b.1.1.1, b.1.1.2.1, ()), b.1.2.1, ()), ((b.2.1.1.1, b.2.1.1.2.1, ()), b.2.1.2.1, ()), ()), (((z5.1.1.1.1, z5.1.1.1.2.1, ()), z5.1.1.2.1, ()), ((z5.1.2.1.1.1, z5.1.2.1.1.2.1, ()), z5.1.2.1.2.1, ()), ()), ())).bind fun z51 =>
                                              some (z51.1, ())) (some (false, ()))) (some (false, ())))))))))))

theorem SpanSets_true {a b : SP} {d : DY} (ha : inS a) (hb : inS b) (hd : inY d) : w06_SpanSets a b d = some (true, ()) := by
  unfold w06_SpanSets
  rw [w06_between_true, Option.bind_some]
  simp only [Bool.not_true, cond_false]
  rw [show S.span_Point _ = _ from Point_eq d, Option.bind_some]
  rcases w06_fit3 ha hb (c := (d, d, ())) ⟨hd, hd⟩ with e | ⟨e, ⟨l, h, rfl, hl, hlh⟩, ⟨l', h', rfl, hl', hlh'⟩, x, x2, hx, hxx, _⟩
  · rw [show S.w06_fit _ = _ from e]; rfl
  rw [show S.w06_fit _ = _ from e, Option.bind_some]
  simp only [Bool.not_true, cond_false]
  have hx : d = Yd x (-((200 : Nat) : Int)) := congrArg (fun s : SP => s.1) hx
  subst hx
  have hm1 : (min l l').natAbs < P 23 := by have := hl.1; have := hl'.1; omega
  have hm2 : (max h h').natAbs < P 23 := by have := hl.2; have := hl'.2; omega
  have hm : lt2 (min l l') (max h h') 23 := ⟨hm1, hm2⟩
  have hn1 : (max l l').natAbs < P 23 := by have := hl.1; have := hl'.1; omega
  have hn2 : (min h h').natAbs < P 23 := by have := hl.2; have := hl'.2; omega
  have hn : lt2 (max l l') (min h h') 23 := ⟨hn1, hn2⟩
  have hx1 := hxx.1
  have e1 := span_Hull_Sp (e := -((200 : Nat) : Int)) hl hl' (by decide) (by decide) (by decide)
  have e2 := span_Meet_Sp (e := -((200 : Nat) : Int)) hl hl' (by decide) (by decide) (by decide)
  have e3 := span_Holds_Sp (e := -((200 : Nat) : Int)) hm hl (by decide) (by decide) (by decide)
  have e4 := span_Holds_Sp (e := -((200 : Nat) : Int)) hm hl' (by decide) (by decide) (by decide)
  rw [decide_eq_true (by omega)] at e3 e4
  have e5 := span_Neg_Sp (e := -((200 : Nat) : Int)) hl (by decide)
  have e6 := dyad_Neg_Yd (e := -((200 : Nat) : Int)) (P1000 hx1 (by decide))
  have e7 := span_Has_Sp (e := -((200 : Nat) : Int)) (lt2_neg hl) (x := -x) (by rw [Int.natAbs_neg]; exact hx1) (by decide) (by decide) (by decide)
  have e8 := span_Has_Sp (e := -((200 : Nat) : Int)) hl hx1 (by decide) (by decide) (by decide)
  have e9 := span_Has_Sp (e := -((200 : Nat) : Int)) hl' hx1 (by decide) (by decide) (by decide)
  have e10 := span_Has_Sp (e := -((200 : Nat) : Int)) hm hx1 (by decide) (by decide) (by decide)
  have e11 := span_Has_Sp (e := -((200 : Nat) : Int)) hn hx1 (by decide) (by decide) (by decide)
  have e12 := span_Holds_Sp (e := -((200 : Nat) : Int)) hl hn (by decide) (by decide) (by decide)
  have e13 := span_Holds_Sp (e := -((200 : Nat) : Int)) hl' hn (by decide) (by decide) (by decide)
  have e14 := dyad_Less_Yd (e := -((200 : Nat) : Int)) hl.2 hl'.1 (by decide) (by decide) (by decide)
  have e15 := dyad_Less_Yd (e := -((200 : Nat) : Int)) hl'.2 hl.1 (by decide) (by decide) (by decide)
  have hneg : decide (-h ≤ -x ∧ -x ≤ -l) = decide (l ≤ x ∧ x ≤ h) := decide_eq_decide.2 (by omega)
  rw [hneg] at e7
  rw [show S.span_Hull _ = _ from e1, Option.bind_some, show S.span_Meet _ = _ from e2, Option.bind_some, show S.span_Holds _ = _ from e3, Option.bind_some]
  simp only [Bool.not_true, cond_false]
  rw [show S.span_Holds _ = _ from e4, Option.bind_some]
  simp only [Bool.not_true, cond_false]
  rw [show S.span_Neg _ = _ from e5, Option.bind_some, show S.dyad_Neg _ = _ from e6, Option.bind_some, show S.span_Has _ = _ from e7, Option.bind_some]
  rw [show S.span_Has _ = _ from e8, Option.bind_some]
  simp only [beq_self_eq_true, Bool.not_true, cond_false, Option.bind_some]
  by_cases hc : min h h' < max l l'
  · rw [if_pos hc]
    simp only [show decide ((4 : Int) = 0) = false from rfl, Bool.not_false, cond_true, decide_true]
    have hless : (h < l') ∨ (h' < l) := by omega
    have fin1 : ((S.dyad_Less (((((Yd h (-((200 : Nat) : Int)))).1.1, ((Yd h (-((200 : Nat) : Int)))).1.2.1, ()), ((Yd h (-((200 : Nat) : Int)))).2.1, ()), ((((Yd l' (-((200 : Nat) : Int)))).1.1, ((Yd l' (-((200 : Nat) : Int)))).1.2.1, ()), ((Yd l' (-((200 : Nat) : Int)))).2.1, ()), ())).bind fun z16 => cond z16.1 (some (true, ())) ((S.dyad_Less (((((Yd h' (-((200 : Nat) : Int)))).1.1, ((Yd h' (-((200 : Nat) : Int)))).1.2.1, ()), ((Yd h' (-((200 : Nat) : Int)))).2.1, ()), ((((Yd l (-((200 : Nat) : Int)))).1.1, ((Yd l (-((200 : Nat) : Int)))).1.2.1, ()), ((Yd l (-((200 : Nat) : Int)))).2.1, ()), ())).bind fun z17 => some (z17.1, ()))) = some (true, ()) := by
      rw [show S.dyad_Less _ = _ from e14, Option.bind_some]
      by_cases g : h < l'
      · rw [ct g]
      · rw [cf g, show S.dyad_Less _ = _ from e15, Option.bind_some, decide_eq_true (by omega)]
    by_cases a1 : l ≤ x ∧ x ≤ h
    · have b1 : ¬ (l' ≤ x ∧ x ≤ h') := by omega
      rw [decide_eq_true a1]
      simp only [cond_true]
      rw [show S.span_Has _ = _ from e10, Option.bind_some, decide_eq_true (by omega)]
      simp only [Bool.not_true, cond_false]
      rw [show S.span_Has _ = _ from e9, Option.bind_some, decide_eq_false b1]
      simp only [Bool.not_false, cond_true]
      exact fin1
    · rw [decide_eq_false a1]
      simp only [cond_false]
      rw [show S.span_Has _ = _ from e9, Option.bind_some]
      by_cases b1 : l' ≤ x ∧ x ≤ h'
      · rw [decide_eq_true b1]
        simp only [cond_true]
        rw [show S.span_Has _ = _ from e10, Option.bind_some, decide_eq_true (by omega)]
        simp only [Bool.not_true, cond_false]
        exact fin1
      · rw [decide_eq_false b1]
        simp only [cond_false]
        exact fin1
  · rw [if_neg hc]
    simp only [decide_true, Bool.not_true, cond_false]
    rw [decide_eq_true (by omega)] at e12 e13
    have fin2 : ∀ t : Bool, (decide (max l l' ≤ x ∧ x ≤ min h h') == t) = true → ((S.span_Has (Sp (max l l') (min h h') (-((200 : Nat) : Int)), Yd x (-((200 : Nat) : Int)), ())).bind fun z18 => cond (z18.1 == t) ((S.span_Holds (Sp l h (-((200 : Nat) : Int)), Sp (max l l') (min h h') (-((200 : Nat) : Int)), ())).bind fun z19 => cond z19.1 ((S.span_Holds (Sp l' h' (-((200 : Nat) : Int)), Sp (max l l') (min h h') (-((200 : Nat) : Int)), ())).bind fun z20 => some (z20.1, ())) (some (false, ()))) (some (false, ()))) = some (true, ()) := by
      intro t ht
      rw [e11, Option.bind_some]
      simp only [ht, cond_true]
      rw [e12, Option.bind_some]
      simp only [cond_true]
      rw [e13, Option.bind_some]
    by_cases a1 : l ≤ x ∧ x ≤ h
    · rw [decide_eq_true a1]
      simp only [cond_true]
      rw [show S.span_Has _ = _ from e10, Option.bind_some, decide_eq_true (by omega)]
      simp only [Bool.not_true, cond_false]
      rw [show S.span_Has _ = _ from e9, Option.bind_some]
      refine fin2 _ ?_
      have : decide (max l l' ≤ x ∧ x ≤ min h h') = decide (l' ≤ x ∧ x ≤ h') := decide_eq_decide.2 (by omega)
      rw [this]
      simp
    · rw [decide_eq_false a1]
      simp only [cond_false]
      rw [show S.span_Has _ = _ from e9, Option.bind_some]
      by_cases b1 : l' ≤ x ∧ x ≤ h'
      · rw [decide_eq_true b1]
        simp only [cond_true]
        rw [show S.span_Has _ = _ from e10, Option.bind_some, decide_eq_true (by omega)]
        simp only [Bool.not_true, cond_false]
        refine fin2 false ?_
        rw [decide_eq_false (by omega)]; rfl
      · rw [decide_eq_false b1]
        simp only [cond_false]
        refine fin2 false ?_
        rw [decide_eq_false (by omega)]; rfl
end Go.L
