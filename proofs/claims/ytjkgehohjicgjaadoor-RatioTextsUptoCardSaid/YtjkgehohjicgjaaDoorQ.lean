/-
  ratios in texts; the laws of ratios: made, field, orders, rounds, between. the laws of ratios: between; texts. the laws of ratios: texts, points.
  No condition beyond those that each theorem names.
-/
import Derived.Test.YtjkgehohjicgjaaDoorO

/-! QA -/
namespace Go.L
open Go.PM
set_option exponentiation.threshold 20000
set_option linter.unusedVariables false
set_option linter.unusedSimpArgs false

/-- Where a byte is first; less than nothing if it is nowhere. -/
def idxL : List UInt8 → UInt8 → Int
  | [], _ => -1
  | b :: l, c => if b == c then 0 else if idxL l c == -1 then -1 else idxL l c + 1
theorem idxL_spec (c : UInt8) : ∀ l : List UInt8, (idxL l c = -1 ∧ c ∉ l) ∨ ∃ a b, l = a ++ c :: b ∧ c ∉ a ∧ idxL l c = a.length
  | [] => .inl ⟨rfl, by simp⟩
  | x :: l => by
    simp only [idxL]
    by_cases hx : x = c
    · subst hx
      right
      refine ⟨[], l, rfl, by simp, ?_⟩
      simp
    · have hx' : (x == c) = false := by simpa using hx
      rw [hx', if_neg (by decide)]
      rcases idxL_spec c l with ⟨h1, h2⟩ | ⟨a, b, h1, h2, h3⟩
      · left
        rw [h1]
        exact ⟨rfl, by simp only [List.mem_cons, not_or]; exact ⟨fun e => hx e.symm, h2⟩⟩
      · right
        refine ⟨x :: a, b, by rw [h1]; rfl, by simp only [List.mem_cons, not_or]; exact ⟨fun e => hx e.symm, h2⟩, ?_⟩
        rw [h3]
        have : ((a.length : Int) == -1) = false := by
          rw [beq_eq_false_iff_ne]; omega
        rw [this, if_neg (by decide)]
        simp
theorem idxL_app {c : UInt8} {a b : List UInt8} (h : c ∉ a) : idxL (a ++ c :: b) c = a.length := by
  induction a with
  | nil => simp [idxL]
  | cons x a ih =>
    simp only [List.mem_cons, not_or] at h
    have hx : (x == c) = false := by simp only [beq_eq_false_iff_ne]; exact fun e => h.1 e.symm
    simp only [List.cons_append, idxL, hx, ih h.2]
    have : ((a.length : Int) == -1) = false := by
      rw [beq_eq_false_iff_ne]; omega
    rw [this]
    simp
theorem idxL_none {c : UInt8} {l : List UInt8} (h : c ∉ l) : idxL l c = -1 := by
  rcases idxL_spec c l with ⟨h1, _⟩ | ⟨a, b, h1, _, _⟩
  · exact h1
  · rw [h1] at h; simp at h
def S.internal_stringslite_IndexByte (x : ByteArray × Int × Unit) : Option (Int × Unit) := some (idxL x.1.data.toList x.2.1.toNat.toUInt8, ())
/-- internal/stringslite.Index -/
def internal_stringslite_Index (s : ByteArray) (substr : ByteArray) : Option (Int × Unit) :=
  cond (decide ((substr.size : Int) = 0)) (some (0, ()))
    (
      cond ((substr.toList == s.toList)) (some (0, ()))
        (
          cond (decide ((substr.size : Int) = 1))
            (
              cond (decide (0 < (substr.size : Int)))
                (
                  (S.internal_stringslite_IndexByte (s, (bt substr 0), ())).bind fun z2 =>
                  some (z2.1, ())) none)
            (
              cond (decide ((s.size : Int) ≤ (substr.size : Int))) (some ((-1 : Int), ())) none)))

def S.internal_stringslite_Index (x : ByteArray × ByteArray × Unit) : Option (Int × Unit) := L.internal_stringslite_Index x.1 x.2.1
theorem Index_mk (l : List UInt8) (c : UInt8) : S.internal_stringslite_Index (mk l, mk [c], ()) = some (idxL l c, ()) := by
  have e0 : ∀ s t : ByteArray, S.internal_stringslite_Index (s, t, ()) = cond (decide ((t.size : Int) = 0)) (some (0, ())) (cond (t.toList == s.toList) (some (0, ())) (cond (decide ((t.size : Int) = 1)) (cond (decide (0 < (t.size : Int))) ((S.internal_stringslite_IndexByte (s, (bt t 0), ())).bind fun z2 => some (z2.1, ())) none) (cond (decide ((s.size : Int) ≤ (t.size : Int))) (some ((-1 : Int), ())) none))) := fun _ _ => rfl
  have hs : ((mk [c]).size : Int) = 1 := rfl
  rw [e0, cf (by rw [hs]; decide), mk_beq]
  by_cases h : [c] = l
  · rw [ct h, ← h]; simp [idxL]
  · rw [cf h, ct hs, ct (by rw [hs]; decide)]
    simp only [S.internal_stringslite_IndexByte, Option.bind_some]
    have hb : (bt (mk [c]) 0).toNat.toUInt8 = c := by
      rw [mk_bt]; simp
    rw [hb]
    rfl
/-- internal/stringslite.Cut -/
def internal_stringslite_Cut (s : ByteArray) (sep : ByteArray) : Option (ByteArray × ByteArray × Bool × Unit) :=
  (S.internal_stringslite_Index (s, sep, ())).bind fun z1 =>
  cond (decide (0 ≤ z1.1))
    (
      cond (decide (0 ≤ z1.1))
        (
          cond (decide (z1.1 ≤ (s.size : Int)))
            (
              let z3 := IntKind.i64.wrap (z1.1 + (sep.size : Int))
              cond (decide (0 ≤ z3))
                (
                  cond (decide (z3 ≤ (s.size : Int))) (some ((s.extract 0 z1.1.toNat), (s.extract z3.toNat ((s.size : Int).toNat)), true, ())) none) none) none) none) (some (s, (⟨#[]⟩ : ByteArray), false, ()))

def S.internal_stringslite_Cut (x : ByteArray × ByteArray × Unit) : Option (ByteArray × ByteArray × Bool × Unit) := L.internal_stringslite_Cut x.1 x.2.1
/-- strings.Cut -/
def strings_Cut (s : ByteArray) (sep : ByteArray) : Option (ByteArray × ByteArray × Bool × Unit) :=
  (S.internal_stringslite_Cut (s, sep, ())).bind fun z1 =>
  some (z1.1, z1.2.1, z1.2.2.1, ())

def S.strings_Cut (x : ByteArray × ByteArray × Unit) : Option (ByteArray × ByteArray × Bool × Unit) := L.strings_Cut x.1 x.2.1
/-- strings.Index -/
def strings_Index (s : ByteArray) (substr : ByteArray) : Option (Int × Unit) :=
  (S.internal_stringslite_Index (s, substr, ())).bind fun z1 =>
  some (z1.1, ())

def S.strings_Index (x : ByteArray × ByteArray × Unit) : Option (Int × Unit) := L.strings_Index x.1 x.2.1
/-- strings.Contains -/
def strings_Contains (s : ByteArray) (substr : ByteArray) : Option (Bool × Unit) :=
  (S.strings_Index (s, substr, ())).bind fun z1 =>
  some (decide (0 ≤ z1.1), ())

def S.strings_Contains (x : ByteArray × ByteArray × Unit) : Option (Bool × Unit) := L.strings_Contains x.1 x.2.1
theorem Cut_form (s t : ByteArray) : S.strings_Cut (s, t, ()) = ((S.internal_stringslite_Index (s, t, ())).bind fun z1 => cond (decide (0 ≤ z1.1)) (cond (decide (0 ≤ z1.1)) (cond (decide (z1.1 ≤ (s.size : Int))) (cond (decide (0 ≤ IntKind.i64.wrap (z1.1 + (t.size : Int)))) (cond (decide (IntKind.i64.wrap (z1.1 + (t.size : Int)) ≤ (s.size : Int))) (some (s.extract 0 z1.1.toNat, s.extract (IntKind.i64.wrap (z1.1 + (t.size : Int))).toNat ((s.size : Int).toNat), true, ())) none) none) none) none) (some (s, (⟨#[]⟩ : ByteArray), false, ()))).bind fun z1 => some (z1.1, z1.2.1, z1.2.2.1, ()) := rfl
theorem Cut_no {l : List UInt8} {c : UInt8} (h : c ∉ l) : S.strings_Cut (mk l, mk [c], ()) = some (mk l, mk [], false, ()) := by
  rw [Cut_form, Index_mk, idxL_none h, Option.bind_some, cf (by decide)]
  rfl
theorem Cut_yes {a b : List UInt8} {c : UInt8} (h : c ∉ a) (hl : a.length + b.length < 4611686018427387904) : S.strings_Cut (mk (a ++ c :: b), mk [c], ()) = some (mk a, mk b, true, ()) := by
  have hs : (mk (a ++ c :: b)).size = a.length + (b.length + 1) := by rw [mk_size]; simp
  have ht : ((mk [c]).size : Int) = 1 := rfl
  rw [Cut_form, Index_mk, idxL_app h, Option.bind_some]
  simp only
  rw [ct (by omega), ct (by omega), ct (by omega), ht, wi64 (by omega) (by omega), ct (by omega), ct (by omega)]
  simp only [Option.bind_some, mk_extract]
  congr 2
  · congr 1
    rw [Int.toNat_natCast, List.drop_zero, List.take_left]
  · congr 1
    congr 1
    rw [show ((a.length : Int) + 1).toNat = a.length + 1 by omega, Int.toNat_natCast, mk_size, List.take_length, List.drop_append]
    simp
/-- ratio.Parse -/
def ratio_Parse (s : ByteArray) : Option (((Bool × (List Int) × Unit) × (List Int) × Unit) × Int × Unit) :=
  (S.strings_Cut (s, (⟨#[47]⟩ : ByteArray), ())).bind fun z1 =>
  cond (z1.2.2.1)
    (
      (S.whole_Parse (z1.1, ())).bind fun z2 =>
      (S.digits_Parse (z1.2.1, ())).bind fun z3 =>
      (S.ratio_first ([z2.2.1, z3.2.1], ())).bind fun z4 =>
      cond (!(decide (z4.1 = 0)))
        (
          (S.ratio_Zero (())).bind fun z5 =>
          some (((z5.1.1.1, z5.1.1.2.1, ()), z5.1.2.1, ()), z4.1, ()))
        (
          (S.whole_Nat (z3.1, ())).bind fun z6 =>
          (S.ratio_Make ((z2.1.1, z2.1.2.1, ()), (z6.1.1, z6.1.2.1, ()), ())).bind fun z7 =>
          some (((z7.1.1.1, z7.1.1.2.1, ()), z7.1.2.1, ()), z7.2.1, ())))
    (
      (S.strings_Cut (s, (⟨#[46]⟩ : ByteArray), ())).bind fun z8 =>
      cond (!z8.2.2.1)
        (
          (S.whole_Parse (s, ())).bind fun z9 =>
          cond (!(decide (z9.2.1 = 0)))
            (
              (S.ratio_Zero (())).bind fun z10 =>
              some (((z10.1.1.1, z10.1.1.2.1, ()), z10.1.2.1, ()), z9.2.1, ()))
            (
              (S.ratio_Whole ((z9.1.1, z9.1.2.1, ()), ())).bind fun z11 =>
              some (((z11.1.1.1, z11.1.1.2.1, ()), z11.1.2.1, ()), 0, ())))
        (
          cond (decide (1000 < (z8.2.1.size : Int)))
            (
              (S.ratio_Zero (())).bind fun z12 =>
              some (((z12.1.1.1, z12.1.1.2.1, ()), z12.1.2.1, ()), 3, ()))
            (
              (S.whole_Parse (z8.1, ())).bind fun z13 =>
              (S.digits_Parse (z8.2.1, ())).bind fun z14 =>
              (S.ratio_first ([z13.2.1, z14.2.1], ())).bind fun z15 =>
              cond (!(decide (z15.1 = 0)))
                (
                  (S.ratio_Zero (())).bind fun z16 =>
                  some (((z16.1.1.1, z16.1.1.2.1, ()), z16.1.2.1, ()), z15.1, ()))
                (
                  cond (decide (z8.1.size + z8.2.1.size ≤ 9223372036854775807))
                    (
                      (S.whole_Parse ((z8.1 ++ z8.2.1), ())).bind fun z18 =>
                      cond (!(decide (z18.2.1 = 0)))
                        (
                          (S.ratio_Zero (())).bind fun z19 =>
                          some (((z19.1.1.1, z19.1.1.2.1, ()), z19.1.2.1, ()), z18.2.1, ()))
                        (
                          (S.digits_Ten ((z8.2.1.size : Int), ())).bind fun z20 =>
                          (S.whole_Nat (z20.1, ())).bind fun z21 =>
                          (S.ratio_Make ((z18.1.1, z18.1.2.1, ()), (z21.1.1, z21.1.2.1, ()), ())).bind fun z22 =>
                          some (((z22.1.1.1, z22.1.1.2.1, ()), z22.1.2.1, ()), z22.2.1, ()))) none))))

def S.ratio_Parse (x : ByteArray × Unit) : Option (RT × Int × Unit) := L.ratio_Parse x.1
/-- girdlelaw04.parts -/
def w04_parts  : Option (Bool × Unit) :=
  (S.ratio_Of (1, 2, ())).bind fun z1 =>
  (S.ratio_Of ((-2 : Int), 6, ())).bind fun z2 =>
  (S.ratio_Add (((z1.1.1.1, z1.1.1.2.1, ()), z1.1.2.1, ()), ((z2.1.1.1, z2.1.1.2.1, ()), z2.1.2.1, ()), ())).bind fun z3 =>
  (S.ratio_Sub (((z1.1.1.1, z1.1.1.2.1, ()), z1.1.2.1, ()), ((z2.1.1.1, z2.1.1.2.1, ()), z2.1.2.1, ()), ())).bind fun z4 =>
  (S.ratio_Mul (((z1.1.1.1, z1.1.1.2.1, ()), z1.1.2.1, ()), ((z2.1.1.1, z2.1.1.2.1, ()), z2.1.2.1, ()), ())).bind fun z5 =>
  (S.ratio_Div (((z1.1.1.1, z1.1.1.2.1, ()), z1.1.2.1, ()), ((z2.1.1.1, z2.1.1.2.1, ()), z2.1.2.1, ()), ())).bind fun z6 =>
  (S.ratio_Sum ([((z1.1.1.1, z1.1.1.2.1, ()), z1.1.2.1, ()), ((z1.1.1.1, z1.1.1.2.1, ()), z1.1.2.1, ()), ((z2.1.1.1, z2.1.1.2.1, ()), z2.1.2.1, ())], ())).bind fun z7 =>
  (S.ratio_Compare (((z1.1.1.1, z1.1.1.2.1, ()), z1.1.2.1, ()), ((z2.1.1.1, z2.1.1.2.1, ()), z2.1.2.1, ()), ())).bind fun z8 =>
  (S.ratio_Parse ((⟨#[45, 48, 46, 50, 53]⟩ : ByteArray), ())).bind fun z9 =>
  (S.ratio_Zero (())).bind fun z10 =>
  (S.ratio_Div (((z1.1.1.1, z1.1.1.2.1, ()), z1.1.2.1, ()), ((z10.1.1.1, z10.1.1.2.1, ()), z10.1.2.1, ()), ())).bind fun z11 =>
  cond (decide ((IntKind.i64.wrap ((IntKind.i64.wrap ((IntKind.i64.wrap ((IntKind.i64.wrap ((IntKind.i64.wrap ((IntKind.i64.wrap (z3.2.1 + z4.2.1)) + z5.2.1)) + z6.2.1)) + z7.2.1)) + z8.2.1)) + z9.2.1)) = 0))
    (
      cond (decide (z11.2.1 = 10))
        (
          (S.ratio_Text (((z3.1.1.1, z3.1.1.2.1, ()), z3.1.2.1, ()), ())).bind fun z18 =>
          cond ((z18.1.toList == (⟨#[49, 47, 54]⟩ : ByteArray).toList))
            (
              (S.ratio_Text (((z4.1.1.1, z4.1.1.2.1, ()), z4.1.2.1, ()), ())).bind fun z19 =>
              cond ((z19.1.toList == (⟨#[53, 47, 54]⟩ : ByteArray).toList))
                (
                  (S.ratio_Text (((z5.1.1.1, z5.1.1.2.1, ()), z5.1.2.1, ()), ())).bind fun z20 =>
                  cond ((z20.1.toList == (⟨#[45, 49, 47, 54]⟩ : ByteArray).toList))
                    (
                      (S.ratio_Text (((z6.1.1.1, z6.1.1.2.1, ()), z6.1.2.1, ()), ())).bind fun z21 =>
                      cond ((z21.1.toList == (⟨#[45, 51, 47, 50]⟩ : ByteArray).toList))
                        (
                          (S.ratio_Text (((z7.1.1.1, z7.1.1.2.1, ()), z7.1.2.1, ()), ())).bind fun z22 =>
                          cond ((z22.1.toList == (⟨#[50, 47, 51]⟩ : ByteArray).toList))
                            (
                              cond (decide (z8.1 = 1))
                                (
                                  (S.ratio_Text (((z9.1.1.1, z9.1.1.2.1, ()), z9.1.2.1, ()), ())).bind fun z23 =>
                                  cond ((z23.1.toList == (⟨#[45, 49, 47, 52]⟩ : ByteArray).toList))
                                    (
                                      (S.ratio_Sign (((z2.1.1.1, z2.1.1.2.1, ()), z2.1.2.1, ()), ())).bind fun z24 =>
                                      cond (decide (z24.1 = (-1 : Int)))
                                        (
                                          (S.ratio_Abs (((z2.1.1.1, z2.1.1.2.1, ()), z2.1.2.1, ()), ())).bind fun z25 =>
                                          (S.ratio_Text (((z25.1.1.1, z25.1.1.2.1, ()), z25.1.2.1, ()), ())).bind fun z26 =>
                                          cond ((z26.1.toList == (⟨#[49, 47, 51]⟩ : ByteArray).toList))
                                            (
                                              (S.ratio_Neg (((z1.1.1.1, z1.1.1.2.1, ()), z1.1.2.1, ()), ())).bind fun z27 =>
                                              (S.ratio_Text (((z27.1.1.1, z27.1.1.2.1, ()), z27.1.2.1, ()), ())).bind fun z28 =>
                                              cond ((z28.1.toList == (⟨#[45, 49, 47, 50]⟩ : ByteArray).toList))
                                                (
                                                  (S.ratio_Floor (((z6.1.1.1, z6.1.1.2.1, ()), z6.1.2.1, ()), ())).bind fun z29 =>
                                                  (S.whole_Text ((z29.1.1, z29.1.2.1, ()), ())).bind fun z30 =>
                                                  cond ((z30.1.toList == (⟨#[45, 50]⟩ : ByteArray).toList))
                                                    (
                                                      (S.ratio_Ceil (((z6.1.1.1, z6.1.1.2.1, ()), z6.1.2.1, ()), ())).bind fun z31 =>
                                                      (S.whole_Text ((z31.1.1, z31.1.2.1, ()), ())).bind fun z32 =>
                                                      cond ((z32.1.toList == (⟨#[45, 49]⟩ : ByteArray).toList))
                                                        (
                                                          (S.whole_Of (4, ())).bind fun z33 =>
                                                          (S.ratio_Whole ((z33.1.1, z33.1.2.1, ()), ())).bind fun z34 =>
                                                          (S.ratio_Text (((z34.1.1.1, z34.1.1.2.1, ()), z34.1.2.1, ()), ())).bind fun z35 =>
                                                          cond ((z35.1.toList == (⟨#[52]⟩ : ByteArray).toList))
                                                            (
                                                              (S.ratio_Check (((z1.1.1.1, z1.1.1.2.1, ()), z1.1.2.1, ()), ())).bind fun z36 =>
                                                              cond (decide (z36.1 = 0))
                                                                (
                                                                  (S.ratio_Check (((false, [], ()), [], ()), ())).bind fun z37 =>
                                                                  cond (decide (z37.1 = 2)) (some (true, ())) (some (false, ()))) (some (false, ()))) (some (false, ()))) (some (false, ()))) (some (false, ()))) (some (false, ()))) (some (false, ()))) (some (false, ()))) (some (false, ()))) (some (false, ()))) (some (false, ()))) (some (false, ()))) (some (false, ()))) (some (false, ()))) (some (false, ()))) (some (false, ()))) (some (false, ()))

def S.w04_parts (x : Unit) : Option (Bool × Unit) := L.w04_parts
theorem w04_parts_true : S.w04_parts () = some (true, ()) := by
  simp only [S.w04_parts, L.w04_parts, toList_eq]
  decide +kernel
theorem ratio_Check_R {q : Rat} (hq : big q 512) : S.ratio_Check (R q, ()) = some (0, ()) := by
  have e1 := whole_Check_I hq.1
  have e2 := Check_D hq.2
  have e3 := Gcd_D hq.1 hq.2
  have hg : Nat.gcd q.num.natAbs q.den = 1 := q.reduced
  rw [hg] at e3
  have e4 := Cmp_D (P_one 1000 (by decide)) (P_one 1000 (by decide))
  have hd := q.den_pos
  have e0 : ∀ a : RT, S.ratio_Check (a, ()) = (S.whole_Check (a.1, ())).bind fun z1 => cond (!(decide (z1.1 = 0))) (some (z1.1, ())) ((S.limbs_Check (a.2.1, ())).bind fun z2 => cond (!(decide (z2.1 = 0))) (some (z2.1, ())) (cond (decide ((a.2.1.length : Int) = 0)) (some (2, ())) ((S.digits_Gcd (a.1.2.1, a.2.1, ())).bind fun z3 => (S.limbs_Of (1, ())).bind fun z4 => (S.limbs_Compare (z3.1, z4.1, ())).bind fun z5 => cond (!(decide (z5.1 = 0))) (some (2, ())) (some (0, ()))))) := fun _ => rfl
  rw [e0, e1, Option.bind_some]
  simp only [decide_true, Bool.not_true, cond_false]
  rw [e2, Option.bind_some]
  simp only [decide_true, Bool.not_true, cond_false, D_len_zero]
  rw [cf (by omega), e3, Option.bind_some, Of_one, Option.bind_some]
  simp only
  rw [e4, Option.bind_some, sgn_self]
  rfl
/-- w04_fit: one round of loop 0. -/
def w04_fit_s0 (κ0 : (List ((Bool × (List Int) × Unit) × (List Int) × Unit)) → Int → Int → Option (Bool × Unit)) (t5 : List ((Bool × (List Int) × Unit) × (List Int) × Unit)) (t6 : Int) (t7 : Int) : Option (Bool × Unit) :=
  cond (decide (t7 < t6))
    (
      cond (decide (0 ≤ t7))
        (
          cond (decide (t7 < (t5.length : Int)))
            (
              let z1 := t5.getD t7.toNat ((false, ([], ())), ([], ()))
              cond (decide (20 < (z1.1.2.1.length : Int))) (some (false, ()))
                (
                  cond (decide (20 < (z1.2.1.length : Int))) (some (false, ()))
                    (
                      (S.ratio_Check (((z1.1.1, z1.1.2.1, ()), z1.2.1, ()), ())).bind fun z2 =>
                      cond (!(decide (z2.1 = 0))) (some (false, ())) (κ0 t5 t6 (IntKind.i64.wrap (t7 + 1)))))) none) none) (some (true, ()))

def w04_fit_l0 (K : Nat) : Nat → (List ((Bool × (List Int) × Unit) × (List Int) × Unit)) → Int → Int → Option (Bool × Unit)
  | 0, _, _, _ => none
  | n + 1, t5, t6, t7 => w04_fit_s0 (w04_fit_l0 K n) t5 t6 t7

/-- girdlelaw04.fit -/
def w04_fit_b (I0 : (List ((Bool × (List Int) × Unit) × (List Int) × Unit)) → Int → Int → Option (Bool × Unit)) (list : List ((Bool × (List Int) × Unit) × (List Int) × Unit)) : Option (Bool × Unit) :=
  I0 list (list.length : Int) 0

def w04_fit (K : Nat) (list : List ((Bool × (List Int) × Unit) × (List Int) × Unit)) : Option (Bool × Unit) := w04_fit_b (w04_fit_l0 K K) list

def S.w04_fit (x : List RT × Unit) : Option (Bool × Unit) := L.w04_fit 100 x.1
theorem w04_fit_in {l : List RT} (hl : l.length ≤ 16) (h : ∀ d ∈ l, inR d) : S.w04_fit (l, ()) = some (false, ()) ∨ (S.w04_fit (l, ()) = some (true, ()) ∧ ∀ i < l.length, ∃ q : Rat, l.getD i rt0 = R q ∧ big q 20) := by
  simp only [S.w04_fit, L.w04_fit, w04_fit_b]
  rcases loop_or l.length (fun _ => ()) (fun k _ i => w04_fit_l0 100 k l (l.length : Int) i) (fun r => r = some (false, ())) (fun i => ∃ q : Rat, l.getD i rt0 = R q ∧ big q 20) (fun k i hk hi => by
    simp only [w04_fit_l0, w04_fit_s0]
    rw [ct (by omega), ct (by omega), ct (by omega), Int.toNat_natCast]
    have hin := inR_get h hi
    generalize hx : l.getD i ((false, ([], ())), ([], ())) = x
    have hx' : l.getD i rt0 = x := hx
    rw [hx'] at hin
    by_cases h1 : 20 < x.1.2.1.length
    · right; rw [ct (by omega)]
    rw [cf (by omega)]
    by_cases h2 : 20 < x.2.1.length
    · right; rw [ct (by omega)]
    rw [cf (by omega)]
    rcases ratio_Check_in hin with ⟨c, c0, e⟩ | ⟨e, q, hq, hq2⟩
    · right; rw [show S.ratio_Check _ = _ from e, Option.bind_some]; simp only; rw [decide_eq_false c0]; rfl
    rw [show S.ratio_Check _ = _ from e, Option.bind_some]
    simp only [decide_true, Bool.not_true, cond_false]
    left; rw [wi1 (by omega)]; refine ⟨rfl, q, hq, ?_⟩
    subst hq
    exact big_len (m := 0) (by simp only at h1; omega) (by simp only at h2; omega)) 100 (by omega) with h | ⟨k, e, h⟩
  · exact .inl h
  · right
    refine ⟨?_, h⟩
    have e' : w04_fit_l0 100 100 l (l.length : Int) 0 = _ := e
    rw [e']
    simp only [w04_fit_l0, w04_fit_s0]
    rw [cf (by omega)]
theorem w04_fit1 {a : RT} (ha : inR a) : S.w04_fit ([a], ()) = some (false, ()) ∨ (S.w04_fit ([a], ()) = some (true, ()) ∧ ∃ q : Rat, a = R q ∧ big q 20) := by
  rcases w04_fit_in (l := [a]) (by simp) (fun l hl => by rcases List.mem_cons.1 hl with rfl | h; exact ha; cases h) with h | ⟨h, h2⟩
  · exact .inl h
  · exact .inr ⟨h, h2 0 (by simp)⟩
theorem w04_fit2 {a b : RT} (ha : inR a) (hb : inR b) : S.w04_fit ([a, b], ()) = some (false, ()) ∨ (S.w04_fit ([a, b], ()) = some (true, ()) ∧ (∃ q : Rat, a = R q ∧ big q 20) ∧ ∃ q : Rat, b = R q ∧ big q 20) := by
  rcases w04_fit_in (l := [a, b]) (by simp) (fun l hl => by
      rcases List.mem_cons.1 hl with rfl | h
      · exact ha
      · rcases List.mem_cons.1 h with rfl | h
        · exact hb
        · cases h) with h | ⟨h, h2⟩
  · exact .inl h
  · exact .inr ⟨h, h2 0 (by simp), h2 1 (by simp)⟩
theorem w04_fit3 {a b c : RT} (ha : inR a) (hb : inR b) (hc : inR c) : S.w04_fit ([a, b, c], ()) = some (false, ()) ∨ (S.w04_fit ([a, b, c], ()) = some (true, ()) ∧ (∃ q : Rat, a = R q ∧ big q 20) ∧ (∃ q : Rat, b = R q ∧ big q 20) ∧ ∃ q : Rat, c = R q ∧ big q 20) := by
  rcases w04_fit_in (l := [a, b, c]) (by simp) (fun l hl => by
      rcases List.mem_cons.1 hl with rfl | h
      · exact ha
      · rcases List.mem_cons.1 h with rfl | h
        · exact hb
        · rcases List.mem_cons.1 h with rfl | h
          · exact hc
          · cases h) with h | ⟨h, h2⟩
  · exact .inl h
  · exact .inr ⟨h, h2 0 (by simp), h2 1 (by simp), h2 2 (by simp)⟩
/-- girdlelaw04.same -/
def w04_same (a : (Bool × (List Int) × Unit) × (List Int) × Unit) (b : (Bool × (List Int) × Unit) × (List Int) × Unit) : Option (Bool × Unit) :=
  (S.whole_Same ((a.1.1, a.1.2.1, ()), (b.1.1, b.1.2.1, ()), ())).bind fun z1 =>
  cond (z1.1)
    (
      (S.limbs_Compare (a.2.1, b.2.1, ())).bind fun z2 =>
      some (decide (z2.1 = 0), ())) (some (false, ()))

def S.w04_same (x : RT × RT × Unit) : Option (Bool × Unit) := L.w04_same x.1 x.2.1
theorem w04_same_R {a b : Rat} {j k : Nat} (ha : big a j) (hb : big b k) (hj : j ≤ 1000) (hk : k ≤ 1000) : S.w04_same (R a, R b, ()) = some (decide (a = b), ()) := by
  have e1 := whole_Same_I (P1000 ha.1 hj) (P1000 hb.1 hk)
  have e2 := Cmp_D (P1000 ha.2 hj) (P1000 hb.2 hk)
  have e0 : ∀ a b : RT, S.w04_same (a, b, ()) = (S.whole_Same (a.1, b.1, ())).bind fun z1 => cond z1.1 ((S.limbs_Compare (a.2.1, b.2.1, ())).bind fun z2 => some (decide (z2.1 = 0), ())) (some (false, ())) := fun _ _ => rfl
  rw [e0, e1, Option.bind_some]
  by_cases h : a.num = b.num
  · simp only [decide_eq_true h, cond_true]
    rw [e2, Option.bind_some]
    congr 2
    apply decide_eq_decide.2
    constructor
    · intro h2
      have : a.den = b.den := by unfold sgn at h2; split at h2 <;> (try split at h2) <;> omega
      exact Rat.ext h this
    · intro h2; subst h2; exact sgn_self _
  · simp only [decide_eq_false h, cond_false]
    rw [decide_eq_false (fun e => h (by rw [e]))]
theorem same_true {a b : Rat} {j k : Nat} (ha : big a j) (hb : big b k) (hj : j ≤ 1000) (hk : k ≤ 1000) (h : a = b) : S.w04_same (R a, R b, ()) = some (true, ()) := by
  rw [w04_same_R ha hb hj hk, decide_eq_true h]
/-- girdlelaw04.RatioMakes -/
def w04_RatioMakes (n : Bool × (List Int) × Unit) (d : Bool × (List Int) × Unit) : Option (Bool × Unit) :=
  (S.w04_parts (())).bind fun z1 =>
  cond (!z1.1) (some (false, ()))
    (
      cond (decide (30 < (n.2.1.length : Int))) (some (true, ()))
        (
          cond (decide (30 < (d.2.1.length : Int))) (some (true, ()))
            (
              (S.whole_Check ((n.1, n.2.1, ()), ())).bind fun z2 =>
              cond (!(decide (z2.1 = 0))) (some (true, ()))
                (
                  (S.whole_Check ((d.1, d.2.1, ()), ())).bind fun z3 =>
                  cond (!(decide (z3.1 = 0))) (some (true, ()))
                    (
                      (S.ratio_Make ((n.1, n.2.1, ()), (d.1, d.2.1, ()), ())).bind fun z4 =>
                      (S.whole_Sign ((d.1, d.2.1, ()), ())).bind fun z5 =>
                      cond (decide (z5.1 = 0))
                        (
                          cond (decide (z4.2.1 = 10))
                            (
                              (S.ratio_Zero (())).bind fun z6 =>
                              (S.w04_same (((z4.1.1.1, z4.1.1.2.1, ()), z4.1.2.1, ()), ((z6.1.1.1, z6.1.1.2.1, ()), z6.1.2.1, ()), ())).bind fun z7 =>
                              some (z7.1, ())) (some (false, ())))
                        (
                          (S.whole_Mul ((z4.1.1.1, z4.1.1.2.1, ()), (d.1, d.2.1, ()), ())).bind fun z8 =>
                          (S.whole_Nat (z4.1.2.1, ())).bind fun z9 =>
                          (S.whole_Mul ((n.1, n.2.1, ()), (z9.1.1, z9.1.2.1, ()), ())).bind fun z10 =>
                          cond (decide (z4.2.1 = 0))
                            (
                              (S.ratio_Check (((z4.1.1.1, z4.1.1.2.1, ()), z4.1.2.1, ()), ())).bind fun z11 =>
                              cond (decide (z11.1 = 0))
                                (
                                  (S.whole_Same ((z8.1.1, z8.1.2.1, ()), (z10.1.1, z10.1.2.1, ()), ())).bind fun z12 =>
                                  some (z12.1, ())) (some (false, ()))) (some (false, ()))))))))

theorem RatioMakes_true {n d : Bool × List Int × Unit} (hn : inI n) (hd : inI d) : w04_RatioMakes n d = some (true, ()) := by
  unfold w04_RatioMakes
  rw [w04_parts_true, Option.bind_some]
  simp only [Bool.not_true, cond_false]
  by_cases h1 : 30 < n.2.1.length
  · rw [ct (by omega)]
  rw [cf (by omega)]
  by_cases h2 : 30 < d.2.1.length
  · rw [ct (by omega)]
  rw [cf (by omega)]
  obtain ⟨c, hc⟩ := whole_Check_some hn
  rw [show S.whole_Check _ = _ from hc, Option.bind_some]
  by_cases hcn : ¬ c = 0
  · simp only; rw [decide_eq_false hcn]; rfl
  have hc0 : c = 0 := Decidable.not_not.1 hcn
  subst hc0
  obtain ⟨x, rfl, _⟩ := whole_Check_in hn.2 hn.1 hc
  simp only [decide_true, Bool.not_true, cond_false]
  obtain ⟨c', hc'⟩ := whole_Check_some hd
  rw [show S.whole_Check _ = _ from hc', Option.bind_some]
  by_cases hcn' : ¬ c' = 0
  · simp only; rw [decide_eq_false hcn']; rfl
  have hc0' : c' = 0 := Decidable.not_not.1 hcn'
  subst hc0'
  obtain ⟨y, rfl, _⟩ := whole_Check_in hd.2 hd.1 hc'
  simp only [decide_true, Bool.not_true, cond_false]
  have hx : x.natAbs < P 30 := Nat.lt_of_lt_of_le (dlen_lt x.natAbs) (P_mono (by simp only at h1; omega))
  have hy : y.natAbs < P 30 := Nat.lt_of_lt_of_le (dlen_lt y.natAbs) (P_mono (by simp only at h2; omega))
  have s2 := sgn0 y
  by_cases hy0 : y = 0
  · subst hy0
    have e1 := Make_zero x
    have e2 := whole_Sign_I 0
    have b0 : big (0 : Rat) 1 := rat_int_big (z := 0) (k := 1) (P_pos 1) (by decide)
    rw [show S.ratio_Make _ = _ from e1, Option.bind_some, show S.whole_Sign _ = _ from e2, Option.bind_some, ct (by decide)]
    simp only [decide_true, cond_true]
    rw [ratio_Zero_R, Option.bind_some, show S.w04_same _ = _ from same_true b0 b0 (by decide) (by decide) rfl, Option.bind_some]
  · have e1 := Make_R (n := x) (d := y) (P40 hx (by decide)) (P40 hy (by decide)) hy0
    have b1 := big_frac hx hy hy0
    have e2 := whole_Sign_I y
    have e3 := whole_Mul_I b1.1 hy (by decide)
    have e4 := whole_Nat_D (P1000 b1.2 (by decide))
    have hdn : (((Rat.divInt x y).den : Int)).natAbs < P 30 := by rw [Int.natAbs_natCast]; exact b1.2
    have e5 := whole_Mul_I hx hdn (by decide)
    have e6 := ratio_Check_R (b1.mono (by decide))
    have e7 := whole_Same_I (P1000 (nA_mul b1.1 hy) (by decide)) (P1000 (nA_mul hx hdn) (by decide))
    have heq : (Rat.divInt x y).num * y = x * ((Rat.divInt x y).den : Int) := (Rat.divInt_eq_divInt_iff (den0 _) hy0).1 (divInt_self _)
    rw [decide_eq_true heq] at e7
    rw [show S.ratio_Make _ = _ from e1, Option.bind_some, show S.whole_Sign _ = _ from e2, Option.bind_some, cf (by simp only; omega), show S.whole_Mul _ = _ from e3, Option.bind_some]
    simp only
    rw [show S.whole_Nat _ = _ from e4, Option.bind_some, show S.whole_Mul _ = _ from e5, Option.bind_some]
    simp only [decide_true, cond_true]
    rw [show S.ratio_Check _ = _ from e6, Option.bind_some]
    simp only [decide_true, cond_true]
    rw [show S.whole_Same _ = _ from e7, Option.bind_some]
theorem RDiv_zero {a : Rat} {j : Nat} (ha : big a j) (h : j + 1 ≤ 512) : S.ratio_Div (R a, R 0, ()) = some (R 0, 10, ()) := by
  have b0 : big (0 : Rat) 1 := rat_int_big (z := 0) (k := 1) (P_pos 1) (by decide)
  have d0 : (((0 : Rat).den : Int)).natAbs < P 1 := by rw [Int.natAbs_natCast]; exact b0.2
  have da : ((a.den : Int)).natAbs < P j := by rw [Int.natAbs_natCast]; exact ha.2
  have e1 := ratio_den_R (P1000 ha.2 (by omega))
  have e2 := ratio_den_R (q := 0) (P1000 b0.2 (by omega))
  have e3 := whole_Mul_I ha.1 d0 h
  have e4 := whole_Mul_I da b0.1 h
  have hz : ((a.den : Int)) * (0 : Rat).num = 0 := by show (a.den : Int) * 0 = 0; omega
  rw [hz] at e4
  have e5 := Make_zero (a.num * ((0 : Rat).den : Int))
  have e0 : ∀ a b : RT, S.ratio_Div (a, b, ()) = (S.ratio_den (b, ())).bind fun z1 => (S.whole_Mul (a.1, z1.1, ())).bind fun z2 => (S.ratio_den (a, ())).bind fun z3 => (S.whole_Mul (z3.1, b.1, ())).bind fun z4 => (S.ratio_first ([z2.2.1, z4.2.1], ())).bind fun z5 => cond (!(decide (z5.1 = 0))) ((S.ratio_Zero (())).bind fun z6 => some (z6.1, z5.1, ())) ((S.ratio_Make (z2.1, z4.1, ())).bind fun z7 => some z7) := fun _ _ => rfl
  rw [e0, e2, Option.bind_some, e3, Option.bind_some, e1, Option.bind_some]
  simp only
  rw [e4, Option.bind_some]
  simp only [first2, Option.bind_some, decide_true, Bool.not_true, cond_false]
  rw [e5, Option.bind_some]
/-- girdlelaw04.RatioField -/
def w04_RatioField (a : (Bool × (List Int) × Unit) × (List Int) × Unit) (b : (Bool × (List Int) × Unit) × (List Int) × Unit) (c : (Bool × (List Int) × Unit) × (List Int) × Unit) : Option (Bool × Unit) :=
  (S.w04_parts (())).bind fun z1 =>
  cond (!z1.1) (some (false, ()))
    (
      (S.w04_fit ([((a.1.1, a.1.2.1, ()), a.2.1, ()), ((b.1.1, b.1.2.1, ()), b.2.1, ()), ((c.1.1, c.1.2.1, ()), c.2.1, ())], ())).bind fun z2 =>
      cond (!z2.1) (some (true, ()))
        (
          (S.ratio_Add (((a.1.1, a.1.2.1, ()), a.2.1, ()), ((b.1.1, b.1.2.1, ()), b.2.1, ()), ())).bind fun z3 =>
          (S.ratio_Add (((b.1.1, b.1.2.1, ()), b.2.1, ()), ((a.1.1, a.1.2.1, ()), a.2.1, ()), ())).bind fun z4 =>
          (S.ratio_Add (((z3.1.1.1, z3.1.1.2.1, ()), z3.1.2.1, ()), ((c.1.1, c.1.2.1, ()), c.2.1, ()), ())).bind fun z5 =>
          (S.ratio_Add (((b.1.1, b.1.2.1, ()), b.2.1, ()), ((c.1.1, c.1.2.1, ()), c.2.1, ()), ())).bind fun z6 =>
          (S.ratio_Add (((a.1.1, a.1.2.1, ()), a.2.1, ()), ((z6.1.1.1, z6.1.1.2.1, ()), z6.1.2.1, ()), ())).bind fun z7 =>
          (S.ratio_Sub (((z3.1.1.1, z3.1.1.2.1, ()), z3.1.2.1, ()), ((b.1.1, b.1.2.1, ()), b.2.1, ()), ())).bind fun z8 =>
          (S.ratio_Mul (((a.1.1, a.1.2.1, ()), a.2.1, ()), ((b.1.1, b.1.2.1, ()), b.2.1, ()), ())).bind fun z9 =>
          (S.ratio_Mul (((b.1.1, b.1.2.1, ()), b.2.1, ()), ((a.1.1, a.1.2.1, ()), a.2.1, ()), ())).bind fun z10 =>
          (S.ratio_Mul (((a.1.1, a.1.2.1, ()), a.2.1, ()), ((c.1.1, c.1.2.1, ()), c.2.1, ()), ())).bind fun z11 =>
          (S.ratio_Add (((z9.1.1.1, z9.1.1.2.1, ()), z9.1.2.1, ()), ((z11.1.1.1, z11.1.1.2.1, ()), z11.1.2.1, ()), ())).bind fun z12 =>
          (S.ratio_Mul (((a.1.1, a.1.2.1, ()), a.2.1, ()), ((z6.1.1.1, z6.1.1.2.1, ()), z6.1.2.1, ()), ())).bind fun z13 =>
          (S.ratio_Sum ([((c.1.1, c.1.2.1, ()), c.2.1, ()), ((b.1.1, b.1.2.1, ()), b.2.1, ()), ((a.1.1, a.1.2.1, ()), a.2.1, ())], ())).bind fun z14 =>
          cond (!(decide (z3.2.1 = 0))) (some (false, ()))
            (
              cond (!(decide (z9.2.1 = 0))) (some (false, ()))
                (
                  cond (!(decide (z14.2.1 = 0))) (some (false, ()))
                    (
                      (S.w04_same (((z3.1.1.1, z3.1.1.2.1, ()), z3.1.2.1, ()), ((z4.1.1.1, z4.1.1.2.1, ()), z4.1.2.1, ()), ())).bind fun z15 =>
                      cond (!z15.1) (some (false, ()))
                        (
                          (S.w04_same (((z5.1.1.1, z5.1.1.2.1, ()), z5.1.2.1, ()), ((z7.1.1.1, z7.1.1.2.1, ()), z7.1.2.1, ()), ())).bind fun z16 =>
                          cond (!z16.1) (some (false, ()))
                            (
                              (S.w04_same (((z8.1.1.1, z8.1.1.2.1, ()), z8.1.2.1, ()), ((a.1.1, a.1.2.1, ()), a.2.1, ()), ())).bind fun z17 =>
                              cond (!z17.1) (some (false, ()))
                                (
                                  (S.w04_same (((z9.1.1.1, z9.1.1.2.1, ()), z9.1.2.1, ()), ((z10.1.1.1, z10.1.1.2.1, ()), z10.1.2.1, ()), ())).bind fun z18 =>
                                  cond (!z18.1) (some (false, ()))
                                    (
                                      (S.w04_same (((z12.1.1.1, z12.1.1.2.1, ()), z12.1.2.1, ()), ((z13.1.1.1, z13.1.1.2.1, ()), z13.1.2.1, ()), ())).bind fun z19 =>
                                      cond (!z19.1) (some (false, ()))
                                        (
                                          (S.w04_same (((z14.1.1.1, z14.1.1.2.1, ()), z14.1.2.1, ()), ((z5.1.1.1, z5.1.1.2.1, ()), z5.1.2.1, ()), ())).bind fun z20 =>
                                          cond (!z20.1) (some (false, ()))
                                            (
                                              (S.ratio_Check (((z5.1.1.1, z5.1.1.2.1, ()), z5.1.2.1, ()), ())).bind fun z21 =>
                                              cond (!(decide (z21.1 = 0))) (some (false, ()))
                                                (
                                                  (S.ratio_Check (((z9.1.1.1, z9.1.1.2.1, ()), z9.1.2.1, ()), ())).bind fun z22 =>
                                                  cond (!(decide (z22.1 = 0))) (some (false, ()))
                                                    (
                                                      (S.ratio_Div (((z9.1.1.1, z9.1.1.2.1, ()), z9.1.2.1, ()), ((b.1.1, b.1.2.1, ()), b.2.1, ()), ())).bind fun z23 =>
                                                      (S.ratio_Sign (((b.1.1, b.1.2.1, ()), b.2.1, ()), ())).bind fun z24 =>
                                                      cond (decide (z24.1 = 0)) (some (decide (z23.2.1 = 10), ()))
                                                        (
                                                          cond (decide (z23.2.1 = 0))
                                                            (
                                                              (S.w04_same (((z23.1.1.1, z23.1.1.2.1, ()), z23.1.2.1, ()), ((a.1.1, a.1.2.1, ()), a.2.1, ()), ())).bind fun z25 =>
                                                              some (z25.1, ())) (some (false, ()))))))))))))))))

theorem RatioField_true {a b c : RT} (ha : inR a) (hb : inR b) (hc : inR c) : w04_RatioField a b c = some (true, ()) := by
  unfold w04_RatioField
  rw [w04_parts_true, Option.bind_some]
  simp only [Bool.not_true, cond_false]
  rcases w04_fit3 ha hb hc with e | ⟨e, ⟨p, rfl, hp⟩, ⟨q, rfl, hq⟩, r, rfl, hr⟩
  · rw [show S.w04_fit _ = _ from e]; rfl
  rw [show S.w04_fit _ = _ from e, Option.bind_some]
  simp only [Bool.not_true, cond_false]
  have e1 := ratio_Add_R hp hq (by decide)
  have b1 := big_add hp hq
  have e2 := ratio_Add_R hq hp (by decide)
  have b2 := big_add hq hp
  have e3 := ratio_Add_R b1 hr (by decide)
  have b3 := big_add b1 hr
  have e4 := ratio_Add_R hq hr (by decide)
  have b4 := big_add hq hr
  have e5 := ratio_Add_R hp b4 (by decide)
  have b5 := big_add hp b4
  have e6 := ratio_Sub_R b1 hq (by decide)
  have b6 := big_sub b1 hq
  have e7 := ratio_Mul_R hp hq (by decide)
  have b7 := big_mul hp hq
  have e8 := ratio_Mul_R hq hp (by decide)
  have b8 := big_mul hq hp
  have e9 := ratio_Mul_R hp hr (by decide)
  have b9 := big_mul hp hr
  have e10 := ratio_Add_R b7 b9 (by decide)
  have b10 := big_add b7 b9
  have e11 := ratio_Mul_R hp b4 (by decide)
  have b11 := big_mul hp b4
  have g : ∀ i < 3, big ((fun i => if i = 0 then r else if i = 1 then q else p) i) 20 := fun i hi => by
    simp only; split
    · exact hr
    · split
      · exact hq
      · exact hp
  have b0 : big (0 : Rat) 20 := rat_int_big (z := 0) (k := 20) (P_pos 20) (by decide)
  have hsum : ∀ i ≤ 3, big (sumQ (fun i => if i = 0 then r else if i = 1 then q else p) i) (20 + 21 * i) := fun i hi => by
    induction i with
    | zero => exact b0
    | succ i ih => exact (big_add (ih (by omega)) (g i (by omega))).mono (by omega)
  have e12 := ratio_Sum_R (n := 3) (j := 20) (k := 62) (by decide) g (fun i hi => (hsum i (by omega)).mono (by omega)) (by decide)
  have e12 : S.ratio_Sum ([R r, R q, R p], ()) = some (R (sumQ (fun i => if i = 0 then r else if i = 1 then q else p) 3), 0, ()) := e12
  have hs3 : sumQ (fun i => if i = 0 then r else if i = 1 then q else p) 3 = 0 + r + q + p := rfl
  have b12 : big (sumQ (fun i => if i = 0 then r else if i = 1 then q else p) 3) 83 := hsum 3 (by decide)
  have s1 := same_true b1 b2 (by decide) (by decide) (Rat.add_comm p q)
  have s2 := same_true b3 b5 (by decide) (by decide) (Rat.add_assoc p q r)
  have s3 := same_true b6 hp (by decide) (by decide) (by grind)
  have s4 := same_true b7 b8 (by decide) (by decide) (Rat.mul_comm p q)
  have s5 := same_true b10 b11 (by decide) (by decide) (by grind)
  have s6 := same_true b12 b3 (by decide) (by decide) (by rw [hs3]; grind)
  have k1 := ratio_Check_R (b3.mono (by decide))
  have k2 := ratio_Check_R (b7.mono (by decide))
  have sg := ratio_Sign_R q
  have s0 := sgn0 q.num
  rw [show S.ratio_Add _ = _ from e1, Option.bind_some, show S.ratio_Add _ = _ from e2, Option.bind_some, show S.ratio_Add _ = _ from e3, Option.bind_some, show S.ratio_Add _ = _ from e4, Option.bind_some, show S.ratio_Add _ = _ from e5, Option.bind_some, show S.ratio_Sub _ = _ from e6, Option.bind_some, show S.ratio_Mul _ = _ from e7, Option.bind_some, show S.ratio_Mul _ = _ from e8, Option.bind_some, show S.ratio_Mul _ = _ from e9, Option.bind_some, show S.ratio_Add _ = _ from e10, Option.bind_some, show S.ratio_Mul _ = _ from e11, Option.bind_some, show S.ratio_Sum _ = _ from e12, Option.bind_some]
  simp only [decide_true, Bool.not_true, cond_false]
  rw [show S.w04_same _ = _ from s1, Option.bind_some]
  simp only [Bool.not_true, cond_false]
  rw [show S.w04_same _ = _ from s2, Option.bind_some]
  simp only [Bool.not_true, cond_false]
  rw [show S.w04_same _ = _ from s3, Option.bind_some]
  simp only [Bool.not_true, cond_false]
  rw [show S.w04_same _ = _ from s4, Option.bind_some]
  simp only [Bool.not_true, cond_false]
  rw [show S.w04_same _ = _ from s5, Option.bind_some]
  simp only [Bool.not_true, cond_false]
  rw [show S.w04_same _ = _ from s6, Option.bind_some]
  simp only [Bool.not_true, cond_false]
  rw [show S.ratio_Check _ = _ from k1, Option.bind_some]
  simp only [decide_true, Bool.not_true, cond_false]
  rw [show S.ratio_Check _ = _ from k2, Option.bind_some]
  simp only [decide_true, Bool.not_true, cond_false]
  by_cases hq0 : q = 0
  · subst hq0
    have d1 := RDiv_zero b7 (by decide)
    rw [show S.ratio_Div _ = _ from d1, Option.bind_some, show S.ratio_Sign _ = _ from sg, Option.bind_some, ct (by rfl)]
    rfl
  · have d1 := ratio_Div_R b7 hq (by decide) hq0
    have b13 := big_div b7 hq hq0
    have s7 := same_true b13 hp (by decide) (by decide) (by grind)
    have hn := num0 hq0
    rw [show S.ratio_Div _ = _ from d1, Option.bind_some, show S.ratio_Sign _ = _ from sg, Option.bind_some, cf (by simp only; omega)]
    simp only [decide_true, cond_true]
    rw [show S.w04_same _ = _ from s7, Option.bind_some]
/-- girdlelaw04.RatioOrders -/
def w04_RatioOrders (a : (Bool × (List Int) × Unit) × (List Int) × Unit) (b : (Bool × (List Int) × Unit) × (List Int) × Unit) : Option (Bool × Unit) :=
  (S.w04_parts (())).bind fun z1 =>
  cond (!z1.1) (some (false, ()))
    (
      (S.w04_fit ([((a.1.1, a.1.2.1, ()), a.2.1, ()), ((b.1.1, b.1.2.1, ()), b.2.1, ())], ())).bind fun z2 =>
      cond (!z2.1) (some (true, ()))
        (
          (S.ratio_Compare (((a.1.1, a.1.2.1, ()), a.2.1, ()), ((b.1.1, b.1.2.1, ()), b.2.1, ()), ())).bind fun z3 =>
          (S.ratio_Sub (((a.1.1, a.1.2.1, ()), a.2.1, ()), ((b.1.1, b.1.2.1, ()), b.2.1, ()), ())).bind fun z4 =>
          (S.ratio_Neg (((b.1.1, b.1.2.1, ()), b.2.1, ()), ())).bind fun z5 =>
          (S.ratio_Neg (((a.1.1, a.1.2.1, ()), a.2.1, ()), ())).bind fun z6 =>
          (S.ratio_Compare (((z5.1.1.1, z5.1.1.2.1, ()), z5.1.2.1, ()), ((z6.1.1.1, z6.1.1.2.1, ()), z6.1.2.1, ()), ())).bind fun z7 =>
          cond (decide (z3.2.1 = 0))
            (
              cond (decide (z4.2.1 = 0))
                (
                  cond (decide (z7.2.1 = 0))
                    (
                      (S.ratio_Sign (((z4.1.1.1, z4.1.1.2.1, ()), z4.1.2.1, ()), ())).bind fun z8 =>
                      cond (decide (z3.1 = z8.1))
                        (
                          cond (decide (z3.1 = z7.1))
                            (
                              (S.w04_same (((a.1.1, a.1.2.1, ()), a.2.1, ()), ((b.1.1, b.1.2.1, ()), b.2.1, ()), ())).bind fun z9 =>
                              cond ((decide (z3.1 = 0) == z9.1))
                                (
                                  (S.ratio_Abs (((a.1.1, a.1.2.1, ()), a.2.1, ()), ())).bind fun z10 =>
                                  (S.ratio_Sign (((z10.1.1.1, z10.1.1.2.1, ()), z10.1.2.1, ()), ())).bind fun z11 =>
                                  some (decide (0 ≤ z11.1), ())) (some (false, ()))) (some (false, ()))) (some (false, ()))) (some (false, ()))) (some (false, ()))) (some (false, ()))))

theorem sgq_sign (a b : Rat) : sgn (a - b).num 0 = sgq a b := by
  have a1 : (a - b).num < 0 ↔ a - b < 0 := by rw [Rat.lt_iff]; simp
  have a2 : 0 < (a - b).num ↔ 0 < a - b := by rw [Rat.lt_iff]; simp
  unfold sgn sgq
  by_cases h : a < b
  · rw [if_pos h, if_pos (a1.2 (by grind))]
  · rw [if_neg h, if_neg (fun h' => h (by have := a1.1 h'; grind))]
    by_cases h' : b < a
    · rw [if_pos h', if_pos (a2.2 (by grind))]
    · rw [if_neg h', if_neg (fun h'' => h' (by have := a2.1 h''; grind))]
theorem sgq_negs (a b : Rat) : sgq (-b) (-a) = sgq a b := by
  unfold sgq
  by_cases h : a < b
  · rw [if_pos h, if_pos (by grind)]
  · rw [if_neg h, if_neg (by grind)]
    by_cases h' : b < a
    · rw [if_pos h', if_pos (by grind)]
    · rw [if_neg h', if_neg (by grind)]
theorem RatioOrders_true {a b : RT} (ha : inR a) (hb : inR b) : w04_RatioOrders a b = some (true, ()) := by
  unfold w04_RatioOrders
  rw [w04_parts_true, Option.bind_some]
  simp only [Bool.not_true, cond_false]
  rcases w04_fit2 ha hb with e | ⟨e, ⟨p, rfl, hp⟩, q, rfl, hq⟩
  · rw [show S.w04_fit _ = _ from e]; rfl
  rw [show S.w04_fit _ = _ from e, Option.bind_some]
  simp only [Bool.not_true, cond_false]
  have e1 := ratio_Compare_R hp hq (by decide)
  have e2 := ratio_Sub_R hp hq (by decide)
  have e3 := ratio_Neg_R hq (by decide)
  have e4 := ratio_Neg_R hp (by decide)
  have e5 := ratio_Compare_R (big_neg hq) (big_neg hp) (by decide)
  rw [sgq_negs] at e5
  have e6 := ratio_Sign_R (p - q)
  rw [sgq_sign] at e6
  have e7 := w04_same_R hp hq (by decide) (by decide)
  have e8 := ratio_Abs_R hp (by decide)
  have e9 := ratio_Sign_R (qabs p)
  rw [show S.ratio_Compare _ = _ from e1, Option.bind_some, show S.ratio_Sub _ = _ from e2, Option.bind_some, show S.ratio_Neg _ = _ from e3, Option.bind_some, show S.ratio_Neg _ = _ from e4, Option.bind_some, show S.ratio_Compare _ = _ from e5, Option.bind_some]
  simp only [decide_true, cond_true]
  rw [show S.ratio_Sign _ = _ from e6, Option.bind_some]
  simp only [decide_true, cond_true]
  rw [show S.w04_same _ = _ from e7, Option.bind_some]
  have hb : (decide (sgq p q = 0) == decide (p = q)) = true := by
    have : decide (sgq p q = 0) = decide (p = q) := decide_eq_decide.2 sgq_zero
    rw [this]; simp
  simp only [hb, cond_true]
  rw [show S.ratio_Abs _ = _ from e8, Option.bind_some, show S.ratio_Sign _ = _ from e9, Option.bind_some]
  have hn := (qabs_num p).1
  have s0 := sgn0 (qabs p).num
  rw [decide_eq_true (by simp only; omega)]
/-- girdlelaw04.RatioRounds -/
def w04_RatioRounds (a : (Bool × (List Int) × Unit) × (List Int) × Unit) : Option (Bool × Unit) :=
  (S.w04_parts (())).bind fun z1 =>
  cond (!z1.1) (some (false, ()))
    (
      (S.w04_fit ([((a.1.1, a.1.2.1, ()), a.2.1, ())], ())).bind fun z2 =>
      cond (!z2.1) (some (true, ()))
        (
          (S.ratio_Floor (((a.1.1, a.1.2.1, ()), a.2.1, ()), ())).bind fun z3 =>
          (S.ratio_Ceil (((a.1.1, a.1.2.1, ()), a.2.1, ()), ())).bind fun z4 =>
          (S.ratio_Whole ((z3.1.1, z3.1.2.1, ()), ())).bind fun z5 =>
          (S.ratio_Compare (((z5.1.1.1, z5.1.1.2.1, ()), z5.1.2.1, ()), ((a.1.1, a.1.2.1, ()), a.2.1, ()), ())).bind fun z6 =>
          (S.ratio_Whole ((z4.1.1, z4.1.2.1, ()), ())).bind fun z7 =>
          (S.ratio_Compare (((a.1.1, a.1.2.1, ()), a.2.1, ()), ((z7.1.1.1, z7.1.1.2.1, ()), z7.1.2.1, ()), ())).bind fun z8 =>
          (S.whole_Sub ((z4.1.1, z4.1.2.1, ()), (z3.1.1, z3.1.2.1, ()), ())).bind fun z9 =>
          (S.limbs_Of (1, ())).bind fun z10 =>
          (S.limbs_Compare (a.2.1, z10.1, ())).bind fun z11 =>
          cond (decide (z11.1 = 0))
            (
              cond (decide (z6.1 = 0))
                (
                  cond (decide (z8.1 = 0))
                    (
                      (S.whole_Same ((z3.1.1, z3.1.2.1, ()), (a.1.1, a.1.2.1, ()), ())).bind fun z12 =>
                      some (z12.1, ())) (some (false, ()))) (some (false, ())))
            (
              cond (decide (z6.1 = (-1 : Int)))
                (
                  cond (decide (z8.1 = (-1 : Int)))
                    (
                      (S.whole_Of (1, ())).bind fun z13 =>
                      (S.whole_Same ((z9.1.1, z9.1.2.1, ()), (z13.1.1, z13.1.2.1, ()), ())).bind fun z14 =>
                      some (z14.1, ())) (some (false, ()))) (some (false, ())))))

theorem RatioRounds_true {a : RT} (ha : inR a) : w04_RatioRounds a = some (true, ()) := by
  unfold w04_RatioRounds
  rw [w04_parts_true, Option.bind_some]
  simp only [Bool.not_true, cond_false]
  rcases w04_fit1 ha with e | ⟨e, q, rfl, hq⟩
  · rw [show S.w04_fit _ = _ from e]; rfl
  rw [show S.w04_fit _ = _ from e, Option.bind_some]
  simp only [Bool.not_true, cond_false]
  have e1 := ratio_Floor_R hq (by decide)
  have e2 := ratio_Ceil_R hq (by decide)
  have hf : q.floor.natAbs < P 20 := Nat.lt_of_le_of_lt floor_abs hq.1
  have hc : q.ceil.natAbs < P 20 := by
    rw [Rat.ceil_eq_neg_floor_neg, Int.natAbs_neg]
    exact Nat.lt_of_le_of_lt floor_abs (big_neg hq).1
  have e3 := ratio_Whole_R (P1000 hf (by decide))
  have e4 := ratio_Whole_R (P1000 hc (by decide))
  have bf := rat_int_big hf (by decide)
  have bc := rat_int_big hc (by decide)
  have e5 := ratio_Compare_R bf hq (by decide)
  have e6 := ratio_Compare_R hq bc (by decide)
  have e7 := whole_Sub_I hc hf (by decide)
  have e8 := Cmp_D (P1000 hq.2 (by decide)) (P_one 1000 (by decide))
  rw [show S.ratio_Floor _ = _ from e1, Option.bind_some, show S.ratio_Ceil _ = _ from e2, Option.bind_some, show S.ratio_Whole _ = _ from e3, Option.bind_some, show S.ratio_Compare _ = _ from e5, Option.bind_some, show S.ratio_Whole _ = _ from e4, Option.bind_some, show S.ratio_Compare _ = _ from e6, Option.bind_some, show S.whole_Sub _ = _ from e7, Option.bind_some, Of_one, Option.bind_some]
  simp only
  rw [e8, Option.bind_some]
  simp only
  have hfl := Rat.floor_le q
  have hfl2 := Rat.lt_floor_add_one q
  have hcl : q ≤ ((q.ceil : Int) : Rat) := by
    rw [Rat.ceil_eq_neg_floor_neg, Rat.intCast_neg]
    have := Rat.floor_le (-q)
    grind
  have hcl2 : ((q.ceil : Int) : Rat) < q + 1 := by
    rw [Rat.ceil_eq_neg_floor_neg, Rat.intCast_neg]
    have := Rat.lt_floor_add_one (-q)
    rw [Rat.intCast_add, Rat.intCast_one] at this
    grind
  by_cases hd : q.den = 1
  · rw [ct (sgn_one.2 hd)]
    have hqn : q = (q.num : Rat) := by
      have := divInt_self q
      rw [hd, Rat.divInt_eq_div] at this
      rw [← this]
      simp
      have h1 : ((q.num : Rat) / 1).num = q.num := by
        have h2 : ((q.num : Rat) / 1) = (q.num : Rat) := by rw [Rat.div_def, show (1 : Rat)⁻¹ = 1 by decide +kernel, Rat.mul_one]
        rw [h2, Rat.num_intCast]
      rw [Rat.div_def, show (1 : Rat)⁻¹ = 1 by decide +kernel, Rat.mul_one, Rat.num_intCast]
    have f1 : q.floor = q.num := by
      have := Rat.floor_intCast q.num
      rwa [← hqn] at this
    have c1 : q.ceil = q.num := by
      have h1 : q.num ≤ q.ceil := Rat.intCast_le_intCast.1 (by rw [← hqn]; exact hcl)
      have h2 : q.ceil < q.num + 1 := Rat.intCast_lt_intCast.1 (by rw [Rat.intCast_add, ← hqn]; exact hcl2)
      omega
    rw [f1, c1, ← hqn]
    have hz : sgq q q = 0 := sgq_zero.2 rfl
    rw [hz]
    simp only [decide_true, cond_true]
    have e9 := whole_Same_I (a := q.num) (b := q.num) (P1000 hq.1 (by decide)) (P1000 hq.1 (by decide))
    rw [show S.whole_Same _ = _ from e9, Option.bind_some, decide_eq_true rfl]
  · rw [cf (fun h => hd (sgn_one.1 h))]
    have ne1 : ∀ z : Int, (z : Rat) ≠ q := fun z h => by
      have : q.den = 1 := by rw [← h, Rat.den_intCast]
      exact hd this
    have l1 : ((q.floor : Int) : Rat) < q := Rat.lt_of_le_of_ne hfl (ne1 _)
    have l2 : q < ((q.ceil : Int) : Rat) := Rat.lt_of_le_of_ne hcl (fun h => ne1 _ h.symm)
    have s1 : sgq ((q.floor : Int) : Rat) q = -1 := by unfold sgq; rw [if_pos l1]
    have s2 : sgq q ((q.ceil : Int) : Rat) = -1 := by unfold sgq; rw [if_pos l2]
    rw [s1, s2]
    simp only [decide_true, cond_true]
    have hone : q.ceil - q.floor = 1 := by
      have h1 : q.floor < q.ceil := Rat.intCast_lt_intCast.1 (by grind)
      have h2 : q.ceil < q.floor + 2 := Rat.intCast_lt_intCast.1 (by rw [Rat.intCast_add] at hfl2 ⊢; have : ((2 : Int) : Rat) = 2 := rfl; have : ((1 : Int) : Rat) = 1 := rfl; grind)
      omega
    have e9 : S.whole_Of (1, ()) = some (I 1, ()) := whole_Of_I (by decide) (by decide)
    have e10 := whole_Same_I (a := q.ceil - q.floor) (b := 1) (P1000 (sub_abs hc hf) (by decide)) (P_one 1000 (by decide))
    rw [e9, Option.bind_some, show S.whole_Same _ = _ from e10, Option.bind_some, decide_eq_true hone]
end Go.L

/-! QB -/
namespace Go.L
open Go.PM
set_option exponentiation.threshold 20000
set_option linter.unusedVariables false
set_option linter.unusedSimpArgs false

/-- w04_RatioBetween: one round of loop 0. -/
def w04_RatioBetween_s0 (κ0 : Int → Int → Int → Int → Int → (List Int) → Int → Int → Option (Bool × Unit)) (c : Int) (x : Int) (y : Int) (u : Int) (v : Int) (t108 : List Int) (t109 : Int) (t110 : Int) : Option (Bool × Unit) :=
  cond (decide (t110 < t109))
    (
      cond (decide (0 ≤ t110))
        (
          cond (decide (t110 < (t108.length : Int)))
            (
              cond (!(decide ((t108.getD t110.toNat 0) = 0))) (some (false, ())) (κ0 c x y u v t108 t109 (IntKind.i64.wrap (t110 + 1)))) none) none)
    (
      cond (decide (x = c))
        (
          cond (decide (y = c))
            (
              cond (decide (u = c)) (some (decide (v = c), ())) (some (false, ()))) (some (false, ()))) (some (false, ())))

def w04_RatioBetween_l0 (K : Nat) : Nat → Int → Int → Int → Int → Int → (List Int) → Int → Int → Option (Bool × Unit)
  | 0, _, _, _, _, _, _, _, _ => none
  | n + 1, c, x, y, u, v, t108, t109, t110 => w04_RatioBetween_s0 (w04_RatioBetween_l0 K n) c x y u v t108 t109 t110

/-- girdlelaw04.RatioBetween -/
def w04_RatioBetween_b (I0 : Int → Int → Int → Int → Int → (List Int) → Int → Int → Option (Bool × Unit)) (a : (Bool × (List Int) × Unit) × (List Int) × Unit) (b : (Bool × (List Int) × Unit) × (List Int) × Unit) : Option (Bool × Unit) :=
  (S.w04_parts (())).bind fun z1 =>
  cond (!z1.1) (some (false, ()))
    (
      (S.w04_fit ([((a.1.1, a.1.2.1, ()), a.2.1, ()), ((b.1.1, b.1.2.1, ()), b.2.1, ())], ())).bind fun z2 =>
      cond (!z2.1) (some (true, ()))
        (
          (S.whole_Add ((a.1.1, a.1.2.1, ()), (b.1.1, b.1.2.1, ()), ())).bind fun z3 =>
          (S.whole_Nat (a.2.1, ())).bind fun z4 =>
          (S.whole_Nat (b.2.1, ())).bind fun z5 =>
          (S.whole_Add ((z4.1.1, z4.1.2.1, ()), (z5.1.1, z5.1.2.1, ()), ())).bind fun z6 =>
          (S.ratio_Make ((z3.1.1, z3.1.2.1, ()), (z6.1.1, z6.1.2.1, ()), ())).bind fun z7 =>
          (S.ratio_Add (((a.1.1, a.1.2.1, ()), a.2.1, ()), ((b.1.1, b.1.2.1, ()), b.2.1, ()), ())).bind fun z8 =>
          (S.ratio_Of (1, 2, ())).bind fun z9 =>
          (S.ratio_Mul (((z8.1.1.1, z8.1.1.2.1, ()), z8.1.2.1, ()), ((z9.1.1.1, z9.1.1.2.1, ()), z9.1.2.1, ()), ())).bind fun z10 =>
          (S.ratio_Compare (((a.1.1, a.1.2.1, ()), a.2.1, ()), ((b.1.1, b.1.2.1, ()), b.2.1, ()), ())).bind fun z11 =>
          (S.ratio_Compare (((a.1.1, a.1.2.1, ()), a.2.1, ()), ((z7.1.1.1, z7.1.1.2.1, ()), z7.1.2.1, ()), ())).bind fun z12 =>
          (S.ratio_Compare (((z7.1.1.1, z7.1.1.2.1, ()), z7.1.2.1, ()), ((b.1.1, b.1.2.1, ()), b.2.1, ()), ())).bind fun z13 =>
          (S.ratio_Compare (((a.1.1, a.1.2.1, ()), a.2.1, ()), ((z10.1.1.1, z10.1.1.2.1, ()), z10.1.2.1, ()), ())).bind fun z14 =>
          (S.ratio_Compare (((z10.1.1.1, z10.1.1.2.1, ()), z10.1.2.1, ()), ((b.1.1, b.1.2.1, ()), b.2.1, ()), ())).bind fun z15 =>
          I0 z11.1 z12.1 z13.1 z14.1 z15.1 ([z7.2.1, z8.2.1, z10.2.1, z11.2.1, z12.2.1, z13.2.1, z14.2.1, z15.2.1]) (([z7.2.1, z8.2.1, z10.2.1, z11.2.1, z12.2.1, z13.2.1, z14.2.1, z15.2.1]).length : Int) 0))

def w04_RatioBetween (K : Nat) (a : (Bool × (List Int) × Unit) × (List Int) × Unit) (b : (Bool × (List Int) × Unit) × (List Int) × Unit) : Option (Bool × Unit) := w04_RatioBetween_b (w04_RatioBetween_l0 K K) a b

def S.w04_RatioBetween (x : RT × RT × Unit) : Option (Bool × Unit) := L.w04_RatioBetween 100 x.1 x.2.1
theorem sgq_of {a b : Rat} {c d : Rat} (h1 : a < b ↔ c < d) (h2 : b < a ↔ d < c) : sgq a b = sgq c d := by
  unfold sgq
  by_cases h : a < b
  · rw [if_pos h, if_pos (h1.1 h)]
  · rw [if_neg h, if_neg (fun h' => h (h1.2 h'))]
    by_cases h' : b < a
    · rw [if_pos h', if_pos (h2.1 h')]
    · rw [if_neg h', if_neg (fun h'' => h' (h2.2 h''))]
theorem den_pos' (q : Rat) : (0 : Rat) < ((q.den : Int) : Rat) := Rat.intCast_pos.2 (by have := q.den_pos; omega)
theorem num_den (q : Rat) : q * ((q.den : Int) : Rat) = (q.num : Rat) := by
  have h := divInt_self q
  rw [Rat.divInt_eq_div] at h
  have hd : ((q.den : Int) : Rat) ≠ 0 := by have := den_pos' q; grind
  have h2 := Rat.div_mul_cancel (a := (q.num : Rat)) hd
  rw [h] at h2
  exact h2
theorem pos_mul_lt {a b c : Rat} (hc : 0 < c) : a * c < b * c ↔ a < b := ⟨fun h => by
  rcases (show a < b ∨ b ≤ a by grind) with h' | h'
  · exact h'
  · have := Rat.mul_le_mul_of_nonneg_right h' (Rat.le_of_lt hc); grind, fun h => Rat.mul_lt_mul_of_pos_right h hc⟩
/-- Both numbers above together, over both below together. -/
theorem mediant (a b : Rat) : sgq a (Rat.divInt (a.num + b.num) ((a.den : Int) + b.den)) = sgq a b ∧ sgq (Rat.divInt (a.num + b.num) ((a.den : Int) + b.den)) b = sgq a b := by
  have hA := den_pos' a
  have hB := den_pos' b
  have nA := num_den a
  have nB := num_den b
  have hS : (0 : Rat) < ((((a.den : Int) + b.den : Int)) : Rat) := Rat.intCast_pos.2 (by have := a.den_pos; omega)
  have hm : Rat.divInt (a.num + b.num) ((a.den : Int) + b.den) * ((((a.den : Int) + b.den : Int)) : Rat) = a * ((a.den : Int) : Rat) + b * ((b.den : Int) : Rat) := by
    rw [Rat.divInt_eq_div, Rat.div_mul_cancel (by grind), Rat.intCast_add, nA, nB]
  generalize Rat.divInt (a.num + b.num) ((a.den : Int) + b.den) = m at *
  rw [Rat.intCast_add] at hS hm
  generalize ((a.den : Int) : Rat) = A at *
  generalize ((b.den : Int) : Rat) = B at *
  have k1 : a < m ↔ a < b := by
    rw [← pos_mul_lt hS, ← pos_mul_lt (a := a) (b := b) hB]; constructor <;> intro h <;> grind
  have k2 : m < a ↔ b < a := by
    rw [← pos_mul_lt hS, ← pos_mul_lt (a := b) (b := a) hB]; constructor <;> intro h <;> grind
  have k3 : m < b ↔ a < b := by
    rw [← pos_mul_lt hS, ← pos_mul_lt (a := a) (b := b) hA]; constructor <;> intro h <;> grind
  have k4 : b < m ↔ b < a := by
    rw [← pos_mul_lt hS, ← pos_mul_lt (a := b) (b := a) hA]; constructor <;> intro h <;> grind
  exact ⟨sgq_of k1 k2, sgq_of k3 k4⟩
theorem RatioBetween_true {a b : RT} (ha : inR a) (hb : inR b) : w04_RatioBetween 100 a b = some (true, ()) := by
  unfold w04_RatioBetween w04_RatioBetween_b
  rw [w04_parts_true, Option.bind_some]
  simp only [Bool.not_true, cond_false]
  rcases w04_fit2 ha hb with e | ⟨e, ⟨p, rfl, hp⟩, q, rfl, hq⟩
  · rw [show S.w04_fit _ = _ from e]; rfl
  rw [show S.w04_fit _ = _ from e, Option.bind_some]
  simp only [Bool.not_true, cond_false]
  have dp : ((p.den : Int)).natAbs < P 20 := by rw [Int.natAbs_natCast]; exact hp.2
  have dq : ((q.den : Int)).natAbs < P 20 := by rw [Int.natAbs_natCast]; exact hq.2
  have hd0 : ((p.den : Int)) + q.den ≠ 0 := by have := p.den_pos; omega
  have e1 := whole_Add_I hp.1 hq.1 (by decide)
  have e2 := whole_Nat_D (P1000 hp.2 (by decide))
  have e3 := whole_Nat_D (P1000 hq.2 (by decide))
  have e4 := whole_Add_I dp dq (by decide)
  have m1 := nA_add hp.1 hq.1
  have m2 := nA_add dp dq
  have e5 := Make_R (P40 m1 (by decide)) (P40 m2 (by decide)) hd0
  have b5 := big_frac m1 m2 hd0
  have e6 := ratio_Add_R hp hq (by decide)
  have b6 := big_add hp hq
  have e7 := ratio_Of_R (n := 1) (d := 2) (by decide) (by decide) (by decide) (by decide) (by decide)
  have b7 : big (Rat.divInt 1 2) 1 := big_frac (by decide) (by decide) (by decide)
  have e8 := ratio_Mul_R b6 b7 (by decide)
  have b8 := big_mul b6 b7
  have c1 := ratio_Compare_R hp hq (by decide)
  have c2 := ratio_Compare_R hp b5 (by decide)
  have c3 := ratio_Compare_R b5 hq (by decide)
  have c4 := ratio_Compare_R hp b8 (by decide)
  have c5 := ratio_Compare_R b8 hq (by decide)
  have hm := mediant p q
  have hh : Rat.divInt 1 2 = 1 / 2 := by rw [Rat.divInt_eq_div]; rfl
  have hmid : (p + q) * Rat.divInt 1 2 = (p + q) / 2 := by rw [hh]; grind
  have s4 : sgq p ((p + q) * Rat.divInt 1 2) = sgq p q := by
    rw [hmid]; exact sgq_of (by constructor <;> intro h <;> grind) (by constructor <;> intro h <;> grind)
  have s5 : sgq ((p + q) * Rat.divInt 1 2) q = sgq p q := by
    rw [hmid]; exact sgq_of (by constructor <;> intro h <;> grind) (by constructor <;> intro h <;> grind)
  rw [hm.1] at c2
  rw [hm.2] at c3
  rw [s4] at c4
  rw [s5] at c5
  rw [show S.whole_Add _ = _ from e1, Option.bind_some, show S.whole_Nat _ = _ from e2, Option.bind_some, show S.whole_Nat _ = _ from e3, Option.bind_some, show S.whole_Add _ = _ from e4, Option.bind_some, show S.ratio_Make _ = _ from e5, Option.bind_some, show S.ratio_Add _ = _ from e6, Option.bind_some, show S.ratio_Of _ = _ from e7, Option.bind_some, show S.ratio_Mul _ = _ from e8, Option.bind_some, show S.ratio_Compare _ = _ from c1, Option.bind_some, show S.ratio_Compare _ = _ from c2, Option.bind_some, show S.ratio_Compare _ = _ from c3, Option.bind_some, show S.ratio_Compare _ = _ from c4, Option.bind_some, show S.ratio_Compare _ = _ from c5, Option.bind_some]
  simp only
  refine loop_up 8 (fun _ => ()) (fun k s i => w04_RatioBetween_l0 100 k (sgq p q) (sgq p q) (sgq p q) (sgq p q) (sgq p q) [0, 0, 0, 0, 0, 0, 0, 0] ((8 : Nat) : Int) i) _ (fun k i hi => ?_) (fun k => ?_) 100 (by omega)
  · simp only [w04_RatioBetween_l0, w04_RatioBetween_s0]
    have hl : (([0, 0, 0, 0, 0, 0, 0, 0] : List Int).length : Int) = 8 := rfl
    have hg : ([0, 0, 0, 0, 0, 0, 0, 0] : List Int).getD i 0 = 0 := by
      rcases (by omega : i = 0 ∨ i = 1 ∨ i = 2 ∨ i = 3 ∨ i = 4 ∨ i = 5 ∨ i = 6 ∨ i = 7) with h | h | h | h | h | h | h | h <;> subst h <;> rfl
    rw [ct (by omega), ct (by omega), ct (by omega), Int.toNat_natCast, hg]
    simp only [decide_true, Bool.not_true, cond_false]
    rw [wi1 (by omega)]
  · simp only [w04_RatioBetween_l0, w04_RatioBetween_s0]
    rw [cf (by omega)]
    simp only [decide_true, cond_true]
/-- A ratio as its text has it. -/
def ratL (q : Rat) : List UInt8 := if q.den = 1 then intL q.num else intL q.num ++ 47 :: (decL q.den).map dbyte
theorem intL_len {z : Int} (h : z.natAbs < P 512) : (intL z).length ≤ 5001 := by
  have := decL_len h
  unfold intL
  split <;> simp <;> omega
theorem dig_range {n : Nat} {c : UInt8} (h : c ∈ (decL n).map dbyte) : 48 ≤ c.toNat ∧ c.toNat ≤ 57 := by
  obtain ⟨d, hd, rfl⟩ := List.mem_map.1 h
  have := (decL_props n).2.1 d hd
  rw [dbyte_nat this]; omega
theorem intL_range {z : Int} {c : UInt8} (h : c ∈ intL z) : c.toNat = 45 ∨ 48 ≤ c.toNat ∧ c.toNat ≤ 57 := by
  unfold intL at h
  split at h
  · rcases List.mem_cons.1 h with rfl | h
    · left; rfl
    · exact .inr (dig_range h)
  · exact .inr (dig_range h)
theorem ratio_Text_R {q : Rat} {k : Nat} (hq : big q k) (hk : k ≤ 512) : S.ratio_Text (R q, ()) = some (mk (ratL q), ()) := by
  have e1 := Cmp_D (P1000 hq.2 (by omega)) (P_one 1000 (by decide))
  have e2 := whole_Text_I (P40 hq.1 hk)
  have e3 := Text_D (P40 hq.2 hk)
  have l1 := intL_len (P40 hq.1 hk)
  have l2 := decL_len (P40 hq.2 hk)
  have e0 : ∀ a : RT, S.ratio_Text (a, ()) = (S.limbs_Of (1, ())).bind fun z1 => (S.limbs_Compare (a.2.1, z1.1, ())).bind fun z2 => cond (decide (z2.1 = 0)) ((S.whole_Text (a.1, ())).bind fun z3 => some (z3.1, ())) ((S.whole_Text (a.1, ())).bind fun z4 => cond (decide (z4.1.size + (⟨#[47]⟩ : ByteArray).size ≤ 9223372036854775807)) ((S.digits_Text (a.2.1, ())).bind fun z6 => cond (decide ((z4.1 ++ (⟨#[47]⟩ : ByteArray)).size + z6.1.size ≤ 9223372036854775807)) (some ((z4.1 ++ (⟨#[47]⟩ : ByteArray) ++ z6.1), ())) none) none) := fun _ => rfl
  have h47 : (⟨#[47]⟩ : ByteArray) = mk [47] := rfl
  rw [e0, Of_one, Option.bind_some]
  simp only
  rw [e1, Option.bind_some]
  simp only
  unfold ratL
  by_cases hd : q.den = 1
  · rw [ct (sgn_one.2 hd), e2, Option.bind_some, if_pos hd]
  · rw [cf (fun h => hd (sgn_one.1 h)), e2, Option.bind_some, if_neg hd]
    simp only
    rw [h47, ct (by rw [mk_size, mk_size]; simp; omega), e3, Option.bind_some]
    simp only
    have hs : (decS q.den).size = (decL q.den).length := by show ((decL q.den).map dbyte).length = _; simp
    rw [mk_append, ct (by rw [mk_size, hs]; simp; omega)]
    show some (mk (intL q.num ++ [47]) ++ mk ((decL q.den).map dbyte), ()) = _
    rw [mk_append, List.append_assoc]
    rfl
theorem Parse_form (s : ByteArray) : S.ratio_Parse (s, ()) = (S.strings_Cut (s, (⟨#[47]⟩ : ByteArray), ())).bind fun z1 =>
    cond z1.2.2.1 ((S.whole_Parse (z1.1, ())).bind fun z2 => (S.digits_Parse (z1.2.1, ())).bind fun z3 => (S.ratio_first ([z2.2.1, z3.2.1], ())).bind fun z4 => cond (!(decide (z4.1 = 0))) ((S.ratio_Zero (())).bind fun z5 => some (z5.1, z4.1, ())) ((S.whole_Nat (z3.1, ())).bind fun z6 => (S.ratio_Make (z2.1, z6.1, ())).bind fun z7 => some z7))
    ((S.strings_Cut (s, (⟨#[46]⟩ : ByteArray), ())).bind fun z8 => cond (!z8.2.2.1) ((S.whole_Parse (s, ())).bind fun z9 => cond (!(decide (z9.2.1 = 0))) ((S.ratio_Zero (())).bind fun z10 => some (z10.1, z9.2.1, ())) ((S.ratio_Whole (z9.1, ())).bind fun z11 => some (z11.1, 0, ())))
      (cond (decide (1000 < (z8.2.1.size : Int))) ((S.ratio_Zero (())).bind fun z12 => some (z12.1, 3, ())) ((S.whole_Parse (z8.1, ())).bind fun z13 => (S.digits_Parse (z8.2.1, ())).bind fun z14 => (S.ratio_first ([z13.2.1, z14.2.1], ())).bind fun z15 => cond (!(decide (z15.1 = 0))) ((S.ratio_Zero (())).bind fun z16 => some (z16.1, z15.1, ()))
        (cond (decide (z8.1.size + z8.2.1.size ≤ 9223372036854775807)) ((S.whole_Parse ((z8.1 ++ z8.2.1), ())).bind fun z18 => cond (!(decide (z18.2.1 = 0))) ((S.ratio_Zero (())).bind fun z19 => some (z19.1, z18.2.1, ())) ((S.digits_Ten ((z8.2.1.size : Int), ())).bind fun z20 => (S.whole_Nat (z20.1, ())).bind fun z21 => (S.ratio_Make (z18.1, z21.1, ())).bind fun z22 => some z22)) none)))) := rfl
theorem parseL_code (l : List UInt8) : (parseL l).2.1 = 0 ∨ (parseL l).2.1 = 2 ∨ (parseL l).2.1 = 3 := by
  unfold parseL; split
  · exact .inr (.inl rfl)
  · split
    · exact .inr (.inr rfl)
    · exact .inl rfl
theorem wparse_code (l : List UInt8) : ((wparse l).2.1 = 0 ∧ ∃ z : Int, wparse l = (I z, 0, ()) ∧ z.natAbs < 10 ^ l.length ∧ (cutM l).1 ≠ [] ∧ (cutM l).1.all isdig = true) ∨ (wparse l).2.1 = 2 ∨ (wparse l).2.1 = 3 := by
  unfold wparse
  by_cases h : (parseL (cutM l).1).2.1 = 0
  · left
    rw [if_pos h]
    obtain ⟨_, h2, h3, _⟩ := parseL_zero h
    refine ⟨rfl, _, rfl, ?_, h2, h3⟩
    have h4 := numB_lt _ h3
    have h5 := cutM_len l
    have h6 : 10 ^ (cutM l).1.length ≤ 10 ^ l.length := Nat.pow_le_pow_right (by decide) h5
    cases (cutM l).2
    · show (((numB (cutM l).1 : Nat) : Int)).natAbs < _
      rw [Int.natAbs_natCast]; omega
    · show (-((numB (cutM l).1 : Nat) : Int)).natAbs < _
      rw [Int.natAbs_neg, Int.natAbs_natCast]; omega
  · right
    rw [if_neg h]
    rcases parseL_code (cutM l).1 with h' | h' | h'
    · exact absurd h' h
    · exact .inl h'
    · exact .inr h'
theorem first_two (a b : Int) : S.ratio_first ([a, b], ()) = some (if a = 0 then b else a, ()) := by
  show some (firstF [a, b], ()) = _
  unfold firstF
  by_cases ha : a = 0
  · subst ha
    simp only [firstF]
    by_cases hb : b = 0
    · subst hb; rfl
    · simp [hb]
  · simp [ha]
theorem lit47 : (⟨#[47]⟩ : ByteArray) = mk [47] := rfl
theorem lit46 : (⟨#[46]⟩ : ByteArray) = mk [46] := rfl
/-- What a fraction is read as. -/
theorem Parse_frac {z : Int} {n j : Nat} (hz : z.natAbs < P j) (hn : n < P j) (hj : j ≤ 508) (h0 : n ≠ 0) : S.ratio_Parse (mk (intL z ++ 47 :: (decL n).map dbyte), ()) = some (R (Rat.divInt z n), 0, ()) := by
  have l1 := intL_len (P40 hz (by omega))
  have l2 := decL_len (P40 hn (by omega))
  have hno : (47 : UInt8) ∉ intL z := fun h => by have := intL_range h; simp at this
  have e1 := Cut_yes (b := (decL n).map dbyte) hno (by simp; omega)
  have e2 := whole_Parse_mk (l := intL z) (by omega)
  rw [wparse_intL (Nat.lt_of_lt_of_le hz (P_mono hj))] at e2
  have e3 := Parse_mk (l := (decL n).map dbyte) (by simp; omega)
  rw [parseL_dec (Nat.lt_of_lt_of_le hn (P_mono hj))] at e3
  have e4 := whole_Nat_D (P1000 hn (by omega))
  have e5 := Make_R (n := z) (d := (n : Int)) (P40 hz (by omega)) (by rw [nat_abs]; exact P40 hn (by omega)) (by omega)
  rw [Parse_form, lit47, e1, Option.bind_some]
  simp only [cond_true]
  rw [e2, Option.bind_some, e3, Option.bind_some]
  simp only [first2, Option.bind_some, decide_true, Bool.not_true, cond_false]
  rw [e4, Option.bind_some]
  simp only
  rw [e5, Option.bind_some]
/-- THERE AND BACK: a ratio's text is read as it. -/
theorem Parse_ratL {q : Rat} {j : Nat} (hq : big q j) (hj : j ≤ 508) : S.ratio_Parse (mk (ratL q), ()) = some (R q, 0, ()) := by
  unfold ratL
  by_cases hd : q.den = 1
  · rw [if_pos hd]
    have l1 := intL_len (P40 hq.1 (by omega))
    have n47 : (47 : UInt8) ∉ intL q.num := fun h => by have := intL_range h; simp at this
    have n46 : (46 : UInt8) ∉ intL q.num := fun h => by have := intL_range h; simp at this
    have e2 := whole_Parse_mk (l := intL q.num) (by omega)
    rw [wparse_intL (Nat.lt_of_lt_of_le hq.1 (P_mono hj))] at e2
    have e3 := ratio_Whole_R (P1000 hq.1 (by omega))
    have hqn : ((q.num : Int) : Rat) = q := by
      have := num_den q
      rw [hd] at this
      rw [← this]
      have : (((1 : Nat) : Int) : Rat) = 1 := rfl
      rw [this, Rat.mul_one]
    rw [hqn] at e3
    rw [Parse_form, lit47, Cut_no n47, Option.bind_some]
    simp only [cond_false]
    rw [lit46, Cut_no n46, Option.bind_some]
    simp only [Bool.not_false, cond_true]
    rw [e2, Option.bind_some]
    simp only [decide_true, Bool.not_true, cond_false]
    rw [e3, Option.bind_some]
  · rw [if_neg hd]
    have := Parse_frac (z := q.num) (n := q.den) hq.1 hq.2 hj (by have := q.den_pos; omega)
    rw [divInt_self] at this
    exact this
theorem P32_300 : 10 ^ 301 < P 32 := by unfold P; decide +kernel
theorem small300 {n k : Nat} (h : n < 10 ^ k) (hk : k ≤ 301) : n < P 32 := Nat.lt_trans (Nat.lt_of_lt_of_le h (Nat.pow_le_pow_right (by decide) hk)) P32_300
/-- Whatever is read: an error, and nothing; or a ratio. -/
theorem Parse_any {l : List UInt8} (hl : l.length ≤ 300) : (∃ c : Int, (c = 2 ∨ c = 3 ∨ c = 10) ∧ S.ratio_Parse (mk l, ()) = some (R 0, c, ())) ∨ ∃ q : Rat, big q 32 ∧ S.ratio_Parse (mk l, ()) = some (R q, 0, ()) := by
  rcases idxL_spec 47 l with ⟨_, h47⟩ | ⟨a, b, rfl, h47, _⟩
  · rcases idxL_spec 46 l with ⟨_, h46⟩ | ⟨a, b, rfl, h46, _⟩
    · -- a whole number
      have e2 := whole_Parse_mk (l := l) (by omega)
      rw [Parse_form, lit47, Cut_no h47, Option.bind_some]
      simp only [cond_false]
      rw [lit46, Cut_no h46, Option.bind_some]
      simp only [Bool.not_false, cond_true]
      rw [e2, Option.bind_some]
      rcases wparse_code l with ⟨h0, z, hz, hzl, _⟩ | hc
      · right
        have hzP := small300 hzl (by omega)
        have e3 := ratio_Whole_R (P1000 hzP (by decide))
        refine ⟨(z : Rat), rat_int_big hzP (by decide), ?_⟩
        rw [hz]
        simp only [decide_true, Bool.not_true, cond_false]
        rw [e3, Option.bind_some]
      · left
        refine ⟨(wparse l).2.1, by omega, ?_⟩
        rw [decide_eq_false (by omega)]
        simp only [Bool.not_false, cond_true]
        rw [ratio_Zero_R, Option.bind_some]
    · -- digits behind a point
      simp only [List.length_append, List.length_cons] at hl
      have e1 := Cut_yes (b := b) h46 (by omega)
      have e2 := whole_Parse_mk (l := a) (by omega)
      have e3 := Parse_mk (l := b) (by omega)
      have e4 := whole_Parse_mk (l := a ++ b) (by simp; omega)
      rw [Parse_form, lit47, Cut_no h47, Option.bind_some]
      simp only [cond_false]
      rw [lit46, e1, Option.bind_some]
      simp only [Bool.not_true, cond_false]
      rw [cf (by rw [mk_size]; omega), e2, Option.bind_some, e3, Option.bind_some, first_two, Option.bind_some]
      simp only
      have hp := parseL_code b
      by_cases hf : (if (wparse a).2.1 = 0 then (parseL b).2.1 else (wparse a).2.1) = 0
      · rw [decide_eq_true hf]
        simp only [Bool.not_true, cond_false]
        rw [ct (by rw [mk_size, mk_size]; omega), mk_append, e4, Option.bind_some]
        rcases wparse_code (a ++ b) with ⟨h0, z, hz, hzl, _⟩ | hc
        · right
          have hzP := small300 hzl (by simp; omega)
          have h10 : 10 ^ b.length < P 32 := small300 (k := b.length + 1) (Nat.pow_lt_pow_right (by decide) (by omega)) (by omega)
          have h10' : ((10 ^ b.length : Nat) : Int) ≠ 0 := by have : 0 < 10 ^ b.length := Nat.pow_pos (by decide); omega
          have e5 := Ten_in (n := b.length) (P40 h10 (by decide))
          have e6 := whole_Nat_D (P1000 h10 (by decide))
          have e7 := Make_R (n := z) (d := ((10 ^ b.length : Nat) : Int)) (P40 hzP (by decide)) (by rw [nat_abs]; exact P40 h10 (by decide)) h10'
          refine ⟨_, big_frac hzP (by rw [nat_abs]; exact h10) h10', ?_⟩
          rw [hz]
          simp only [decide_true, Bool.not_true, cond_false]
          rw [mk_size, e5, Option.bind_some]
          simp only
          rw [e6, Option.bind_some]
          simp only
          rw [e7, Option.bind_some]
        · left
          refine ⟨(wparse (a ++ b)).2.1, by omega, ?_⟩
          rw [decide_eq_false (by omega)]
          simp only [Bool.not_false, cond_true]
          rw [ratio_Zero_R, Option.bind_some]
      · left
        have hw : (wparse a).2.1 = 0 ∨ (wparse a).2.1 = 2 ∨ (wparse a).2.1 = 3 := by
          rcases wparse_code a with ⟨h, _⟩ | h
          · exact .inl h
          · exact .inr h
        refine ⟨if (wparse a).2.1 = 0 then (parseL b).2.1 else (wparse a).2.1, ?_, by
          rw [decide_eq_false hf]
          simp only [Bool.not_false, cond_true]
          rw [ratio_Zero_R, Option.bind_some]⟩
        by_cases hwa : (wparse a).2.1 = 0
        · rw [if_pos hwa] at hf ⊢; omega
        · rw [if_neg hwa] at hf ⊢; omega
  · -- a fraction
    simp only [List.length_append, List.length_cons] at hl
    have e1 := Cut_yes (b := b) h47 (by omega)
    have e2 := whole_Parse_mk (l := a) (by omega)
    have e3 := Parse_mk (l := b) (by omega)
    rw [Parse_form, lit47, e1, Option.bind_some]
    simp only [cond_true]
    rw [e2, Option.bind_some, e3, Option.bind_some, first_two, Option.bind_some]
    simp only
    have hp := parseL_code b
    by_cases hf : (if (wparse a).2.1 = 0 then (parseL b).2.1 else (wparse a).2.1) = 0
    · rw [decide_eq_true hf]
      simp only [Bool.not_true, cond_false]
      rcases wparse_code a with ⟨h0, z, hz, hzl, _⟩ | hc
      · rw [if_pos h0] at hf
        obtain ⟨hb1, hb2, hb3, hb4⟩ := parseL_zero hf
        have hzP := small300 hzl (by omega)
        have hbP := small300 (numB_lt b hb3) (by omega)
        have e4 := whole_Nat_D (P1000 hbP (by decide))
        rw [hz, hb1]
        simp only
        rw [e4, Option.bind_some]
        simp only
        by_cases hn : numB b = 0
        · left
          refine ⟨10, by decide, ?_⟩
          have := Make_zero z
          rw [hn]
          rw [show S.ratio_Make (I z, I ((0 : Nat) : Int), ()) = _ from this, Option.bind_some]
        · right
          have e5 := Make_R (n := z) (d := (numB b : Int)) (P40 hzP (by decide)) (by rw [nat_abs]; exact P40 hbP (by decide)) (by omega)
          refine ⟨_, big_frac hzP (by rw [nat_abs]; exact hbP) (by omega), ?_⟩
          rw [e5, Option.bind_some]
      · exfalso
        split at hf <;> omega
    · left
      have hw : (wparse a).2.1 = 0 ∨ (wparse a).2.1 = 2 ∨ (wparse a).2.1 = 3 := by
          rcases wparse_code a with ⟨h, _⟩ | h
          · exact .inl h
          · exact .inr h
      refine ⟨if (wparse a).2.1 = 0 then (parseL b).2.1 else (wparse a).2.1, ?_, by
        rw [decide_eq_false hf]
        simp only [Bool.not_false, cond_true]
        rw [ratio_Zero_R, Option.bind_some]⟩
      by_cases hwa : (wparse a).2.1 = 0
      · rw [if_pos hwa] at hf ⊢; omega
      · rw [if_neg hwa] at hf ⊢; omega
/-- girdlelaw04.RatioParses -/
def w04_RatioParses (s : ByteArray) : Option (Bool × Unit) :=
  (S.w04_parts (())).bind fun z1 =>
  cond (!z1.1) (some (false, ()))
    (
      cond (decide (300 < (s.size : Int))) (some (true, ()))
        (
          (S.ratio_Parse (s, ())).bind fun z2 =>
          cond (!(decide (z2.2.1 = 0)))
            (
              cond (decide (z2.2.1 = 2))
                (
                  (S.ratio_Zero (())).bind fun z3 =>
                  (S.w04_same (((z2.1.1.1, z2.1.1.2.1, ()), z2.1.2.1, ()), ((z3.1.1.1, z3.1.1.2.1, ()), z3.1.2.1, ()), ())).bind fun z4 =>
                  some (z4.1, ()))
                (
                  cond (decide (z2.2.1 = 10))
                    (
                      (S.ratio_Zero (())).bind fun z5 =>
                      (S.w04_same (((z2.1.1.1, z2.1.1.2.1, ()), z2.1.2.1, ()), ((z5.1.1.1, z5.1.1.2.1, ()), z5.1.2.1, ()), ())).bind fun z6 =>
                      some (z6.1, ()))
                    (
                      cond (decide (z2.2.1 = 3))
                        (
                          (S.ratio_Zero (())).bind fun z7 =>
                          (S.w04_same (((z2.1.1.1, z2.1.1.2.1, ()), z2.1.2.1, ()), ((z7.1.1.1, z7.1.1.2.1, ()), z7.1.2.1, ()), ())).bind fun z8 =>
                          some (z8.1, ())) (some (false, ())))))
            (
              (S.ratio_Text (((z2.1.1.1, z2.1.1.2.1, ()), z2.1.2.1, ()), ())).bind fun z9 =>
              (S.ratio_Parse (z9.1, ())).bind fun z10 =>
              (S.ratio_Check (((z2.1.1.1, z2.1.1.2.1, ()), z2.1.2.1, ()), ())).bind fun z11 =>
              cond (decide (z11.1 = 0))
                (
                  cond (decide (z10.2.1 = 0))
                    (
                      (S.w04_same (((z2.1.1.1, z2.1.1.2.1, ()), z2.1.2.1, ()), ((z10.1.1.1, z10.1.1.2.1, ()), z10.1.2.1, ()), ())).bind fun z12 =>
                      some (z12.1, ())) (some (false, ()))) (some (false, ())))))

theorem RatioParses_true (s : ByteArray) : w04_RatioParses s = some (true, ()) := by
  obtain ⟨l, rfl⟩ := mk_of s
  unfold w04_RatioParses
  rw [w04_parts_true, Option.bind_some]
  simp only [Bool.not_true, cond_false]
  by_cases h3 : 300 < l.length
  · rw [ct (by rw [mk_size]; omega)]
  rw [cf (by rw [mk_size]; omega)]
  have b0 : big (0 : Rat) 1 := rat_int_big (z := 0) (k := 1) (P_pos 1) (by decide)
  have s0 := same_true b0 b0 (by decide) (by decide) rfl
  rcases Parse_any (l := l) (by omega) with ⟨c, hc, e⟩ | ⟨q, hq, e⟩
  · rw [e, Option.bind_some]
    simp only
    rw [decide_eq_false (show ¬ c = 0 by omega)]
    simp only [Bool.not_false, cond_true]
    by_cases h2 : c = 2
    · rw [ct h2, ratio_Zero_R, Option.bind_some, show S.w04_same _ = _ from s0, Option.bind_some]
    rw [cf h2]
    by_cases h10 : c = 10
    · rw [ct h10, ratio_Zero_R, Option.bind_some, show S.w04_same _ = _ from s0, Option.bind_some]
    rw [cf h10, ct (by omega), ratio_Zero_R, Option.bind_some, show S.w04_same _ = _ from s0, Option.bind_some]
  · rw [e, Option.bind_some]
    simp only [decide_true, Bool.not_true, cond_false]
    have e1 := ratio_Text_R hq (by decide)
    have e2 := Parse_ratL hq (by decide)
    have e3 := ratio_Check_R (hq.mono (by decide))
    have e4 := same_true hq hq (by decide) (by decide) rfl
    rw [show S.ratio_Text _ = _ from e1, Option.bind_some, e2, Option.bind_some, show S.ratio_Check _ = _ from e3, Option.bind_some]
    simp only [decide_true, cond_true]
    rw [show S.w04_same _ = _ from e4, Option.bind_some]
end Go.L

/-! QC -/
namespace Go.L
open Go.PM
set_option exponentiation.threshold 20000
set_option linter.unusedVariables false
set_option linter.unusedSimpArgs false

theorem Contains_mk (l : List UInt8) : S.strings_Contains (mk l, (⟨#[47]⟩ : ByteArray), ()) = some (decide (0 ≤ idxL l 47), ()) := by
  have e0 : ∀ s t : ByteArray, S.strings_Contains (s, t, ()) = ((S.internal_stringslite_Index (s, t, ())).bind fun z1 => some (z1.1, ())).bind fun z1 => some (decide (0 ≤ z1.1), ()) := fun _ _ => rfl
  rw [e0, lit47, Index_mk]
  rfl
theorem ratL_slash (q : Rat) : decide (0 ≤ idxL (ratL q) 47) = !decide (q.den = 1) := by
  unfold ratL
  have n47 : (47 : UInt8) ∉ intL q.num := fun h => by have := intL_range h; simp at this
  by_cases hd : q.den = 1
  · rw [if_pos hd, idxL_none n47, decide_eq_true hd]; rfl
  · rw [if_neg hd, idxL_app n47, decide_eq_false hd, decide_eq_true (by omega)]; rfl
/-- girdlelaw04.RatioTexts -/
def w04_RatioTexts (a : (Bool × (List Int) × Unit) × (List Int) × Unit) (n : Int) : Option (Bool × Unit) :=
  (S.w04_parts (())).bind fun z1 =>
  cond (!z1.1) (some (false, ()))
    (
      (S.w04_fit ([((a.1.1, a.1.2.1, ()), a.2.1, ())], ())).bind fun z2 =>
      cond (!z2.1) (some (true, ()))
        (
          (S.ratio_Text (((a.1.1, a.1.2.1, ()), a.2.1, ()), ())).bind fun z3 =>
          (S.ratio_Parse (z3.1, ())).bind fun z4 =>
          cond (!(decide (z4.2.1 = 0))) (some (false, ()))
            (
              (S.w04_same (((a.1.1, a.1.2.1, ()), a.2.1, ()), ((z4.1.1.1, z4.1.1.2.1, ()), z4.1.2.1, ()), ())).bind fun z5 =>
              cond (!z5.1) (some (false, ()))
                (
                  (S.strings_Contains (z3.1, (⟨#[47]⟩ : ByteArray), ())).bind fun z6 =>
                  (S.limbs_Of (1, ())).bind fun z7 =>
                  (S.limbs_Compare (a.2.1, z7.1, ())).bind fun z8 =>
                  cond (!(z6.1 == !(decide (z8.1 = 0)))) (some (false, ()))
                    (
                      cond (decide (n < 1)) (some (true, ()))
                        (
                          (S.whole_Of (n, ())).bind fun z9 =>
                          (S.whole_Mul ((a.1.1, a.1.2.1, ()), (z9.1.1, z9.1.2.1, ()), ())).bind fun z10 =>
                          (S.limbs_Of ((IntKind.u64.wrap n), ())).bind fun z12 =>
                          (S.limbs_Mul (a.2.1, z12.1, ())).bind fun z13 =>
                          (S.whole_Text ((z10.1.1, z10.1.2.1, ()), ())).bind fun z14 =>
                          cond (decide (z14.1.size + (⟨#[47]⟩ : ByteArray).size ≤ 9223372036854775807))
                            (
                              let z15 := z14.1 ++ (⟨#[47]⟩ : ByteArray)
                              (S.digits_Text (z13.1, ())).bind fun z16 =>
                              cond (decide (z15.size + z16.1.size ≤ 9223372036854775807))
                                (
                                  (S.ratio_Parse ((z15 ++ z16.1), ())).bind fun z18 =>
                                  cond (decide (z18.2.1 = 0))
                                    (
                                      (S.w04_same (((a.1.1, a.1.2.1, ()), a.2.1, ()), ((z18.1.1.1, z18.1.1.2.1, ()), z18.1.2.1, ()), ())).bind fun z19 =>
                                      some (z19.1, ())) (some (false, ()))) none) none))))))

theorem RatioTexts_true {a : RT} {n : Int} (ha : inR a) (h0 : -9223372036854775808 ≤ n) (h1 : n < 9223372036854775808) : w04_RatioTexts a n = some (true, ()) := by
  unfold w04_RatioTexts
  rw [w04_parts_true, Option.bind_some]
  simp only [Bool.not_true, cond_false]
  rcases w04_fit1 ha with e | ⟨e, q, rfl, hq⟩
  · rw [show S.w04_fit _ = _ from e]; rfl
  rw [show S.w04_fit _ = _ from e, Option.bind_some]
  simp only [Bool.not_true, cond_false]
  have e1 := ratio_Text_R hq (by decide)
  have e2 := Parse_ratL hq (by decide)
  have e3 := same_true hq hq (by decide) (by decide) rfl
  have e4 := Cmp_D (P1000 hq.2 (by decide)) (P_one 1000 (by decide))
  rw [show S.ratio_Text _ = _ from e1, Option.bind_some, e2, Option.bind_some]
  simp only [decide_true, Bool.not_true, cond_false]
  rw [show S.w04_same _ = _ from e3, Option.bind_some]
  simp only [Bool.not_true, cond_false]
  rw [Contains_mk, Option.bind_some, Of_one, Option.bind_some]
  simp only
  rw [e4, Option.bind_some, ratL_slash]
  have hs : decide (sgn (q.den : Int) ((1 : Nat) : Int) = 0) = decide (q.den = 1) := decide_eq_decide.2 sgn_one
  simp only [hs, beq_self_eq_true, Bool.not_true, cond_false]
  by_cases hn : n < 1
  · rw [ct hn]
  rw [cf hn]
  obtain ⟨m, rfl⟩ : ∃ m : Nat, n = m := ⟨n.toNat, by omega⟩
  have hm2 : m < P 2 := by rw [P_2]; omega
  have hmi : ((m : Int)).natAbs < P 2 := by rw [Int.natAbs_natCast]; exact hm2
  have e5 := whole_Of_I (z := (m : Int)) (by omega) (by omega)
  have e6 := whole_Mul_I hq.1 hmi (by decide)
  have e7 := limbs_Of_D (n := m) (by omega)
  have hdm : q.den * m < P 22 := P_mul hq.2 hm2
  have e8 := Mul_D hq.2 hm2 (by decide)
  rw [res_in (P40 hdm (by decide))] at e8
  have hx := nA_mul hq.1 hmi
  have e9 := whole_Text_I (P40 hx (by decide))
  have e10 := Text_D (P40 hdm (by decide))
  have l1 := intL_len (P40 hx (by decide))
  have l2 := decL_len (P40 hdm (by decide))
  have hd0 := q.den_pos
  have hdm0 : q.den * m ≠ 0 := Nat.mul_ne_zero (by omega) (by omega)
  have e11 := Parse_frac (z := q.num * (m : Int)) (n := q.den * m) hx hdm (by decide) hdm0
  have hval : Rat.divInt (q.num * (m : Int)) ((q.den * m : Nat) : Int) = q := by
    have h := divInt_self q
    have h2 : Rat.divInt (q.num * (m : Int)) ((q.den * m : Nat) : Int) = Rat.divInt q.num q.den := (Rat.divInt_eq_divInt_iff (fun h => hdm0 (Int.natCast_eq_zero.1 h)) (den0 q)).2 (by rw [Int.natCast_mul, Int.mul_assoc, Int.mul_comm (m : Int)])
    rw [h2, h]
  rw [hval] at e11
  rw [e5, Option.bind_some]
  simp only
  rw [show S.whole_Mul _ = _ from e6, Option.bind_some, wu64 (by omega) (by omega), e7, Option.bind_some]
  simp only
  rw [e8, Option.bind_some, show S.whole_Text _ = _ from e9, Option.bind_some]
  simp only
  have hs2 : (decS (q.den * m)).size = (decL (q.den * m)).length := by show ((decL (q.den * m)).map dbyte).length = _; simp
  have hz15 : mk (intL (q.num * (m : Int))) ++ (⟨#[47]⟩ : ByteArray) = mk (intL (q.num * (m : Int)) ++ [47]) := by rw [lit47, mk_append]
  rw [ct (by rw [mk_size, lit47, mk_size]; simp; omega), e10, Option.bind_some]
  simp only
  rw [hz15, ct (by rw [mk_size, hs2]; simp; omega)]
  have hcat : mk (intL (q.num * (m : Int)) ++ [47]) ++ decS (q.den * m) = mk (intL (q.num * (m : Int)) ++ 47 :: (decL (q.den * m)).map dbyte) := by
    show mk (intL (q.num * (m : Int)) ++ [47]) ++ mk ((decL (q.den * m)).map dbyte) = _
    rw [mk_append, List.append_assoc]; rfl
  rw [hcat, e11, Option.bind_some]
  simp only [decide_true, cond_true]
  rw [show S.w04_same _ = _ from e3, Option.bind_some]
/-- w04_RatioPoints: one round of loop 0. -/
def w04_RatioPoints_s0 (κ0 : Int → Bool → (List Int) → ByteArray → Option (Bool × Unit)) (places : Int) (n_0 : Bool) (n_1 : List Int) (d : ByteArray) : Option (Bool × Unit) :=
  cond (decide ((d.size : Int) ≤ places))
    (
      cond (decide ((⟨#[48]⟩ : ByteArray).size + d.size ≤ 9223372036854775807)) (κ0 places n_0 n_1 ((⟨#[48]⟩ : ByteArray) ++ d)) none)
    (
      let z5 := IntKind.i64.wrap ((d.size : Int) - places)
      cond (decide (0 ≤ z5))
        (
          cond (decide (z5 ≤ (d.size : Int)))
            (
              let z6 := d.extract 0 z5.toNat
              cond (decide (z6.size + (⟨#[46]⟩ : ByteArray).size ≤ 9223372036854775807))
                (
                  let z7 := z6 ++ (⟨#[46]⟩ : ByteArray)
                  let z8 := IntKind.i64.wrap ((d.size : Int) - places)
                  cond (decide (0 ≤ z8))
                    (
                      cond (decide (z8 ≤ (d.size : Int)))
                        (
                          let z9 := d.extract z8.toNat ((d.size : Int).toNat)
                          cond (decide (z7.size + z9.size ≤ 9223372036854775807))
                            (
                              cond (n_0)
                                (
                                  cond (decide ((⟨#[45]⟩ : ByteArray).size + (z7 ++ z9).size ≤ 9223372036854775807))
                                    (
                                      (S.ratio_Parse (((⟨#[45]⟩ : ByteArray) ++ (z7 ++ z9)), ())).bind fun z12 =>
                                      (S.digits_Ten (places, ())).bind fun z13 =>
                                      (S.whole_Nat (z13.1, ())).bind fun z14 =>
                                      (S.ratio_Make ((n_0, n_1, ()), (z14.1.1, z14.1.2.1, ()), ())).bind fun z15 =>
                                      cond (decide (z12.2.1 = 0))
                                        (
                                          cond (decide (z15.2.1 = 0))
                                            (
                                              (S.w04_same (((z12.1.1.1, z12.1.1.2.1, ()), z12.1.2.1, ()), ((z15.1.1.1, z15.1.1.2.1, ()), z15.1.2.1, ()), ())).bind fun z16 =>
                                              some (z16.1, ())) (some (false, ()))) (some (false, ()))) none)
                                (
                                  (S.ratio_Parse ((z7 ++ z9), ())).bind fun z17 =>
                                  (S.digits_Ten (places, ())).bind fun z18 =>
                                  (S.whole_Nat (z18.1, ())).bind fun z19 =>
                                  (S.ratio_Make ((n_0, n_1, ()), (z19.1.1, z19.1.2.1, ()), ())).bind fun z20 =>
                                  cond (decide (z17.2.1 = 0))
                                    (
                                      cond (decide (z20.2.1 = 0))
                                        (
                                          (S.w04_same (((z17.1.1.1, z17.1.1.2.1, ()), z17.1.2.1, ()), ((z20.1.1.1, z20.1.1.2.1, ()), z20.1.2.1, ()), ())).bind fun z21 =>
                                          some (z21.1, ())) (some (false, ()))) (some (false, ())))) none) none) none) none) none) none)

def w04_RatioPoints_l0 (K : Nat) : Nat → Int → Bool → (List Int) → ByteArray → Option (Bool × Unit)
  | 0, _, _, _, _ => none
  | n + 1, places, n_0, n_1, d => w04_RatioPoints_s0 (w04_RatioPoints_l0 K n) places n_0 n_1 d

/-- girdlelaw04.RatioPoints -/
def w04_RatioPoints_b (I0 : Int → Bool → (List Int) → ByteArray → Option (Bool × Unit)) (n : Bool × (List Int) × Unit) (places : Int) : Option (Bool × Unit) :=
  (S.w04_parts (())).bind fun z1 =>
  cond (!z1.1) (some (false, ()))
    (
      cond (decide (20 < (n.2.1.length : Int))) (some (true, ()))
        (
          (S.whole_Check ((n.1, n.2.1, ()), ())).bind fun z2 =>
          cond (!(decide (z2.1 = 0))) (some (true, ()))
            (
              cond (decide (places < 1)) (some (true, ()))
                (
                  cond (decide (300 < places)) (some (true, ()))
                    (
                      (S.digits_Text (n.2.1, ())).bind fun z3 =>
                      I0 places n.1 n.2.1 z3.1)))))

def w04_RatioPoints (K : Nat) (n : Bool × (List Int) × Unit) (places : Int) : Option (Bool × Unit) := w04_RatioPoints_b (w04_RatioPoints_l0 K K) n places

def S.w04_RatioPoints (x : (Bool × List Int × Unit) × Int × Unit) : Option (Bool × Unit) := L.w04_RatioPoints 400 x.1 x.2.1
/-- Digits, a - ahead if that is wanted. -/
def sgnL (b : Bool) (l : List UInt8) : List UInt8 := bif b then 45 :: l else l
theorem cutM_sgn {b : Bool} {l : List UInt8} (hd : l.all isdig = true) : cutM (sgnL b l) = (l, b) := by
  cases b with
  | true => rfl
  | false =>
    show cutM l = _
    cases l with
    | nil => rfl
    | cons c l =>
      rw [cutM, if_neg]
      intro e
      subst e
      simp [isdig] at hd
theorem wparse_sgn {b : Bool} {l : List UInt8} (hd : l.all isdig = true) (h0 : l ≠ []) (hl : l.length ≤ 4900) : wparse (sgnL b l) = (I (sg b (numB l)), 0, ()) := by
  have hp : parseL l = (D (numB l), 0, ()) := by
    unfold parseL
    rw [if_neg (fun h => by rcases h with h | h; exact h0 h; rw [h] at hd; cases hd), if_neg (by omega)]
  unfold wparse
  rw [cutM_sgn hd, hp, if_pos rfl]
theorem isdig_ne {l : List UInt8} (hd : l.all isdig = true) {c : UInt8} (hc : isdig c = false) : c ∉ l := fun h => by
  have := List.all_eq_true.1 hd c h
  rw [hc] at this; cases this
theorem sgnL_ne {b : Bool} {l : List UInt8} (hd : l.all isdig = true) {c : UInt8} (hc : isdig c = false) (h45 : c ≠ 45) : c ∉ sgnL b l := by
  cases b with
  | false => exact isdig_ne hd hc
  | true =>
    intro h
    rcases List.mem_cons.1 h with h | h
    · exact h45 h
    · exact isdig_ne hd hc h
theorem sgnL_len (b : Bool) (l : List UInt8) : (sgnL b l).length ≤ l.length + 1 := by cases b <;> simp [sgnL]
/-- What digits before and behind a point are read as. -/
theorem Parse_point {s : Bool} {x y : List UInt8} (hx : x.all isdig = true) (hy : y.all isdig = true) (x0 : x ≠ []) (y0 : y ≠ []) (hxl : x.length ≤ 400) (hyl : y.length ≤ 300) : S.ratio_Parse (mk (sgnL s x ++ 46 :: y), ()) = S.ratio_Make (I (sg s (numB (x ++ y))), I ((10 ^ y.length : Nat) : Int), ()) := by
  have d47 : isdig 47 = false := rfl
  have d46 : isdig 46 = false := rfl
  have sl := sgnL_len s x
  have n47 : (47 : UInt8) ∉ sgnL s x ++ 46 :: y := fun h => by
    rcases List.mem_append.1 h with h | h
    · exact sgnL_ne hx d47 (by decide) h
    · rcases List.mem_cons.1 h with h | h
      · exact absurd h (by decide)
      · exact isdig_ne hy d47 h
  have n46 : (46 : UInt8) ∉ sgnL s x := sgnL_ne hx d46 (by decide)
  have e1 := Cut_yes (b := y) n46 (by omega)
  have e2 := whole_Parse_mk (l := sgnL s x) (by omega)
  rw [wparse_sgn hx x0 (by omega)] at e2
  have e3 := Parse_mk (l := y) (by omega)
  have hp : parseL y = (D (numB y), 0, ()) := by
    unfold parseL
    rw [if_neg (fun h => by rcases h with h | h; exact y0 h; rw [h] at hy; cases hy), if_neg (by omega)]
  rw [hp] at e3
  have hxy : (x ++ y).all isdig = true := by rw [List.all_append, hx, hy]; rfl
  have hcat : sgnL s x ++ y = sgnL s (x ++ y) := by cases s <;> rfl
  have e4 := whole_Parse_mk (l := sgnL s (x ++ y)) (by have := sgnL_len s (x ++ y); simp at this; omega)
  rw [wparse_sgn hxy (by simp [x0]) (by simp; omega)] at e4
  have h10 : 10 ^ y.length < P 32 := small300 (k := y.length + 1) (Nat.pow_lt_pow_right (by decide) (by omega)) (by omega)
  have e5 := Ten_in (n := y.length) (P40 h10 (by decide))
  have e6 := whole_Nat_D (P1000 h10 (by decide))
  rw [Parse_form, lit47, Cut_no n47, Option.bind_some]
  simp only [cond_false]
  rw [lit46, e1, Option.bind_some]
  simp only [Bool.not_true, cond_false]
  rw [cf (by rw [mk_size]; omega), e2, Option.bind_some, e3, Option.bind_some]
  simp only [first2, Option.bind_some, decide_true, Bool.not_true, cond_false]
  rw [ct (by rw [mk_size, mk_size]; omega), mk_append, hcat, e4, Option.bind_some]
  simp only [decide_true, Bool.not_true, cond_false]
  rw [mk_size, e5, Option.bind_some]
  simp only
  rw [e6, Option.bind_some]
  simp only
  cases S.ratio_Make (I (sg s (numB (x ++ y))), I ((10 ^ y.length : Nat) : Int), ()) <;> rfl
theorem Points_end {K k : Nat} {κ : Int → Bool → List Int → ByteArray → Option (Bool × Unit)} {z : Int} {p : Nat} {l : List UInt8} (hz : z.natAbs < P 20) (hd : l.all isdig = true) (hn : numB l = z.natAbs) (hp1 : 1 ≤ p) (hp : p ≤ 300) (hl : p < l.length) (hl2 : l.length ≤ 600) (hx : l.length - p ≤ 400) :
    w04_RatioPoints_s0 κ (p : Int) (decide (z < 0)) (D z.natAbs) (mk l) = some (true, ()) := by
  have h10 : 10 ^ p < P 32 := small300 (k := p + 1) (Nat.pow_lt_pow_right (by decide) (by omega)) (by omega)
  have h10' : ((10 ^ p : Nat) : Int) ≠ 0 := by have : 0 < 10 ^ p := Nat.pow_pos (by decide); omega
  have e5 := Ten_in (n := p) (P40 h10 (by decide))
  have e6 := whole_Nat_D (P1000 h10 (by decide))
  have hz32 := nA_up hz (show 20 ≤ 32 by decide)
  have e7 := Make_R (n := z) (d := ((10 ^ p : Nat) : Int)) (P40 hz (by decide)) (by rw [nat_abs]; exact P40 h10 (by decide)) h10'
  have b7 := big_frac hz32 (by rw [nat_abs]; exact h10) h10'
  have e8 := same_true b7 b7 (by decide) (by decide) rfl
  have hs : (mk l).size = l.length := rfl
  have hsplit : l.take (l.length - p) ++ l.drop (l.length - p) = l := List.take_append_drop _ _
  have hxd : (l.take (l.length - p)).all isdig = true := by
    apply List.all_eq_true.2
    intro c hc
    exact List.all_eq_true.1 hd c (List.mem_of_mem_take hc)
  have hyd : (l.drop (l.length - p)).all isdig = true := by
    apply List.all_eq_true.2
    intro c hc
    exact List.all_eq_true.1 hd c (List.mem_of_mem_drop hc)
  have hyl : (l.drop (l.length - p)).length = p := by rw [List.length_drop]; omega
  have hxl : (l.take (l.length - p)).length = l.length - p := by rw [List.length_take]; omega
  have P1 := fun s => Parse_point (s := s) hxd hyd (by intro h; rw [h] at hxl; simp at hxl; omega) (by intro h; rw [h] at hyl; simp at hyl; omega) (by omega) (by omega)
  simp only [hsplit, hn, hyl] at P1
  have hsg : sg (decide (z < 0)) z.natAbs = z := sg_self z
  unfold w04_RatioPoints_s0
  rw [cf (by rw [hs]; omega)]
  simp only
  have hz5 : IntKind.i64.wrap (((mk l).size : Int) - (p : Int)) = ((l.length - p : Nat) : Int) := by rw [hs, wi64 (by omega) (by omega)]; omega
  rw [ct (by rw [hz5]; omega), ct (by rw [hz5, hs]; omega)]
  have ex1 : (mk l).extract 0 (IntKind.i64.wrap (((mk l).size : Int) - (p : Int))).toNat = mk (l.take (l.length - p)) := by rw [hz5, Int.toNat_natCast, mk_extract, List.drop_zero]
  have ex2 : (mk l).extract (IntKind.i64.wrap (((mk l).size : Int) - (p : Int))).toNat (((mk l).size : Int)).toNat = mk (l.drop (l.length - p)) := by rw [hz5, Int.toNat_natCast, Int.toNat_natCast, mk_extract, hs, List.take_length]
  rw [ex1, ex2, lit46, mk_append]
  rw [ct (by rw [mk_size, mk_size, hxl]; simp; omega), ct (by rw [hz5]; omega), ct (by rw [hz5, hs]; omega), ct (by rw [mk_size, mk_size, List.length_append, hxl, hyl]; simp; omega), mk_append]
  have hcat : l.take (l.length - p) ++ [46] ++ l.drop (l.length - p) = l.take (l.length - p) ++ 46 :: l.drop (l.length - p) := by rw [List.append_assoc]; rfl
  rw [hcat]
  by_cases h0 : z < 0
  · rw [decide_eq_true h0] at hsg ⊢
    simp only [cond_true]
    have h45 : (⟨#[45]⟩ : ByteArray) = mk [45] := rfl
    have hP := P1 true
    have hl45 : [45] ++ (l.take (l.length - p) ++ 46 :: l.drop (l.length - p)) = sgnL true (l.take (l.length - p)) ++ 46 :: l.drop (l.length - p) := rfl
    rw [hsg, e7] at hP
    rw [h45, ct (by simp only [mk_size, List.length_append, List.length_cons, List.length_nil, hxl, hyl]; omega), mk_append, hl45, hP, Option.bind_some, e5, Option.bind_some]
    simp only
    rw [e6, Option.bind_some]
    simp only
    have e7' : S.ratio_Make ((true, D z.natAbs, ()), I ((10 ^ p : Nat) : Int), ()) = some (R (Rat.divInt z ((10 ^ p : Nat) : Int)), 0, ()) := by
      have := Make_R (n := z) (d := ((10 ^ p : Nat) : Int)) (P40 hz (by decide)) (by rw [nat_abs]; exact P40 h10 (by decide)) h10'
      simp only [I, decide_eq_true h0] at this
      exact this
    rw [show S.ratio_Make _ = _ from e7', Option.bind_some]
    simp only [decide_true, cond_true]
    rw [show S.w04_same _ = _ from e8, Option.bind_some]
  · rw [decide_eq_false h0] at hsg ⊢
    simp only [cond_false]
    have hP := P1 false
    have hl0 : l.take (l.length - p) ++ 46 :: l.drop (l.length - p) = sgnL false (l.take (l.length - p)) ++ 46 :: l.drop (l.length - p) := rfl
    rw [hsg, e7] at hP
    rw [hl0, hP, Option.bind_some, e5, Option.bind_some]
    simp only
    rw [e6, Option.bind_some]
    simp only
    have e7' : S.ratio_Make ((false, D z.natAbs, ()), I ((10 ^ p : Nat) : Int), ()) = some (R (Rat.divInt z ((10 ^ p : Nat) : Int)), 0, ()) := by
      have := Make_R (n := z) (d := ((10 ^ p : Nat) : Int)) (P40 hz (by decide)) (by rw [nat_abs]; exact P40 h10 (by decide)) h10'
      simp only [I, decide_eq_false h0] at this
      exact this
    rw [show S.ratio_Make _ = _ from e7', Option.bind_some]
    simp only [decide_true, cond_true]
    rw [show S.w04_same _ = _ from e8, Option.bind_some]
theorem Points_loop {K : Nat} {z : Int} {p : Nat} (hz : z.natAbs < P 20) (hp1 : 1 ≤ p) (hp : p ≤ 300) : ∀ (r n : Nat) (l : List UInt8), p + 1 - l.length ≤ r → r < n → l.all isdig = true → numB l = z.natAbs → l.length ≤ 600 → l.length - p ≤ 400 →
    w04_RatioPoints_l0 K n (p : Int) (decide (z < 0)) (D z.natAbs) (mk l) = some (true, ()) := by
  intro r
  induction r with
  | zero =>
    intro n l h hn hd hnum hl hx
    obtain ⟨n, rfl⟩ := Nat.exists_eq_succ_of_ne_zero (by omega : n ≠ 0)
    simp only [w04_RatioPoints_l0]
    exact Points_end (K := 0) (k := 0) hz hd hnum hp1 hp (by omega) hl hx
  | succ r ih =>
    intro n l h hn hd hnum hl hx
    obtain ⟨n, rfl⟩ := Nat.exists_eq_succ_of_ne_zero (by omega : n ≠ 0)
    simp only [w04_RatioPoints_l0]
    by_cases hlp : p < l.length
    · exact Points_end (K := 0) (k := 0) hz hd hnum hp1 hp hlp hl hx
    · unfold w04_RatioPoints_s0
      have h48 : (⟨#[48]⟩ : ByteArray) = mk [48] := rfl
      rw [ct (by rw [mk_size]; omega), h48, ct (by rw [mk_size, mk_size]; simp; omega), mk_append]
      apply ih n ([48] ++ l)
      · simp; omega
      · omega
      · rw [List.all_append, hd]; rfl
      · have : numB ([48] ++ l) = numB l := rfl
        rw [this, hnum]
      · simp; omega
      · simp; omega
theorem RatioPoints_true {n : Bool × List Int × Unit} {places : Int} (hn : inI n) : w04_RatioPoints 400 n places = some (true, ()) := by
  unfold w04_RatioPoints w04_RatioPoints_b
  rw [w04_parts_true, Option.bind_some]
  simp only [Bool.not_true, cond_false]
  by_cases h1 : 20 < n.2.1.length
  · rw [ct (by omega)]
  rw [cf (by omega)]
  obtain ⟨c, hc⟩ := whole_Check_some hn
  rw [show S.whole_Check _ = _ from hc, Option.bind_some]
  by_cases hcn : ¬ c = 0
  · simp only; rw [decide_eq_false hcn]; rfl
  have hc0 : c = 0 := Decidable.not_not.1 hcn
  subst hc0
  obtain ⟨z, rfl, _⟩ := whole_Check_in hn.2 hn.1 hc
  simp only [decide_true, Bool.not_true, cond_false]
  have hz : z.natAbs < P 20 := Nat.lt_of_lt_of_le (dlen_lt z.natAbs) (P_mono (by simp only at h1; omega))
  by_cases h2 : places < 1
  · rw [ct h2]
  rw [cf h2]
  by_cases h3 : 300 < places
  · rw [ct h3]
  rw [cf h3]
  obtain ⟨p, rfl⟩ : ∃ p : Nat, places = p := ⟨places.toNat, by omega⟩
  have e1 := Text_D (P40 hz (by decide))
  rw [e1, Option.bind_some]
  obtain ⟨p1, p2, p3, p4, p5⟩ := decL_props z.natAbs
  have hd := numB_dec (decL z.natAbs) p2
  rw [p1] at hd
  have hlen : (decL z.natAbs).length ≤ 194 := by
    by_cases h0 : z.natAbs = 0
    · rw [h0]; decide
    · have h5 := (p5 h0).1
      have hb : P 20 ≤ 10 ^ 193 := by unfold P; decide +kernel
      have := (Nat.pow_lt_pow_iff_right (show 1 < 10 by decide)).1 (Nat.lt_of_le_of_lt h5 (Nat.lt_of_lt_of_le hz hb))
      omega
  exact Points_loop hz (by omega) (by omega) 301 400 _ (by simp; omega) (by decide) hd.2 hd.1 (by simp; omega) (by simp; omega)
end Go.L
