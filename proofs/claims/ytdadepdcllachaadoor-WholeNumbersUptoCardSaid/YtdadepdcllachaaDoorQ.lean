/-
  ratios in texts; the laws of ratios: made, field, orders, rounds, between. the laws of ratios: between; texts. the laws of ratios: texts, points.
  No condition beyond those that each theorem names.
-/
import Derived.Test.YtdadepdcllachaaDoorO

/-! QA -/
namespace Go.L
open Go.PM
set_option exponentiation.threshold 20000
set_option linter.unusedVariables false
set_option linter.unusedSimpArgs false

/-- Where a byte is first; less than nothing if it is nowhere. -/
def idxL : List UInt8 → UInt8 → Int
  | [], _ => -1
  | b :: l, c => if b == c then 0 else if idxL l c == -1 then -1 else idxL l c + 1
theorem idxL_spec (c : UInt8) : ∀ l : List UInt8, (idxL l c = -1 ∧ c ∉ l) ∨ ∃ a b, l = a ++ c :: b ∧ c ∉ a ∧ idxL l c = a.length
  | [] => .inl ⟨rfl, by simp⟩
  | x :: l => by
    simp only [idxL]
    by_cases hx : x = c
    · subst hx
      right
      refine ⟨[], l, rfl, by simp, ?_⟩
      simp
    · have hx' : (x == c) = false := by simpa using hx
      rw [hx', if_neg (by decide)]
      rcases idxL_spec c l with ⟨h1, h2⟩ | ⟨a, b, h1, h2, h3⟩
      · left
        rw [h1]
        exact ⟨rfl, by simp only [List.mem_cons, not_or]; exact ⟨fun e => hx e.symm, h2⟩⟩
      · right
        refine ⟨x :: a, b, by rw [h1]; rfl, by simp only [List.mem_cons, not_or]; exact ⟨fun e => hx e.symm, h2⟩, ?_⟩
        rw [h3]
        have : ((a.length : Int) == -1) = false := by
          rw [beq_eq_false_iff_ne]; omega
        rw [this, if_neg (by decide)]
        simp
theorem idxL_app {c : UInt8} {a b : List UInt8} (h : c ∉ a) : idxL (a ++ c :: b) c = a.length := by
  induction a with
  | nil => simp [idxL]
  | cons x a ih =>
    simp only [List.mem_cons, not_or] at h
    have hx : (x == c) = false := by simp only [beq_eq_false_iff_ne]; exact fun e => h.1 e.symm
    simp only [List.cons_append, idxL, hx, ih h.2]
    have : ((a.length : Int) == -1) = false := by
      rw [beq_eq_false_iff_ne]; omega
    rw [this]
    simp
theorem idxL_none {c : UInt8} {l : List UInt8} (h : c ∉ l) : idxL l c = -1 := by
  rcases idxL_spec c l with ⟨h1, _⟩ | ⟨a, b, h1, _, _⟩
  · exact h1
  · rw [h1] at h; simp at h
def S.internal_stringslite_IndexByte (x : ByteArray × Int × Unit) : Option (Int × Unit) := some (idxL x.1.data.toList x.2.1.toNat.toUInt8, ())
/-- internal/stringslite.Index -/
def internal_stringslite_Index (s : ByteArray) (substr : ByteArray) : Option (Int × Unit) :=
  cond (decide ((substr.size : Int) = 0)) (some (0, ()))
    (
      cond ((substr.toList == s.toList)) (some (0, ()))
        (
          cond (decide ((substr.size : Int) = 1))
            (
              cond (decide (0 < (substr.size : Int)))
                (
                  (S.internal_stringslite_IndexByte (s, (bt substr 0), ())).bind fun z2 =>
                  some (z2.1, ())) none)
            (
              cond (decide ((s.size : Int) ≤ (substr.size : Int))) (some ((-1 : Int), ())) none)))

def S.internal_stringslite_Index (x : ByteArray × ByteArray × Unit) : Option (Int × Unit) := L.internal_stringslite_Index x.1 x.2.1
theorem Index_mk (l : List UInt8) (c : UInt8) : S.internal_stringslite_Index (mk l, mk [c], ()) = some (idxL l c, ()) := by
  have e0 : ∀ s t : ByteArray, S.internal_stringslite_Index (s, t, ()) = cond (decide ((t.size : Int) = 0)) (some (0, ())) (cond (t.toList == s.toList) (some (0, ())) (cond (decide ((t.size : Int) = 1)) (cond (decide (0 < (t.size : Int))) ((S.internal_stringslite_IndexByte (s, (bt t 0), ())).bind fun z2 => some (z2.1, ())) none) (cond (decide ((s.size : Int) ≤ (t.size : Int))) (some ((-1 : Int), ())) none))) := fun _ _ => rfl
  have hs : ((mk [c]).size : Int) = 1 := rfl
  rw [e0, cf (by rw [hs]; decide), mk_beq]
  by_cases h : [c] = l
  · rw [ct h, ← h]; simp [idxL]
  · rw [cf h, ct hs, ct (by rw [hs]; decide)]
    simp only [S.internal_stringslite_IndexByte, Option.bind_some]
    have hb : (bt (mk [c]) 0).toNat.toUInt8 = c := by
      rw [mk_bt]; simp
    rw [hb]
    rfl
/-- internal/stringslite.Cut -/
def internal_stringslite_Cut (s : ByteArray) (sep : ByteArray) : Option (ByteArray × ByteArray × Bool × Unit) :=
  (S.internal_stringslite_Index (s, sep, ())).bind fun z1 =>
  cond (decide (0 ≤ z1.1))
    (
      cond (decide (0 ≤ z1.1))
        (
          cond (decide (z1.1 ≤ (s.size : Int)))
            (
              let z3 := IntKind.i64.wrap (z1.1 + (sep.size : Int))
              cond (decide (0 ≤ z3))
                (
                  cond (decide (z3 ≤ (s.size : Int))) (some ((s.extract 0 z1.1.toNat), (s.extract z3.toNat ((s.size : Int).toNat)), true, ())) none) none) none) none) (some (s, (⟨#[]⟩ : ByteArray), false, ()))

def S.internal_stringslite_Cut (x : ByteArray × ByteArray × Unit) : Option (ByteArray × ByteArray × Bool × Unit) := L.internal_stringslite_Cut x.1 x.2.1
/-- strings.Cut -/
def strings_Cut (s : ByteArray) (sep : ByteArray) : Option (ByteArray × ByteArray × Bool × Unit) :=
  (S.internal_stringslite_Cut (s, sep, ())).bind fun z1 =>
  some (z1.1, z1.2.1, z1.2.2.1, ())

def S.strings_Cut (x : ByteArray × ByteArray × Unit) : Option (ByteArray × ByteArray × Bool × Unit) := L.strings_Cut x.1 x.2.1
theorem Cut_form (s t : ByteArray) : S.strings_Cut (s, t, ()) = ((S.internal_stringslite_Index (s, t, ())).bind fun z1 => cond (decide (0 ≤ z1.1)) (cond (decide (0 ≤ z1.1)) (cond (decide (z1.1 ≤ (s.size : Int))) (cond (decide (0 ≤ IntKind.i64.wrap (z1.1 + (t.size : Int)))) (cond (decide (IntKind.i64.wrap (z1.1 + (t.size : Int)) ≤ (s.size : Int))) (some (s.extract 0 z1.1.toNat, s.extract (IntKind.i64.wrap (z1.1 + (t.size : Int))).toNat ((s.size : Int).toNat), true, ())) none) none) none) none) (some (s, (⟨#[]⟩ : ByteArray), false, ()))).bind fun z1 => some (z1.1, z1.2.1, z1.2.2.1, ()) := rfl
theorem Cut_no {l : List UInt8} {c : UInt8} (h : c ∉ l) : S.strings_Cut (mk l, mk [c], ()) = some (mk l, mk [], false, ()) := by
  rw [Cut_form, Index_mk, idxL_none h, Option.bind_some, cf (by decide)]
  rfl
theorem Cut_yes {a b : List UInt8} {c : UInt8} (h : c ∉ a) (hl : a.length + b.length < 4611686018427387904) : S.strings_Cut (mk (a ++ c :: b), mk [c], ()) = some (mk a, mk b, true, ()) := by
  have hs : (mk (a ++ c :: b)).size = a.length + (b.length + 1) := by rw [mk_size]; simp
  have ht : ((mk [c]).size : Int) = 1 := rfl
  rw [Cut_form, Index_mk, idxL_app h, Option.bind_some]
  simp only
  rw [ct (by omega), ct (by omega), ct (by omega), ht, wi64 (by omega) (by omega), ct (by omega), ct (by omega)]
  simp only [Option.bind_some, mk_extract]
  congr 2
  · congr 1
    rw [Int.toNat_natCast, List.drop_zero, List.take_left]
  · congr 1
    congr 1
    rw [show ((a.length : Int) + 1).toNat = a.length + 1 by omega, Int.toNat_natCast, mk_size, List.take_length, List.drop_append]
    simp
/-- ratio.Parse -/
def ratio_Parse (s : ByteArray) : Option (((Bool × (List Int) × Unit) × (List Int) × Unit) × Int × Unit) :=
  (S.strings_Cut (s, (⟨#[47]⟩ : ByteArray), ())).bind fun z1 =>
  cond (z1.2.2.1)
    (
      (S.whole_Parse (z1.1, ())).bind fun z2 =>
      (S.digits_Parse (z1.2.1, ())).bind fun z3 =>
      (S.ratio_first ([z2.2.1, z3.2.1], ())).bind fun z4 =>
      cond (!(decide (z4.1 = 0)))
        (
          (S.ratio_Zero (())).bind fun z5 =>
          some (((z5.1.1.1, z5.1.1.2.1, ()), z5.1.2.1, ()), z4.1, ()))
        (
          (S.whole_Nat (z3.1, ())).bind fun z6 =>
          (S.ratio_Make ((z2.1.1, z2.1.2.1, ()), (z6.1.1, z6.1.2.1, ()), ())).bind fun z7 =>
          some (((z7.1.1.1, z7.1.1.2.1, ()), z7.1.2.1, ()), z7.2.1, ())))
    (
      (S.strings_Cut (s, (⟨#[46]⟩ : ByteArray), ())).bind fun z8 =>
      cond (!z8.2.2.1)
        (
          (S.whole_Parse (s, ())).bind fun z9 =>
          cond (!(decide (z9.2.1 = 0)))
            (
              (S.ratio_Zero (())).bind fun z10 =>
              some (((z10.1.1.1, z10.1.1.2.1, ()), z10.1.2.1, ()), z9.2.1, ()))
            (
              (S.ratio_Whole ((z9.1.1, z9.1.2.1, ()), ())).bind fun z11 =>
              some (((z11.1.1.1, z11.1.1.2.1, ()), z11.1.2.1, ()), 0, ())))
        (
          cond (decide (1000 < (z8.2.1.size : Int)))
            (
              (S.ratio_Zero (())).bind fun z12 =>
              some (((z12.1.1.1, z12.1.1.2.1, ()), z12.1.2.1, ()), 3, ()))
            (
              (S.whole_Parse (z8.1, ())).bind fun z13 =>
              (S.digits_Parse (z8.2.1, ())).bind fun z14 =>
              (S.ratio_first ([z13.2.1, z14.2.1], ())).bind fun z15 =>
              cond (!(decide (z15.1 = 0)))
                (
                  (S.ratio_Zero (())).bind fun z16 =>
                  some (((z16.1.1.1, z16.1.1.2.1, ()), z16.1.2.1, ()), z15.1, ()))
                (
                  cond (decide (z8.1.size + z8.2.1.size ≤ 9223372036854775807))
                    (
                      (S.whole_Parse ((z8.1 ++ z8.2.1), ())).bind fun z18 =>
                      cond (!(decide (z18.2.1 = 0)))
                        (
                          (S.ratio_Zero (())).bind fun z19 =>
                          some (((z19.1.1.1, z19.1.1.2.1, ()), z19.1.2.1, ()), z18.2.1, ()))
                        (
                          (S.digits_Ten ((z8.2.1.size : Int), ())).bind fun z20 =>
                          (S.whole_Nat (z20.1, ())).bind fun z21 =>
                          (S.ratio_Make ((z18.1.1, z18.1.2.1, ()), (z21.1.1, z21.1.2.1, ()), ())).bind fun z22 =>
                          some (((z22.1.1.1, z22.1.1.2.1, ()), z22.1.2.1, ()), z22.2.1, ()))) none))))

def S.ratio_Parse (x : ByteArray × Unit) : Option (RT × Int × Unit) := L.ratio_Parse x.1
end Go.L

/-! QB -/
namespace Go.L
open Go.PM
set_option exponentiation.threshold 20000
set_option linter.unusedVariables false
set_option linter.unusedSimpArgs false

theorem den_pos' (q : Rat) : (0 : Rat) < ((q.den : Int) : Rat) := Rat.intCast_pos.2 (by have := q.den_pos; omega)
theorem num_den (q : Rat) : q * ((q.den : Int) : Rat) = (q.num : Rat) := by
  have h := divInt_self q
  rw [Rat.divInt_eq_div] at h
  have hd : ((q.den : Int) : Rat) ≠ 0 := by have := den_pos' q; grind
  have h2 := Rat.div_mul_cancel (a := (q.num : Rat)) hd
  rw [h] at h2
  exact h2
/-- A ratio as its text has it. -/
def ratL (q : Rat) : List UInt8 := if q.den = 1 then intL q.num else intL q.num ++ 47 :: (decL q.den).map dbyte
theorem intL_len {z : Int} (h : z.natAbs < P 512) : (intL z).length ≤ 5001 := by
  have := decL_len h
  unfold intL
  split <;> simp <;> omega
theorem dig_range {n : Nat} {c : UInt8} (h : c ∈ (decL n).map dbyte) : 48 ≤ c.toNat ∧ c.toNat ≤ 57 := by
  obtain ⟨d, hd, rfl⟩ := List.mem_map.1 h
  have := (decL_props n).2.1 d hd
  rw [dbyte_nat this]; omega
theorem intL_range {z : Int} {c : UInt8} (h : c ∈ intL z) : c.toNat = 45 ∨ 48 ≤ c.toNat ∧ c.toNat ≤ 57 := by
  unfold intL at h
  split at h
  · rcases List.mem_cons.1 h with rfl | h
    · left; rfl
    · exact .inr (dig_range h)
  · exact .inr (dig_range h)
theorem ratio_Text_R {q : Rat} {k : Nat} (hq : big q k) (hk : k ≤ 512) : S.ratio_Text (R q, ()) = some (mk (ratL q), ()) := by
  have e1 := Cmp_D (P1000 hq.2 (by omega)) (P_one 1000 (by decide))
  have e2 := whole_Text_I (P40 hq.1 hk)
  have e3 := Text_D (P40 hq.2 hk)
  have l1 := intL_len (P40 hq.1 hk)
  have l2 := decL_len (P40 hq.2 hk)
  have e0 : ∀ a : RT, S.ratio_Text (a, ()) = (S.limbs_Of (1, ())).bind fun z1 => (S.limbs_Compare (a.2.1, z1.1, ())).bind fun z2 => cond (decide (z2.1 = 0)) ((S.whole_Text (a.1, ())).bind fun z3 => some (z3.1, ())) ((S.whole_Text (a.1, ())).bind fun z4 => cond (decide (z4.1.size + (⟨#[47]⟩ : ByteArray).size ≤ 9223372036854775807)) ((S.digits_Text (a.2.1, ())).bind fun z6 => cond (decide ((z4.1 ++ (⟨#[47]⟩ : ByteArray)).size + z6.1.size ≤ 9223372036854775807)) (some ((z4.1 ++ (⟨#[47]⟩ : ByteArray) ++ z6.1), ())) none) none) := fun _ => rfl
  have h47 : (⟨#[47]⟩ : ByteArray) = mk [47] := rfl
  rw [e0, Of_one, Option.bind_some]
  simp only
  rw [e1, Option.bind_some]
  simp only
  unfold ratL
  by_cases hd : q.den = 1
  · rw [ct (sgn_one.2 hd), e2, Option.bind_some, if_pos hd]
  · rw [cf (fun h => hd (sgn_one.1 h)), e2, Option.bind_some, if_neg hd]
    simp only
    rw [h47, ct (by rw [mk_size, mk_size]; simp; omega), e3, Option.bind_some]
    simp only
    have hs : (decS q.den).size = (decL q.den).length := by show ((decL q.den).map dbyte).length = _; simp
    rw [mk_append, ct (by rw [mk_size, hs]; simp; omega)]
    show some (mk (intL q.num ++ [47]) ++ mk ((decL q.den).map dbyte), ()) = _
    rw [mk_append, List.append_assoc]
    rfl
theorem Parse_form (s : ByteArray) : S.ratio_Parse (s, ()) = (S.strings_Cut (s, (⟨#[47]⟩ : ByteArray), ())).bind fun z1 =>
    cond z1.2.2.1 ((S.whole_Parse (z1.1, ())).bind fun z2 => (S.digits_Parse (z1.2.1, ())).bind fun z3 => (S.ratio_first ([z2.2.1, z3.2.1], ())).bind fun z4 => cond (!(decide (z4.1 = 0))) ((S.ratio_Zero (())).bind fun z5 => some (z5.1, z4.1, ())) ((S.whole_Nat (z3.1, ())).bind fun z6 => (S.ratio_Make (z2.1, z6.1, ())).bind fun z7 => some z7))
    ((S.strings_Cut (s, (⟨#[46]⟩ : ByteArray), ())).bind fun z8 => cond (!z8.2.2.1) ((S.whole_Parse (s, ())).bind fun z9 => cond (!(decide (z9.2.1 = 0))) ((S.ratio_Zero (())).bind fun z10 => some (z10.1, z9.2.1, ())) ((S.ratio_Whole (z9.1, ())).bind fun z11 => some (z11.1, 0, ())))
      (cond (decide (1000 < (z8.2.1.size : Int))) ((S.ratio_Zero (())).bind fun z12 => some (z12.1, 3, ())) ((S.whole_Parse (z8.1, ())).bind fun z13 => (S.digits_Parse (z8.2.1, ())).bind fun z14 => (S.ratio_first ([z13.2.1, z14.2.1], ())).bind fun z15 => cond (!(decide (z15.1 = 0))) ((S.ratio_Zero (())).bind fun z16 => some (z16.1, z15.1, ()))
        (cond (decide (z8.1.size + z8.2.1.size ≤ 9223372036854775807)) ((S.whole_Parse ((z8.1 ++ z8.2.1), ())).bind fun z18 => cond (!(decide (z18.2.1 = 0))) ((S.ratio_Zero (())).bind fun z19 => some (z19.1, z18.2.1, ())) ((S.digits_Ten ((z8.2.1.size : Int), ())).bind fun z20 => (S.whole_Nat (z20.1, ())).bind fun z21 => (S.ratio_Make (z18.1, z21.1, ())).bind fun z22 => some z22)) none)))) := rfl
theorem lit47 : (⟨#[47]⟩ : ByteArray) = mk [47] := rfl
theorem lit46 : (⟨#[46]⟩ : ByteArray) = mk [46] := rfl
/-- What a fraction is read as. -/
theorem Parse_frac {z : Int} {n j : Nat} (hz : z.natAbs < P j) (hn : n < P j) (hj : j ≤ 508) (h0 : n ≠ 0) : S.ratio_Parse (mk (intL z ++ 47 :: (decL n).map dbyte), ()) = some (R (Rat.divInt z n), 0, ()) := by
  have l1 := intL_len (P40 hz (by omega))
  have l2 := decL_len (P40 hn (by omega))
  have hno : (47 : UInt8) ∉ intL z := fun h => by have := intL_range h; simp at this
  have e1 := Cut_yes (b := (decL n).map dbyte) hno (by simp; omega)
  have e2 := whole_Parse_mk (l := intL z) (by omega)
  rw [wparse_intL (Nat.lt_of_lt_of_le hz (P_mono hj))] at e2
  have e3 := Parse_mk (l := (decL n).map dbyte) (by simp; omega)
  rw [parseL_dec (Nat.lt_of_lt_of_le hn (P_mono hj))] at e3
  have e4 := whole_Nat_D (P1000 hn (by omega))
  have e5 := Make_R (n := z) (d := (n : Int)) (P40 hz (by omega)) (by rw [nat_abs]; exact P40 hn (by omega)) (by omega)
  rw [Parse_form, lit47, e1, Option.bind_some]
  simp only [cond_true]
  rw [e2, Option.bind_some, e3, Option.bind_some]
  simp only [first2, Option.bind_some, decide_true, Bool.not_true, cond_false]
  rw [e4, Option.bind_some]
  simp only
  rw [e5, Option.bind_some]
/-- THERE AND BACK: a ratio's text is read as it. -/
theorem Parse_ratL {q : Rat} {j : Nat} (hq : big q j) (hj : j ≤ 508) : S.ratio_Parse (mk (ratL q), ()) = some (R q, 0, ()) := by
  unfold ratL
  by_cases hd : q.den = 1
  · rw [if_pos hd]
    have l1 := intL_len (P40 hq.1 (by omega))
    have n47 : (47 : UInt8) ∉ intL q.num := fun h => by have := intL_range h; simp at this
    have n46 : (46 : UInt8) ∉ intL q.num := fun h => by have := intL_range h; simp at this
    have e2 := whole_Parse_mk (l := intL q.num) (by omega)
    rw [wparse_intL (Nat.lt_of_lt_of_le hq.1 (P_mono hj))] at e2
    have e3 := ratio_Whole_R (P1000 hq.1 (by omega))
    have hqn : ((q.num : Int) : Rat) = q := by
      have := num_den q
      rw [hd] at this
      rw [← this]
      have : (((1 : Nat) : Int) : Rat) = 1 := rfl
      rw [this, Rat.mul_one]
    rw [hqn] at e3
    rw [Parse_form, lit47, Cut_no n47, Option.bind_some]
    simp only [cond_false]
    rw [lit46, Cut_no n46, Option.bind_some]
    simp only [Bool.not_false, cond_true]
    rw [e2, Option.bind_some]
    simp only [decide_true, Bool.not_true, cond_false]
    rw [e3, Option.bind_some]
  · rw [if_neg hd]
    have := Parse_frac (z := q.num) (n := q.den) hq.1 hq.2 hj (by have := q.den_pos; omega)
    rw [divInt_self] at this
    exact this
end Go.L

/-! QC -/
namespace Go.L
open Go.PM
set_option exponentiation.threshold 20000
set_option linter.unusedVariables false
set_option linter.unusedSimpArgs false

end Go.L
