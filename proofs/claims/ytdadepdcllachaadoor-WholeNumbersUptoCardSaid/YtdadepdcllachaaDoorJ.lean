/-
  whole numbers: sums, texts; the laws of whole numbers. the laws of whole numbers.
  No condition beyond those that each theorem names.
-/
import Derived.Test.YtdadepdcllachaaDoorI
import Derived.Test.YtdadepdcllachaaDoorH

/-! YA -/
namespace Go.L
open Go.PM
set_option exponentiation.threshold 20000
set_option linter.unusedVariables false
set_option linter.unusedSimpArgs false

theorem sgt (n : Nat) : sg true n = -(n : Int) := rfl
theorem sgf (n : Nat) : sg false n = n := rfl
/-- whole.Abs -/
def whole_Abs (a : Bool × (List Int) × Unit) : Option ((Bool × (List Int) × Unit) × Unit) :=
  (S.slices_Clone_api_Nat_uint32 (a.2.1, ())).bind fun z1 =>
  (S.whole_of (false, z1.1, ())).bind fun z2 =>
  some ((z2.1.1, z2.1.2.1, ()), ())

def S.whole_Abs (x : (Bool × List Int × Unit) × Unit) : Option ((Bool × List Int × Unit) × Unit) := L.whole_Abs x.1
theorem whole_Abs_I {z : Int} (h : z.natAbs < P 1000) : S.whole_Abs (I z, ()) = some (I (z.natAbs : Int), ()) := by
  simp only [S.whole_Abs, L.whole_Abs]
  rw [Clone_D h, Option.bind_some]
  simp only [whole_of_D, Option.bind_some]
  rfl
/-- whole.Add -/
def whole_Add (a : Bool × (List Int) × Unit) (b : Bool × (List Int) × Unit) : Option ((Bool × (List Int) × Unit) × Int × Unit) :=
  cond ((a.1 == b.1))
    (
      (S.limbs_Add (a.2.1, b.2.1, ())).bind fun z1 =>
      (S.whole_of (a.1, z1.1, ())).bind fun z2 =>
      some ((z2.1.1, z2.1.2.1, ()), z1.2.1, ()))
    (
      (S.limbs_Compare (a.2.1, b.2.1, ())).bind fun z3 =>
      cond (decide (z3.1 < 0))
        (
          (S.limbs_Sub (b.2.1, a.2.1, ())).bind fun z4 =>
          (S.whole_of (b.1, z4.1, ())).bind fun z5 =>
          some ((z5.1.1, z5.1.2.1, ()), z4.2.1, ()))
        (
          (S.limbs_Sub (a.2.1, b.2.1, ())).bind fun z6 =>
          (S.whole_of (a.1, z6.1, ())).bind fun z7 =>
          some ((z7.1.1, z7.1.2.1, ()), z6.2.1, ())))

def S.whole_Add (x : (Bool × List Int × Unit) × (Bool × List Int × Unit) × Unit) : Option ((Bool × List Int × Unit) × Int × Unit) := L.whole_Add x.1 x.2.1
theorem sgn_nat (a b : Nat) : (sgn (a : Int) (b : Int) < 0) ↔ a < b := by
  unfold sgn
  by_cases h1 : (a : Int) < b
  · rw [if_pos h1]; constructor <;> intro h <;> omega
  · rw [if_neg h1]; split <;> constructor <;> intro h <;> omega
theorem whole_Add_I {a b : Int} {k : Nat} (ha : a.natAbs < P k) (hb : b.natAbs < P k) (hk : k + 1 ≤ 512) : S.whole_Add (I a, I b, ()) = some (I (a + b), 0, ()) := by
  have a1 := P1000 ha (by omega)
  have b1 := P1000 hb (by omega)
  have hs := P40 (P_sum ha hb) hk
  simp only [S.whole_Add, L.whole_Add]
  by_cases h : (a < 0 ↔ b < 0)
  · rw [show (decide (a < 0) == decide (b < 0)) = true by simp [h], cond_true, Add_D a1 b1, Option.bind_some, res_in hs]
    simp only [whole_of_D, Option.bind_some]
    have : sg (decide (a < 0)) (a.natAbs + b.natAbs) = a + b := by
      by_cases h0 : a < 0
      · rw [decide_eq_true h0, sgt]; have := h.1 h0; omega
      · rw [decide_eq_false h0, sgf]; have : ¬ b < 0 := fun e => h0 (h.2 e); omega
    rw [this]
  · rw [show (decide (a < 0) == decide (b < 0)) = false by
      by_cases h1 : a < 0 <;> by_cases h2 : b < 0 <;> simp_all, cond_false, Cmp_D a1 b1, Option.bind_some]
    simp only
    by_cases hlt : a.natAbs < b.natAbs
    · rw [ct ((sgn_nat _ _).2 hlt), Sub_D b1 a1, if_neg (by omega), res_in (by omega), Option.bind_some]
      simp only [whole_of_D, Option.bind_some]
      have : sg (decide (b < 0)) (b.natAbs - a.natAbs) = a + b := by
        by_cases h0 : b < 0
        · rw [decide_eq_true h0, sgt]; have : ¬ a < 0 := fun e => h ⟨fun _ => h0, fun _ => e⟩; omega
        · rw [decide_eq_false h0, sgf]; omega
      rw [this]
    · rw [cf (fun e => hlt ((sgn_nat _ _).1 e)), Sub_D a1 b1, if_neg (by omega), res_in (by omega), Option.bind_some]
      simp only [whole_of_D, Option.bind_some]
      have : sg (decide (a < 0)) (a.natAbs - b.natAbs) = a + b := by
        by_cases h0 : a < 0
        · rw [decide_eq_true h0, sgt]; have : ¬ b < 0 := fun e => h ⟨fun _ => e, fun _ => h0⟩; omega
        · rw [decide_eq_false h0, sgf]
          by_cases h2 : b < 0
          · omega
          · exact absurd ⟨fun e => absurd e h0, fun e => absurd e h2⟩ h
      rw [this]
theorem whole_Right_I {a : Int} {n : Nat} (ha : a.natAbs < P 511) (hn : n < 9223372036854775808) : S.whole_Right (I a, (n : Int), ()) = some (I (a / 2 ^ n), 0, ()) := by
  have a5 := P40 ha (by decide)
  have hp := Nat.pow_pos (n := n) (show 0 < 2 by decide)
  simp only [S.whole_Right, L.whole_Right]
  rw [Right_D a5 hn, Option.bind_some]
  simp only [decide_true, Bool.not_true, cond_false, whole_of_D, Option.bind_some]
  have hc : ((2 : Int) ^ n) = ((2 ^ n : Nat) : Int) := pow_cast n
  rw [hc]
  by_cases h0 : a < 0
  · rw [decide_eq_true h0, Bool.not_true, cond_false]
    have hA0 : a.natAbs ≠ 0 := by omega
    obtain ⟨t, ht, htail⟩ := Tail_D (P1000 ha (by decide)) hA0
    rw [ht, Option.bind_some]
    have hdm := Nat.div_add_mod a.natAbs (2 ^ n)
    have hlt := Nat.mod_lt a.natAbs hp
    obtain ⟨q, hq⟩ : ∃ q, a.natAbs / 2 ^ n = q := ⟨_, rfl⟩
    obtain ⟨r, hr⟩ : ∃ r, a.natAbs % 2 ^ n = r := ⟨_, rfl⟩
    rw [hq, hr] at hdm
    rw [hr] at hlt
    rw [hq]
    have hdmi : ((2 ^ n : Nat) : Int) * q + r = a.natAbs := by have := congrArg (Nat.cast (R := Int)) hdm; simpa using this
    have key : ∀ (Q R : Int), R + ((2 ^ n : Nat) : Int) * Q = a → 0 ≤ R → R < ((2 ^ n : Nat) : Int) → a / ((2 ^ n : Nat) : Int) = Q := fun Q R e1 e2 e3 =>
      ((Int.ediv_emod_unique (a := a) (b := ((2 ^ n : Nat) : Int)) (r := R) (q := Q) (by omega)).2 ⟨e1, e2, e3⟩).1
    by_cases hnt : n ≤ t
    · rw [ct (by omega)]
      have hdvd : 2 ^ n ∣ a.natAbs := Nat.dvd_trans (Nat.pow_dvd_pow 2 hnt) (Nat.dvd_of_mod_eq_zero htail.1)
      have hr0 : r = 0 := by rw [← hr]; exact Nat.mod_eq_zero_of_dvd hdvd
      rw [key (-(q : Int)) 0 (by rw [Int.mul_neg]; omega) (by omega) (by omega)]
      rfl
    · rw [cf (by omega), Of_one, Option.bind_some]
      have hq5 : q < P 511 := by rw [← hq]; exact Nat.lt_of_le_of_lt (Nat.div_le_self _ _) ha
      have hs : q + 1 < P 512 := P_sum hq5 (P_one 511 (by decide))
      have hr0 : r ≠ 0 := by
        intro e
        have hdvd : 2 ^ n ∣ a.natAbs := Nat.dvd_of_mod_eq_zero (hr.trans e)
        have hdvd : 2 ^ (t + 1) ∣ a.natAbs := Nat.dvd_trans (Nat.pow_dvd_pow 2 (by omega)) hdvd
        exact htail.2 (Nat.mod_eq_zero_of_dvd hdvd)
      simp only
      rw [Add_D (P1000 hq5 (by decide)) (P_one 1000 (by decide)), Option.bind_some, res_in hs]
      simp only [whole_of_D, Option.bind_some]
      rw [key (-(q : Int) - 1) (((2 ^ n : Nat) : Int) - r) (by rw [Int.mul_sub, Int.mul_neg, Int.mul_one]; omega) (by omega) (by omega)]
      have : sg true (q + 1) = -(q : Int) - 1 := by show -((q + 1 : Nat) : Int) = _; omega
      rw [this]
  · rw [decide_eq_false h0, Bool.not_false, cond_true]
    have : sg false (a.natAbs / 2 ^ n) = a / ((2 ^ n : Nat) : Int) := by
      show ((a.natAbs / 2 ^ n : Nat) : Int) = _
      rw [Int.natCast_ediv, Int.natAbs_of_nonneg (by omega)]
    rw [this]
/-- whole.Text -/
def whole_Text (a : Bool × (List Int) × Unit) : Option (ByteArray × Unit) :=
  cond (a.1)
    (
      (S.digits_Text (a.2.1, ())).bind fun z1 =>
      cond (decide ((⟨#[45]⟩ : ByteArray).size + z1.1.size ≤ 9223372036854775807)) (some (((⟨#[45]⟩ : ByteArray) ++ z1.1), ())) none)
    (
      (S.digits_Text (a.2.1, ())).bind fun z3 =>
      some (z3.1, ()))

def S.whole_Text (x : (Bool × List Int × Unit) × Unit) : Option (ByteArray × Unit) := L.whole_Text x.1
/-- A whole number's text. -/
def intL (z : Int) : List UInt8 := if z < 0 then 45 :: (decL z.natAbs).map dbyte else (decL z.natAbs).map dbyte
theorem decL_len {n : Nat} (h : n < P 512) : 1 ≤ (decL n).length ∧ (decL n).length ≤ 5000 := by
  obtain ⟨h1, h2, h3, h4, h5⟩ := decL_props n
  refine ⟨h3, ?_⟩
  by_cases h0 : n = 0
  · subst h0; decide
  · have := (h5 h0).1
    have h : 10 ^ ((decL n).length - 1) < 10 ^ 4933 := Nat.lt_of_le_of_lt this (Nat.lt_of_lt_of_le h (by unfold P; decide +kernel))
    have := (Nat.pow_lt_pow_iff_right (show 1 < 10 by decide)).1 h
    omega
theorem whole_Text_I {z : Int} (h : z.natAbs < P 512) : S.whole_Text (I z, ()) = some (mk (intL z), ()) := by
  simp only [S.whole_Text, L.whole_Text]
  rw [Text_D h]
  simp only [Option.bind_some]
  have hl := decL_len h
  have hs := decS_size z.natAbs
  have h1 : (⟨#[45]⟩ : ByteArray).size = 1 := rfl
  unfold intL
  by_cases h0 : z < 0
  · rw [decide_eq_true h0, cond_true, ct (by omega), if_pos h0, decS, show (⟨#[45]⟩ : ByteArray) = mk [45] from rfl, mk_append]; rfl
  · rw [decide_eq_false h0, cond_false, if_neg h0]; rfl
/-- internal/stringslite.HasPrefix -/
def internal_stringslite_HasPrefix (s : ByteArray) (prefix_ : ByteArray) : Option (Bool × Unit) :=
  cond (decide ((prefix_.size : Int) ≤ (s.size : Int)))
    (
      cond (decide (0 ≤ (prefix_.size : Int)))
        (
          cond (decide ((prefix_.size : Int) ≤ (s.size : Int))) (some (((s.extract 0 ((prefix_.size : Int).toNat)).toList == prefix_.toList), ())) none) none) (some (false, ()))

def S.internal_stringslite_HasPrefix (x : ByteArray × ByteArray × Unit) : Option (Bool × Unit) := L.internal_stringslite_HasPrefix x.1 x.2.1
/-- internal/stringslite.CutPrefix -/
def internal_stringslite_CutPrefix (s : ByteArray) (prefix_ : ByteArray) : Option (ByteArray × Bool × Unit) :=
  (S.internal_stringslite_HasPrefix (s, prefix_, ())).bind fun z1 =>
  cond (!z1.1) (some (s, false, ()))
    (
      cond (decide (0 ≤ (prefix_.size : Int)))
        (
          cond (decide ((prefix_.size : Int) ≤ (s.size : Int))) (some ((s.extract ((prefix_.size : Int).toNat) ((s.size : Int).toNat)), true, ())) none) none)

def S.internal_stringslite_CutPrefix (x : ByteArray × ByteArray × Unit) : Option (ByteArray × Bool × Unit) := L.internal_stringslite_CutPrefix x.1 x.2.1
/-- strings.CutPrefix -/
def strings_CutPrefix (s : ByteArray) (prefix_ : ByteArray) : Option (ByteArray × Bool × Unit) :=
  (S.internal_stringslite_CutPrefix (s, prefix_, ())).bind fun z1 =>
  some (z1.1, z1.2.1, ())

def S.strings_CutPrefix (x : ByteArray × ByteArray × Unit) : Option (ByteArray × Bool × Unit) := L.strings_CutPrefix x.1 x.2.1
def cutM : List UInt8 → List UInt8 × Bool
  | [] => ([], false)
  | b :: l => if b = 45 then (l, true) else (b :: l, false)
theorem CutPrefix_mk (l : List UInt8) : S.strings_CutPrefix (mk l, (⟨#[45]⟩ : ByteArray), ()) = some (mk (cutM l).1, (cutM l).2, ()) := by
  have h1 : ((⟨#[45]⟩ : ByteArray).size : Int) = 1 := rfl
  have h2 : (⟨#[45]⟩ : ByteArray) = mk [45] := rfl
  have hs : (mk l).size = l.length := rfl
  simp only [S.strings_CutPrefix, L.strings_CutPrefix, S.internal_stringslite_CutPrefix, L.internal_stringslite_CutPrefix, S.internal_stringslite_HasPrefix, L.internal_stringslite_HasPrefix]
  cases l with
  | nil => rw [cf (by rw [hs]; decide)]; rfl
  | cons b l =>
    rw [hs, List.length_cons, ct (by omega), ct (by omega), ct (by omega), mk_extract, h2, mk_beq]
    have ht : (((b :: l).take ((mk [45]).size : Int).toNat).drop 0) = [b] := rfl
    rw [ht]
    by_cases hb : b = 45
    · subst hb
      rw [decide_eq_true rfl]
      simp only [Option.bind_some, Bool.not_true, cond_false]
      have h3 : ((mk [45]).size : Int) = 1 := rfl
      rw [ct (by omega), ct (by omega), mk_extract, h3]
      have : ((45 :: l).take (((l.length + 1 : Nat) : Int)).toNat).drop (1 : Int).toNat = l := by
        rw [Int.toNat_natCast, show l.length + 1 = (45 :: l).length from rfl, List.take_length]; rfl
      rw [this]; rfl
    · rw [decide_eq_false (by intro h; apply hb; injection h)]
      simp only [Option.bind_some, Bool.not_false, cond_true, cutM, if_neg hb]
/-- whole.Parse -/
def whole_Parse (s : ByteArray) : Option ((Bool × (List Int) × Unit) × Int × Unit) :=
  (S.strings_CutPrefix (s, (⟨#[45]⟩ : ByteArray), ())).bind fun z1 =>
  (S.digits_Parse (z1.1, ())).bind fun z2 =>
  cond (!(decide (z2.2.1 = 0))) (some ((false, [], ()), z2.2.1, ()))
    (
      (S.whole_of (z1.2.1, z2.1, ())).bind fun z3 =>
      some ((z3.1.1, z3.1.2.1, ()), 0, ()))

def S.whole_Parse (x : ByteArray × Unit) : Option ((Bool × List Int × Unit) × Int × Unit) := L.whole_Parse x.1
/-- What is read of a text as a whole number. -/
def wparse (l : List UInt8) : (Bool × List Int × Unit) × Int × Unit :=
  if (parseL (cutM l).1).2.1 = 0 then (I (sg (cutM l).2 (numB (cutM l).1)), 0, ()) else ((false, [], ()), (parseL (cutM l).1).2.1, ())
theorem parseL_zero {l : List UInt8} (h : (parseL l).2.1 = 0) : parseL l = (D (numB l), 0, ()) ∧ l ≠ [] ∧ l.all isdig = true ∧ l.length ≤ 4900 := by
  unfold parseL at h ⊢
  split at h
  · simp at h
  · rename_i hh
    split at h
    · simp at h
    · rename_i h2
      rw [if_neg hh, if_neg h2]
      refine ⟨rfl, fun e => hh (.inl e), ?_, by omega⟩
      cases hq : l.all isdig with
      | true => rfl
      | false => exact absurd (.inr hq) hh
theorem cutM_len (l : List UInt8) : (cutM l).1.length ≤ l.length := by
  cases l with
  | nil => simp [cutM]
  | cons b l => simp only [cutM]; split <;> simp
theorem whole_Parse_mk {l : List UInt8} (h : l.length < 9223372036854775807) : S.whole_Parse (mk l, ()) = some (wparse l) := by
  have := cutM_len l
  simp only [S.whole_Parse, L.whole_Parse, CutPrefix_mk, Option.bind_some, Parse_mk (show (cutM l).1.length < 9223372036854775807 by omega)]
  unfold wparse
  by_cases h0 : (parseL (cutM l).1).2.1 = 0
  · rw [if_pos h0, decide_eq_true h0, Bool.not_true, cond_false, (parseL_zero h0).1, whole_of_D, Option.bind_some]
  · rw [if_neg h0, decide_eq_false h0, Bool.not_false, cond_true]
theorem parseL_dec {n : Nat} (h : n < P 508) : parseL ((decL n).map dbyte) = (D n, 0, ()) := by
  obtain ⟨h1, h2, h3, h4, h5⟩ := decL_props n
  have hd := numB_dec (decL n) h2
  unfold parseL
  rw [if_neg, if_neg, hd.1, h1]
  · rw [List.length_map]
    by_cases h0 : n = 0
    · subst h0; decide
    · have := (h5 h0).1
      have h : 10 ^ ((decL n).length - 1) < 10 ^ 4895 := Nat.lt_of_le_of_lt this (Nat.lt_of_lt_of_le h (by unfold P; decide +kernel))
      have := (Nat.pow_lt_pow_iff_right (show 1 < 10 by decide)).1 h
      omega
  · intro h
    rcases h with h | h
    · have := congrArg List.length h
      rw [List.length_map, List.length_nil] at this; omega
    · rw [hd.2] at h; cases h
theorem cutM_dec (n : Nat) : cutM ((decL n).map dbyte) = ((decL n).map dbyte, false) := by
  obtain ⟨h1, h2, h3, h4, h5⟩ := decL_props n
  cases hx : decL n with
  | nil => rw [hx] at h3; simp at h3
  | cons x r =>
    have hx9 := h2 x (by rw [hx]; simp)
    rw [List.map_cons, cutM, if_neg]
    intro e
    have := congrArg UInt8.toNat e
    rw [dbyte_nat hx9, show (45 : UInt8).toNat = 45 from rfl] at this
    omega
theorem wparse_intL {z : Int} (h : z.natAbs < P 508) : wparse (intL z) = (I z, 0, ()) := by
  have hd := numB_dec (decL z.natAbs) (decL_props z.natAbs).2.1
  rw [(decL_props z.natAbs).1] at hd
  unfold wparse intL
  by_cases h0 : z < 0
  · rw [if_pos h0]
    have e : cutM (45 :: (decL z.natAbs).map dbyte) = ((decL z.natAbs).map dbyte, true) := by simp [cutM]
    rw [e, parseL_dec h, if_pos rfl, hd.1]
    have : sg true z.natAbs = z := by show -((z.natAbs : Nat) : Int) = _; omega
    rw [this]
  · rw [if_neg h0, cutM_dec, parseL_dec h, if_pos rfl, hd.1]
    have : sg false z.natAbs = z := by show ((z.natAbs : Nat) : Int) = _; omega
    rw [this]
end Go.L

/-! YB -/
namespace Go.L
open Go.PM
set_option exponentiation.threshold 20000
set_option linter.unusedVariables false
set_option linter.unusedSimpArgs false

theorem nA_add {a b : Int} {k : Nat} (ha : a.natAbs < P k) (hb : b.natAbs < P k) : (a + b).natAbs < P (k + 1) := Nat.lt_of_le_of_lt (Int.natAbs_add_le a b) (P_sum ha hb)
theorem nA_mul {a b : Int} {j k : Nat} (ha : a.natAbs < P j) (hb : b.natAbs < P k) : (a * b).natAbs < P (j + k) := by rw [Int.natAbs_mul]; exact P_mul ha hb
theorem nA_up {a : Int} {j k : Nat} (ha : a.natAbs < P j) (h : j ≤ k) : a.natAbs < P k := Nat.lt_of_lt_of_le ha (P_mono h)

end Go.L
