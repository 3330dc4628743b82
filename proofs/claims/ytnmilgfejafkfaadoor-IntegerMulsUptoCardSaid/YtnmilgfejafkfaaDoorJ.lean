/-
  whole numbers: sums, texts; the laws of whole numbers. the laws of whole numbers.
  No condition beyond those that each theorem names.
-/
import Derived.Test.YtnmilgfejafkfaaDoorI
import Derived.Test.YtnmilgfejafkfaaDoorH

/-! YA -/
namespace Go.L
open Go.PM
set_option exponentiation.threshold 20000
set_option linter.unusedVariables false
set_option linter.unusedSimpArgs false

theorem sgt (n : Nat) : sg true n = -(n : Int) := rfl
theorem sgf (n : Nat) : sg false n = n := rfl
/-- whole.Abs -/
def whole_Abs (a : Bool × (List Int) × Unit) : Option ((Bool × (List Int) × Unit) × Unit) :=
  (S.slices_Clone_api_Nat_uint32 (a.2.1, ())).bind fun z1 =>
  (S.whole_of (false, z1.1, ())).bind fun z2 =>
  some ((z2.1.1, z2.1.2.1, ()), ())

def S.whole_Abs (x : (Bool × List Int × Unit) × Unit) : Option ((Bool × List Int × Unit) × Unit) := L.whole_Abs x.1
theorem whole_Abs_I {z : Int} (h : z.natAbs < P 1000) : S.whole_Abs (I z, ()) = some (I (z.natAbs : Int), ()) := by
  simp only [S.whole_Abs, L.whole_Abs]
  rw [Clone_D h, Option.bind_some]
  simp only [whole_of_D, Option.bind_some]
  rfl
/-- whole.Same -/
def whole_Same (a : Bool × (List Int) × Unit) (b : Bool × (List Int) × Unit) : Option (Bool × Unit) :=
  (S.whole_Compare ((a.1, a.2.1, ()), (b.1, b.2.1, ()), ())).bind fun z1 =>
  some (decide (z1.1 = 0), ())

def S.whole_Same (x : (Bool × List Int × Unit) × (Bool × List Int × Unit) × Unit) : Option (Bool × Unit) := L.whole_Same x.1 x.2.1
theorem whole_Same_I {a b : Int} (ha : a.natAbs < P 1000) (hb : b.natAbs < P 1000) : S.whole_Same (I a, I b, ()) = some (decide (a = b), ()) := by
  simp only [S.whole_Same, L.whole_Same]
  rw [whole_Compare_I ha hb, Option.bind_some]
  congr 2
  have : sgn a b = 0 ↔ a = b := by
    unfold sgn
    by_cases h1 : a < b
    · rw [if_pos h1]; constructor <;> intro h <;> omega
    · rw [if_neg h1]
      by_cases h2 : b < a
      · rw [if_pos h2]; constructor <;> intro h <;> omega
      · rw [if_neg h2]; constructor <;> intro h <;> omega
  simp only [this]
/-- whole.Add -/
def whole_Add (a : Bool × (List Int) × Unit) (b : Bool × (List Int) × Unit) : Option ((Bool × (List Int) × Unit) × Int × Unit) :=
  cond ((a.1 == b.1))
    (
      (S.limbs_Add (a.2.1, b.2.1, ())).bind fun z1 =>
      (S.whole_of (a.1, z1.1, ())).bind fun z2 =>
      some ((z2.1.1, z2.1.2.1, ()), z1.2.1, ()))
    (
      (S.limbs_Compare (a.2.1, b.2.1, ())).bind fun z3 =>
      cond (decide (z3.1 < 0))
        (
          (S.limbs_Sub (b.2.1, a.2.1, ())).bind fun z4 =>
          (S.whole_of (b.1, z4.1, ())).bind fun z5 =>
          some ((z5.1.1, z5.1.2.1, ()), z4.2.1, ()))
        (
          (S.limbs_Sub (a.2.1, b.2.1, ())).bind fun z6 =>
          (S.whole_of (a.1, z6.1, ())).bind fun z7 =>
          some ((z7.1.1, z7.1.2.1, ()), z6.2.1, ())))

def S.whole_Add (x : (Bool × List Int × Unit) × (Bool × List Int × Unit) × Unit) : Option ((Bool × List Int × Unit) × Int × Unit) := L.whole_Add x.1 x.2.1
theorem sgn_nat (a b : Nat) : (sgn (a : Int) (b : Int) < 0) ↔ a < b := by
  unfold sgn
  by_cases h1 : (a : Int) < b
  · rw [if_pos h1]; constructor <;> intro h <;> omega
  · rw [if_neg h1]; split <;> constructor <;> intro h <;> omega
theorem whole_Add_I {a b : Int} {k : Nat} (ha : a.natAbs < P k) (hb : b.natAbs < P k) (hk : k + 1 ≤ 512) : S.whole_Add (I a, I b, ()) = some (I (a + b), 0, ()) := by
  have a1 := P1000 ha (by omega)
  have b1 := P1000 hb (by omega)
  have hs := P40 (P_sum ha hb) hk
  simp only [S.whole_Add, L.whole_Add]
  by_cases h : (a < 0 ↔ b < 0)
  · rw [show (decide (a < 0) == decide (b < 0)) = true by simp [h], cond_true, Add_D a1 b1, Option.bind_some, res_in hs]
    simp only [whole_of_D, Option.bind_some]
    have : sg (decide (a < 0)) (a.natAbs + b.natAbs) = a + b := by
      by_cases h0 : a < 0
      · rw [decide_eq_true h0, sgt]; have := h.1 h0; omega
      · rw [decide_eq_false h0, sgf]; have : ¬ b < 0 := fun e => h0 (h.2 e); omega
    rw [this]
  · rw [show (decide (a < 0) == decide (b < 0)) = false by
      by_cases h1 : a < 0 <;> by_cases h2 : b < 0 <;> simp_all, cond_false, Cmp_D a1 b1, Option.bind_some]
    simp only
    by_cases hlt : a.natAbs < b.natAbs
    · rw [ct ((sgn_nat _ _).2 hlt), Sub_D b1 a1, if_neg (by omega), res_in (by omega), Option.bind_some]
      simp only [whole_of_D, Option.bind_some]
      have : sg (decide (b < 0)) (b.natAbs - a.natAbs) = a + b := by
        by_cases h0 : b < 0
        · rw [decide_eq_true h0, sgt]; have : ¬ a < 0 := fun e => h ⟨fun _ => h0, fun _ => e⟩; omega
        · rw [decide_eq_false h0, sgf]; omega
      rw [this]
    · rw [cf (fun e => hlt ((sgn_nat _ _).1 e)), Sub_D a1 b1, if_neg (by omega), res_in (by omega), Option.bind_some]
      simp only [whole_of_D, Option.bind_some]
      have : sg (decide (a < 0)) (a.natAbs - b.natAbs) = a + b := by
        by_cases h0 : a < 0
        · rw [decide_eq_true h0, sgt]; have : ¬ b < 0 := fun e => h ⟨fun _ => e, fun _ => h0⟩; omega
        · rw [decide_eq_false h0, sgf]
          by_cases h2 : b < 0
          · omega
          · exact absurd ⟨fun e => absurd e h0, fun e => absurd e h2⟩ h
      rw [this]
/-- whole.Sub -/
def whole_Sub (a : Bool × (List Int) × Unit) (b : Bool × (List Int) × Unit) : Option ((Bool × (List Int) × Unit) × Int × Unit) :=
  (S.whole_of (!b.1, b.2.1, ())).bind fun z1 =>
  (S.whole_Add ((a.1, a.2.1, ()), (z1.1.1, z1.1.2.1, ()), ())).bind fun z2 =>
  some ((z2.1.1, z2.1.2.1, ()), z2.2.1, ())

def S.whole_Sub (x : (Bool × List Int × Unit) × (Bool × List Int × Unit) × Unit) : Option ((Bool × List Int × Unit) × Int × Unit) := L.whole_Sub x.1 x.2.1
theorem whole_Sub_I {a b : Int} {k : Nat} (ha : a.natAbs < P k) (hb : b.natAbs < P k) (hk : k + 1 ≤ 512) : S.whole_Sub (I a, I b, ()) = some (I (a - b), 0, ()) := by
  simp only [S.whole_Sub, L.whole_Sub]
  rw [whole_of_D, Option.bind_some, sg_neg]
  have := whole_Add_I (a := a) (b := -b) ha (by rwa [Int.natAbs_neg]) hk
  simp only
  rw [this, Int.sub_eq_add_neg]; rfl
/-- whole_Sum: one round of loop 0. -/
def whole_Sum_s0 (κ0 : Bool → (List Int) → Bool → (List Int) → (List (Bool × (List Int) × Unit)) → Int → Int → Option ((Bool × (List Int) × Unit) × Int × Unit)) (t2_0 : Bool) (t2_1 : List Int) (out_0 : Bool) (out_1 : List Int) (t8 : List (Bool × (List Int) × Unit)) (t9 : Int) (t10 : Int) : Option ((Bool × (List Int) × Unit) × Int × Unit) :=
  cond (decide (t10 < t9))
    (
      cond (decide (0 ≤ t10))
        (
          cond (decide (t10 < (t8.length : Int)))
            (
              let z1 := t8.getD t10.toNat (false, ([], ()))
              (S.whole_Add ((out_0, out_1, ()), (z1.1, z1.2.1, ()), ())).bind fun z2 =>
              cond (!(decide (z2.2.1 = 0))) (some ((false, [], ()), z2.2.1, ())) (κ0 t2_0 t2_1 z2.1.1 z2.1.2.1 t8 t9 (IntKind.i64.wrap (t10 + 1)))) none) none) (some ((out_0, out_1, ()), 0, ()))

def whole_Sum_l0 (K : Nat) : Nat → Bool → (List Int) → Bool → (List Int) → (List (Bool × (List Int) × Unit)) → Int → Int → Option ((Bool × (List Int) × Unit) × Int × Unit)
  | 0, _, _, _, _, _, _, _ => none
  | n + 1, t2_0, t2_1, out_0, out_1, t8, t9, t10 => whole_Sum_s0 (whole_Sum_l0 K n) t2_0 t2_1 out_0 out_1 t8 t9 t10

/-- whole.Sum -/
def whole_Sum_b (I0 : Bool → (List Int) → Bool → (List Int) → (List (Bool × (List Int) × Unit)) → Int → Int → Option ((Bool × (List Int) × Unit) × Int × Unit)) (list : List (Bool × (List Int) × Unit)) : Option ((Bool × (List Int) × Unit) × Int × Unit) :=
  I0 false [] false [] list (list.length : Int) 0

def whole_Sum (K : Nat) (list : List (Bool × (List Int) × Unit)) : Option ((Bool × (List Int) × Unit) × Int × Unit) := whole_Sum_b (whole_Sum_l0 K K) list

def sumO (acc : Bool × List Int × Unit) : List (Bool × List Int × Unit) → Option ((Bool × List Int × Unit) × Int × Unit)
  | [] => some (acc, 0, ())
  | x :: l => (S.whole_Add (acc, x, ())).bind fun z => if z.2.1 = 0 then sumO z.1 l else some ((false, [], ()), z.2.1, ())
def S.whole_Sum (x : List (Bool × List Int × Unit) × Unit) : Option ((Bool × List Int × Unit) × Int × Unit) := if x.1.length ≤ 1000000 then sumO (false, [], ()) x.1 else none
theorem sum_loop (K : Nat) (l : List (Bool × List Int × Unit)) (hl : l.length ≤ 1000000) (b0 : Bool) (l0 : List Int) : ∀ (r i n : Nat) (acc : Bool × List Int × Unit), i + r = l.length → r < n →
    whole_Sum_l0 K n b0 l0 acc.1 acc.2.1 l (l.length : Int) (i : Int) = sumO acc (l.drop i) := by
  intro r
  induction r with
  | zero =>
    intro i n acc h hn
    obtain ⟨n, rfl⟩ := Nat.exists_eq_succ_of_ne_zero (by omega : n ≠ 0)
    simp only [whole_Sum_l0, whole_Sum_s0]
    rw [cf (by omega), List.drop_eq_nil_of_le (by omega)]; rfl
  | succ r ih =>
    intro i n acc h hn
    obtain ⟨n, rfl⟩ := Nat.exists_eq_succ_of_ne_zero (by omega : n ≠ 0)
    have hi : i < l.length := by omega
    simp only [whole_Sum_l0, whole_Sum_s0]
    rw [ct (by omega), ct (by omega), ct (by omega), List.drop_eq_getElem_cons hi, Int.toNat_natCast]
    have hg : l.getD i (false, ([], ())) = l[i] := by rw [List.getD_eq_getElem?_getD, List.getElem?_eq_getElem hi]; rfl
    rw [hg]
    simp only [sumO]
    have e1 : ((acc.1, acc.2.1, ()) : Bool × List Int × Unit) = acc := rfl
    have e2 : ((l[i].1, l[i].2.1, ()) : Bool × List Int × Unit) = l[i] := rfl
    rw [e1, e2]
    cases hz : S.whole_Add (acc, l[i], ()) with
    | none => rfl
    | some z =>
      simp only [Option.bind_some]
      by_cases h0 : z.2.1 = 0
      · rw [if_pos h0, decide_eq_true h0, Bool.not_true, cond_false, wi64 (by omega) (by omega)]
        exact ih (i + 1) n z.1 (by omega) (by omega)
      · rw [if_neg h0, decide_eq_false h0, Bool.not_false, cond_true]
theorem whole_Sum_ok (x : List (Bool × List Int × Unit) × Unit) (y : (Bool × List Int × Unit) × Int × Unit) (h : S.whole_Sum x = some y) : ∃ K, whole_Sum K x.1 = some y := by
  unfold S.whole_Sum at h
  split at h
  · rename_i hl
    refine ⟨x.1.length + 1, ?_⟩
    rw [← h]
    exact sum_loop _ x.1 hl false [] x.1.length 0 _ (false, [], ()) (by omega) (by omega)
  · cases h
theorem Sum_eq {l : List (Bool × List Int × Unit)} (h : l.length ≤ 1000000) : S.whole_Sum (l, ()) = sumO (I 0) l := by
  simp only [S.whole_Sum]
  rw [if_pos h]; rfl
theorem sumO_cons {a b : Int} {k : Nat} {l : List (Bool × List Int × Unit)} (ha : a.natAbs < P k) (hb : b.natAbs < P k) (hk : k + 1 ≤ 512) : sumO (I a) (I b :: l) = sumO (I (a + b)) l := by
  rw [sumO, whole_Add_I ha hb hk, Option.bind_some]; rfl
/-- whole.Small -/
def whole_Small (a : Bool × (List Int) × Unit) : Option (Int × Int × Unit) :=
  (S.limbs_Small (a.2.1, ())).bind fun z1 =>
  cond (!(decide (z1.2.1 = 0))) (some (0, z1.2.1, ()))
    (
      cond (a.1)
        (
          cond (decide (z1.1 ≤ 9223372036854775808)) (some ((IntKind.i64.wrap (0 - (IntKind.i64.wrap z1.1))), 0, ()))
            (
              cond (!a.1)
                (
                  cond (decide (z1.1 < 9223372036854775808)) (some ((IntKind.i64.wrap z1.1), 0, ())) (some (0, 11, ()))) (some (0, 11, ()))))
        (
          cond (!a.1)
            (
              cond (decide (z1.1 < 9223372036854775808)) (some ((IntKind.i64.wrap z1.1), 0, ())) (some (0, 11, ()))) (some (0, 11, ()))))

def S.whole_Small (x : (Bool × List Int × Unit) × Unit) : Option (Int × Int × Unit) := L.whole_Small x.1
theorem whole_Small_I {z : Int} (h : z.natAbs < P 1000) : S.whole_Small (I z, ()) = some (if -9223372036854775808 ≤ z ∧ z < 9223372036854775808 then (z, 0, ()) else (0, 11, ())) := by
  simp only [S.whole_Small, L.whole_Small]
  rw [Small_D h, Option.bind_some]
  have hd := dlen_lt z.natAbs
  by_cases h2 : 2 < (D z.natAbs).length
  · have : P 2 ≤ z.natAbs := by
      rcases Nat.lt_or_ge z.natAbs (P 2) with h | h
      · have := dlen h; omega
      · exact h
    rw [P_2] at this
    rw [if_pos h2, if_neg (by omega)]; rfl
  · have : z.natAbs < P 2 := Nat.lt_of_lt_of_le hd (P_mono (by omega))
    rw [P_2] at this
    rw [if_neg h2]
    simp only [decide_true, Bool.not_true, cond_false]
    by_cases h0 : z < 0
    · rw [decide_eq_true h0, cond_true]
      by_cases h1 : z.natAbs ≤ 9223372036854775808
      · rw [ct (by omega), if_pos (by omega)]
        congr 2
        by_cases h3 : z.natAbs = 9223372036854775808
        · rw [show (z.natAbs : Int) = 9223372036854775808 by omega, show IntKind.i64.wrap 9223372036854775808 = -9223372036854775808 by decide, show IntKind.i64.wrap (0 - -9223372036854775808) = -9223372036854775808 by decide]; omega
        · rw [wi64 (x := (z.natAbs : Int)) (by omega) (by omega), wi64 (by omega) (by omega)]; omega
      · rw [cf (by omega), Bool.not_true, cond_false, if_neg (by omega)]
    · rw [decide_eq_false h0, cond_false, Bool.not_false, cond_true]
      by_cases h1 : z.natAbs < 9223372036854775808
      · rw [ct (by omega), if_pos (by omega), wi64 (by omega) (by omega)]
        congr 2; omega
      · rw [cf (by omega), if_neg (by omega)]
theorem whole_Right_I {a : Int} {n : Nat} (ha : a.natAbs < P 511) (hn : n < 9223372036854775808) : S.whole_Right (I a, (n : Int), ()) = some (I (a / 2 ^ n), 0, ()) := by
  have a5 := P40 ha (by decide)
  have hp := Nat.pow_pos (n := n) (show 0 < 2 by decide)
  simp only [S.whole_Right, L.whole_Right]
  rw [Right_D a5 hn, Option.bind_some]
  simp only [decide_true, Bool.not_true, cond_false, whole_of_D, Option.bind_some]
  have hc : ((2 : Int) ^ n) = ((2 ^ n : Nat) : Int) := pow_cast n
  rw [hc]
  by_cases h0 : a < 0
  · rw [decide_eq_true h0, Bool.not_true, cond_false]
    have hA0 : a.natAbs ≠ 0 := by omega
    obtain ⟨t, ht, htail⟩ := Tail_D (P1000 ha (by decide)) hA0
    rw [ht, Option.bind_some]
    have hdm := Nat.div_add_mod a.natAbs (2 ^ n)
    have hlt := Nat.mod_lt a.natAbs hp
    obtain ⟨q, hq⟩ : ∃ q, a.natAbs / 2 ^ n = q := ⟨_, rfl⟩
    obtain ⟨r, hr⟩ : ∃ r, a.natAbs % 2 ^ n = r := ⟨_, rfl⟩
    rw [hq, hr] at hdm
    rw [hr] at hlt
    rw [hq]
    have hdmi : ((2 ^ n : Nat) : Int) * q + r = a.natAbs := by have := congrArg (Nat.cast (R := Int)) hdm; simpa using this
    have key : ∀ (Q R : Int), R + ((2 ^ n : Nat) : Int) * Q = a → 0 ≤ R → R < ((2 ^ n : Nat) : Int) → a / ((2 ^ n : Nat) : Int) = Q := fun Q R e1 e2 e3 =>
      ((Int.ediv_emod_unique (a := a) (b := ((2 ^ n : Nat) : Int)) (r := R) (q := Q) (by omega)).2 ⟨e1, e2, e3⟩).1
    by_cases hnt : n ≤ t
    · rw [ct (by omega)]
      have hdvd : 2 ^ n ∣ a.natAbs := Nat.dvd_trans (Nat.pow_dvd_pow 2 hnt) (Nat.dvd_of_mod_eq_zero htail.1)
      have hr0 : r = 0 := by rw [← hr]; exact Nat.mod_eq_zero_of_dvd hdvd
      rw [key (-(q : Int)) 0 (by rw [Int.mul_neg]; omega) (by omega) (by omega)]
      rfl
    · rw [cf (by omega), Of_one, Option.bind_some]
      have hq5 : q < P 511 := by rw [← hq]; exact Nat.lt_of_le_of_lt (Nat.div_le_self _ _) ha
      have hs : q + 1 < P 512 := P_sum hq5 (P_one 511 (by decide))
      have hr0 : r ≠ 0 := by
        intro e
        have hdvd : 2 ^ n ∣ a.natAbs := Nat.dvd_of_mod_eq_zero (hr.trans e)
        have hdvd : 2 ^ (t + 1) ∣ a.natAbs := Nat.dvd_trans (Nat.pow_dvd_pow 2 (by omega)) hdvd
        exact htail.2 (Nat.mod_eq_zero_of_dvd hdvd)
      simp only
      rw [Add_D (P1000 hq5 (by decide)) (P_one 1000 (by decide)), Option.bind_some, res_in hs]
      simp only [whole_of_D, Option.bind_some]
      rw [key (-(q : Int) - 1) (((2 ^ n : Nat) : Int) - r) (by rw [Int.mul_sub, Int.mul_neg, Int.mul_one]; omega) (by omega) (by omega)]
      have : sg true (q + 1) = -(q : Int) - 1 := by show -((q + 1 : Nat) : Int) = _; omega
      rw [this]
  · rw [decide_eq_false h0, Bool.not_false, cond_true]
    have : sg false (a.natAbs / 2 ^ n) = a / ((2 ^ n : Nat) : Int) := by
      show ((a.natAbs / 2 ^ n : Nat) : Int) = _
      rw [Int.natCast_ediv, Int.natAbs_of_nonneg (by omega)]
    rw [this]
/-- whole.Text -/
def whole_Text (a : Bool × (List Int) × Unit) : Option (ByteArray × Unit) :=
  cond (a.1)
    (
      (S.digits_Text (a.2.1, ())).bind fun z1 =>
      cond (decide ((⟨#[45]⟩ : ByteArray).size + z1.1.size ≤ 9223372036854775807)) (some (((⟨#[45]⟩ : ByteArray) ++ z1.1), ())) none)
    (
      (S.digits_Text (a.2.1, ())).bind fun z3 =>
      some (z3.1, ()))

def S.whole_Text (x : (Bool × List Int × Unit) × Unit) : Option (ByteArray × Unit) := L.whole_Text x.1
/-- A whole number's text. -/
def intL (z : Int) : List UInt8 := if z < 0 then 45 :: (decL z.natAbs).map dbyte else (decL z.natAbs).map dbyte
theorem decL_len {n : Nat} (h : n < P 512) : 1 ≤ (decL n).length ∧ (decL n).length ≤ 5000 := by
  obtain ⟨h1, h2, h3, h4, h5⟩ := decL_props n
  refine ⟨h3, ?_⟩
  by_cases h0 : n = 0
  · subst h0; decide
  · have := (h5 h0).1
    have h : 10 ^ ((decL n).length - 1) < 10 ^ 4933 := Nat.lt_of_le_of_lt this (Nat.lt_of_lt_of_le h (by unfold P; decide +kernel))
    have := (Nat.pow_lt_pow_iff_right (show 1 < 10 by decide)).1 h
    omega
theorem whole_Text_I {z : Int} (h : z.natAbs < P 512) : S.whole_Text (I z, ()) = some (mk (intL z), ()) := by
  simp only [S.whole_Text, L.whole_Text]
  rw [Text_D h]
  simp only [Option.bind_some]
  have hl := decL_len h
  have hs := decS_size z.natAbs
  have h1 : (⟨#[45]⟩ : ByteArray).size = 1 := rfl
  unfold intL
  by_cases h0 : z < 0
  · rw [decide_eq_true h0, cond_true, ct (by omega), if_pos h0, decS, show (⟨#[45]⟩ : ByteArray) = mk [45] from rfl, mk_append]; rfl
  · rw [decide_eq_false h0, cond_false, if_neg h0]; rfl
/-- internal/stringslite.HasPrefix -/
def internal_stringslite_HasPrefix (s : ByteArray) (prefix_ : ByteArray) : Option (Bool × Unit) :=
  cond (decide ((prefix_.size : Int) ≤ (s.size : Int)))
    (
      cond (decide (0 ≤ (prefix_.size : Int)))
        (
          cond (decide ((prefix_.size : Int) ≤ (s.size : Int))) (some (((s.extract 0 ((prefix_.size : Int).toNat)).toList == prefix_.toList), ())) none) none) (some (false, ()))

def S.internal_stringslite_HasPrefix (x : ByteArray × ByteArray × Unit) : Option (Bool × Unit) := L.internal_stringslite_HasPrefix x.1 x.2.1
/-- internal/stringslite.CutPrefix -/
def internal_stringslite_CutPrefix (s : ByteArray) (prefix_ : ByteArray) : Option (ByteArray × Bool × Unit) :=
  (S.internal_stringslite_HasPrefix (s, prefix_, ())).bind fun z1 =>
  cond (!z1.1) (some (s, false, ()))
    (
      cond (decide (0 ≤ (prefix_.size : Int)))
        (
          cond (decide ((prefix_.size : Int) ≤ (s.size : Int))) (some ((s.extract ((prefix_.size : Int).toNat) ((s.size : Int).toNat)), true, ())) none) none)

def S.internal_stringslite_CutPrefix (x : ByteArray × ByteArray × Unit) : Option (ByteArray × Bool × Unit) := L.internal_stringslite_CutPrefix x.1 x.2.1
/-- strings.CutPrefix -/
def strings_CutPrefix (s : ByteArray) (prefix_ : ByteArray) : Option (ByteArray × Bool × Unit) :=
  (S.internal_stringslite_CutPrefix (s, prefix_, ())).bind fun z1 =>
  some (z1.1, z1.2.1, ())

def S.strings_CutPrefix (x : ByteArray × ByteArray × Unit) : Option (ByteArray × Bool × Unit) := L.strings_CutPrefix x.1 x.2.1
def cutM : List UInt8 → List UInt8 × Bool
  | [] => ([], false)
  | b :: l => if b = 45 then (l, true) else (b :: l, false)
theorem CutPrefix_mk (l : List UInt8) : S.strings_CutPrefix (mk l, (⟨#[45]⟩ : ByteArray), ()) = some (mk (cutM l).1, (cutM l).2, ()) := by
  have h1 : ((⟨#[45]⟩ : ByteArray).size : Int) = 1 := rfl
  have h2 : (⟨#[45]⟩ : ByteArray) = mk [45] := rfl
  have hs : (mk l).size = l.length := rfl
  simp only [S.strings_CutPrefix, L.strings_CutPrefix, S.internal_stringslite_CutPrefix, L.internal_stringslite_CutPrefix, S.internal_stringslite_HasPrefix, L.internal_stringslite_HasPrefix]
  cases l with
  | nil => rw [cf (by rw [hs]; decide)]; rfl
  | cons b l =>
    rw [hs, List.length_cons, ct (by omega), ct (by omega), ct (by omega), mk_extract, h2, mk_beq]
    have ht : (((b :: l).take ((mk [45]).size : Int).toNat).drop 0) = [b] := rfl
    rw [ht]
    by_cases hb : b = 45
    · subst hb
      rw [decide_eq_true rfl]
      simp only [Option.bind_some, Bool.not_true, cond_false]
      have h3 : ((mk [45]).size : Int) = 1 := rfl
      rw [ct (by omega), ct (by omega), mk_extract, h3]
      have : ((45 :: l).take (((l.length + 1 : Nat) : Int)).toNat).drop (1 : Int).toNat = l := by
        rw [Int.toNat_natCast, show l.length + 1 = (45 :: l).length from rfl, List.take_length]; rfl
      rw [this]; rfl
    · rw [decide_eq_false (by intro h; apply hb; injection h)]
      simp only [Option.bind_some, Bool.not_false, cond_true, cutM, if_neg hb]
/-- whole.Parse -/
def whole_Parse (s : ByteArray) : Option ((Bool × (List Int) × Unit) × Int × Unit) :=
  (S.strings_CutPrefix (s, (⟨#[45]⟩ : ByteArray), ())).bind fun z1 =>
  (S.digits_Parse (z1.1, ())).bind fun z2 =>
  cond (!(decide (z2.2.1 = 0))) (some ((false, [], ()), z2.2.1, ()))
    (
      (S.whole_of (z1.2.1, z2.1, ())).bind fun z3 =>
      some ((z3.1.1, z3.1.2.1, ()), 0, ()))

def S.whole_Parse (x : ByteArray × Unit) : Option ((Bool × List Int × Unit) × Int × Unit) := L.whole_Parse x.1
/-- What is read of a text as a whole number. -/
def wparse (l : List UInt8) : (Bool × List Int × Unit) × Int × Unit :=
  if (parseL (cutM l).1).2.1 = 0 then (I (sg (cutM l).2 (numB (cutM l).1)), 0, ()) else ((false, [], ()), (parseL (cutM l).1).2.1, ())
theorem parseL_zero {l : List UInt8} (h : (parseL l).2.1 = 0) : parseL l = (D (numB l), 0, ()) ∧ l ≠ [] ∧ l.all isdig = true ∧ l.length ≤ 4900 := by
  unfold parseL at h ⊢
  split at h
  · simp at h
  · rename_i hh
    split at h
    · simp at h
    · rename_i h2
      rw [if_neg hh, if_neg h2]
      refine ⟨rfl, fun e => hh (.inl e), ?_, by omega⟩
      cases hq : l.all isdig with
      | true => rfl
      | false => exact absurd (.inr hq) hh
theorem cutM_len (l : List UInt8) : (cutM l).1.length ≤ l.length := by
  cases l with
  | nil => simp [cutM]
  | cons b l => simp only [cutM]; split <;> simp
theorem whole_Parse_mk {l : List UInt8} (h : l.length < 9223372036854775807) : S.whole_Parse (mk l, ()) = some (wparse l) := by
  have := cutM_len l
  simp only [S.whole_Parse, L.whole_Parse, CutPrefix_mk, Option.bind_some, Parse_mk (show (cutM l).1.length < 9223372036854775807 by omega)]
  unfold wparse
  by_cases h0 : (parseL (cutM l).1).2.1 = 0
  · rw [if_pos h0, decide_eq_true h0, Bool.not_true, cond_false, (parseL_zero h0).1, whole_of_D, Option.bind_some]
  · rw [if_neg h0, decide_eq_false h0, Bool.not_false, cond_true]
theorem parseL_dec {n : Nat} (h : n < P 508) : parseL ((decL n).map dbyte) = (D n, 0, ()) := by
  obtain ⟨h1, h2, h3, h4, h5⟩ := decL_props n
  have hd := numB_dec (decL n) h2
  unfold parseL
  rw [if_neg, if_neg, hd.1, h1]
  · rw [List.length_map]
    by_cases h0 : n = 0
    · subst h0; decide
    · have := (h5 h0).1
      have h : 10 ^ ((decL n).length - 1) < 10 ^ 4895 := Nat.lt_of_le_of_lt this (Nat.lt_of_lt_of_le h (by unfold P; decide +kernel))
      have := (Nat.pow_lt_pow_iff_right (show 1 < 10 by decide)).1 h
      omega
  · intro h
    rcases h with h | h
    · have := congrArg List.length h
      rw [List.length_map, List.length_nil] at this; omega
    · rw [hd.2] at h; cases h
theorem cutM_dec (n : Nat) : cutM ((decL n).map dbyte) = ((decL n).map dbyte, false) := by
  obtain ⟨h1, h2, h3, h4, h5⟩ := decL_props n
  cases hx : decL n with
  | nil => rw [hx] at h3; simp at h3
  | cons x r =>
    have hx9 := h2 x (by rw [hx]; simp)
    rw [List.map_cons, cutM, if_neg]
    intro e
    have := congrArg UInt8.toNat e
    rw [dbyte_nat hx9, show (45 : UInt8).toNat = 45 from rfl] at this
    omega
theorem wparse_intL {z : Int} (h : z.natAbs < P 508) : wparse (intL z) = (I z, 0, ()) := by
  have hd := numB_dec (decL z.natAbs) (decL_props z.natAbs).2.1
  rw [(decL_props z.natAbs).1] at hd
  unfold wparse intL
  by_cases h0 : z < 0
  · rw [if_pos h0]
    have e : cutM (45 :: (decL z.natAbs).map dbyte) = ((decL z.natAbs).map dbyte, true) := by simp [cutM]
    rw [e, parseL_dec h, if_pos rfl, hd.1]
    have : sg true z.natAbs = z := by show -((z.natAbs : Nat) : Int) = _; omega
    rw [this]
  · rw [if_neg h0, cutM_dec, parseL_dec h, if_pos rfl, hd.1]
    have : sg false z.natAbs = z := by show ((z.natAbs : Nat) : Int) = _; omega
    rw [this]
end Go.L

/-! YB -/
namespace Go.L
open Go.PM
set_option exponentiation.threshold 20000
set_option linter.unusedVariables false
set_option linter.unusedSimpArgs false

/-- girdlelaw03.counts -/
def w03_counts  : Option (Bool × Unit) :=
  (S.whole_Of ((-7 : Int), ())).bind fun z1 =>
  (S.whole_Of (2, ())).bind fun z2 =>
  (S.whole_Div ((z1.1.1, z1.1.2.1, ()), (z2.1.1, z2.1.2.1, ()), ())).bind fun z3 =>
  (S.whole_Add ((z1.1.1, z1.1.2.1, ()), (z2.1.1, z2.1.2.1, ()), ())).bind fun z4 =>
  (S.whole_Mul ((z1.1.1, z1.1.2.1, ()), (z2.1.1, z2.1.2.1, ()), ())).bind fun z5 =>
  (S.whole_Sub ((z1.1.1, z1.1.2.1, ()), (z2.1.1, z2.1.2.1, ()), ())).bind fun z6 =>
  (S.whole_Parse ((⟨#[45, 49, 52]⟩ : ByteArray), ())).bind fun z7 =>
  (S.whole_Left ((z1.1.1, z1.1.2.1, ()), 2, ())).bind fun z8 =>
  (S.whole_Right ((z1.1.1, z1.1.2.1, ()), 1, ())).bind fun z9 =>
  (S.whole_Sum ([(z1.1.1, z1.1.2.1, ()), (z2.1.1, z2.1.2.1, ()), (z2.1.1, z2.1.2.1, ())], ())).bind fun z10 =>
  (S.whole_Small ((z3.1.1, z3.1.2.1, ()), ())).bind fun z11 =>
  cond (decide ((IntKind.i64.wrap ((IntKind.i64.wrap ((IntKind.i64.wrap ((IntKind.i64.wrap ((IntKind.i64.wrap ((IntKind.i64.wrap ((IntKind.i64.wrap ((IntKind.i64.wrap (z3.2.2.1 + z4.2.1)) + z5.2.1)) + z6.2.1)) + z7.2.1)) + z8.2.1)) + z9.2.1)) + z10.2.1)) + z11.2.1)) = 0))
    (
      cond (decide (z11.1 = (-4 : Int)))
        (
          (S.whole_Text ((z3.2.1.1, z3.2.1.2.1, ()), ())).bind fun z20 =>
          cond ((z20.1.toList == (⟨#[49]⟩ : ByteArray).toList))
            (
              (S.whole_Text ((z4.1.1, z4.1.2.1, ()), ())).bind fun z21 =>
              cond ((z21.1.toList == (⟨#[45, 53]⟩ : ByteArray).toList))
                (
                  (S.whole_Same ((z5.1.1, z5.1.2.1, ()), (z7.1.1, z7.1.2.1, ()), ())).bind fun z22 =>
                  cond (z22.1)
                    (
                      (S.whole_Text ((z6.1.1, z6.1.2.1, ()), ())).bind fun z23 =>
                      cond ((z23.1.toList == (⟨#[45, 57]⟩ : ByteArray).toList))
                        (
                          (S.whole_Text ((z8.1.1, z8.1.2.1, ()), ())).bind fun z24 =>
                          cond ((z24.1.toList == (⟨#[45, 50, 56]⟩ : ByteArray).toList))
                            (
                              (S.whole_Text ((z9.1.1, z9.1.2.1, ()), ())).bind fun z25 =>
                              cond ((z25.1.toList == (⟨#[45, 52]⟩ : ByteArray).toList))
                                (
                                  (S.whole_Text ((z10.1.1, z10.1.2.1, ()), ())).bind fun z26 =>
                                  cond ((z26.1.toList == (⟨#[45, 51]⟩ : ByteArray).toList))
                                    (
                                      (S.whole_Sign ((z1.1.1, z1.1.2.1, ()), ())).bind fun z27 =>
                                      cond (decide (z27.1 = (-1 : Int)))
                                        (
                                          (S.whole_Compare ((z1.1.1, z1.1.2.1, ()), (z2.1.1, z2.1.2.1, ()), ())).bind fun z28 =>
                                          cond (decide (z28.1 = (-1 : Int)))
                                            (
                                              (S.whole_Neg ((z1.1.1, z1.1.2.1, ()), ())).bind fun z29 =>
                                              (S.whole_Text ((z29.1.1, z29.1.2.1, ()), ())).bind fun z30 =>
                                              cond ((z30.1.toList == (⟨#[55]⟩ : ByteArray).toList))
                                                (
                                                  (S.whole_Abs ((z1.1.1, z1.1.2.1, ()), ())).bind fun z31 =>
                                                  (S.whole_Text ((z31.1.1, z31.1.2.1, ()), ())).bind fun z32 =>
                                                  cond ((z32.1.toList == (⟨#[55]⟩ : ByteArray).toList))
                                                    (
                                                      (S.limbs_Of (5, ())).bind fun z33 =>
                                                      (S.whole_Nat (z33.1, ())).bind fun z34 =>
                                                      (S.whole_Text ((z34.1.1, z34.1.2.1, ()), ())).bind fun z35 =>
                                                      cond ((z35.1.toList == (⟨#[53]⟩ : ByteArray).toList))
                                                        (
                                                          (S.whole_Check ((true, [], ()), ())).bind fun z36 =>
                                                          some (decide (z36.1 = 2), ())) (some (false, ()))) (some (false, ()))) (some (false, ()))) (some (false, ()))) (some (false, ()))) (some (false, ()))) (some (false, ()))) (some (false, ()))) (some (false, ()))) (some (false, ()))) (some (false, ()))) (some (false, ()))) (some (false, ()))) (some (false, ()))

def S.w03_counts (x : Unit) : Option (Bool × Unit) := L.w03_counts
theorem counts_true : S.w03_counts () = some (true, ()) := by
  simp only [S.w03_counts, L.w03_counts, toList_eq]
  decide +kernel
/-- w03_fit: one round of loop 0. -/
def w03_fit_s0 (κ0 : (List (Bool × (List Int) × Unit)) → Int → Int → Option (Bool × Unit)) (t5 : List (Bool × (List Int) × Unit)) (t6 : Int) (t7 : Int) : Option (Bool × Unit) :=
  cond (decide (t7 < t6))
    (
      cond (decide (0 ≤ t7))
        (
          cond (decide (t7 < (t5.length : Int)))
            (
              let z1 := t5.getD t7.toNat (false, ([], ()))
              cond (decide (30 < (z1.2.1.length : Int))) (some (false, ()))
                (
                  (S.whole_Check ((z1.1, z1.2.1, ()), ())).bind fun z2 =>
                  cond (!(decide (z2.1 = 0))) (some (false, ())) (κ0 t5 t6 (IntKind.i64.wrap (t7 + 1))))) none) none) (some (true, ()))

def w03_fit_l0 (K : Nat) : Nat → (List (Bool × (List Int) × Unit)) → Int → Int → Option (Bool × Unit)
  | 0, _, _, _ => none
  | n + 1, t5, t6, t7 => w03_fit_s0 (w03_fit_l0 K n) t5 t6 t7

/-- girdlelaw03.fit -/
def w03_fit_b (I0 : (List (Bool × (List Int) × Unit)) → Int → Int → Option (Bool × Unit)) (list : List (Bool × (List Int) × Unit)) : Option (Bool × Unit) :=
  I0 list (list.length : Int) 0

def w03_fit (K : Nat) (list : List (Bool × (List Int) × Unit)) : Option (Bool × Unit) := w03_fit_b (w03_fit_l0 K K) list

def fitI : List (Bool × List Int × Unit) → Option (Bool × Unit)
  | [] => some (true, ())
  | x :: l => if 30 < x.2.1.length then some (false, ()) else (S.whole_Check (x, ())).bind fun c => if c.1 = 0 then fitI l else some (false, ())
def S.w03_fit (x : List (Bool × List Int × Unit) × Unit) : Option (Bool × Unit) := if x.1.length ≤ 100 then fitI x.1 else none
theorem fitI_loop (K : Nat) (l : List (Bool × List Int × Unit)) (hl : l.length ≤ 100) : ∀ (r i n : Nat), i + r = l.length → r < n → w03_fit_l0 K n l (l.length : Int) (i : Int) = fitI (l.drop i) := by
  intro r
  induction r with
  | zero =>
    intro i n h hn
    obtain ⟨n, rfl⟩ := Nat.exists_eq_succ_of_ne_zero (by omega : n ≠ 0)
    simp only [w03_fit_l0, w03_fit_s0]
    rw [cf (by omega), List.drop_eq_nil_of_le (by omega)]; rfl
  | succ r ih =>
    intro i n h hn
    obtain ⟨n, rfl⟩ := Nat.exists_eq_succ_of_ne_zero (by omega : n ≠ 0)
    have hi : i < l.length := by omega
    simp only [w03_fit_l0, w03_fit_s0]
    rw [ct (by omega), ct (by omega), ct (by omega), List.drop_eq_getElem_cons hi, Int.toNat_natCast]
    have hg : l.getD i (false, ([], ())) = l[i] := by rw [List.getD_eq_getElem?_getD, List.getElem?_eq_getElem hi]; rfl
    rw [hg]
    simp only [fitI]
    have e2 : ((l[i].1, l[i].2.1, ()) : Bool × List Int × Unit) = l[i] := rfl
    rw [e2]
    by_cases h30 : 30 < l[i].2.1.length
    · rw [ct (by omega), if_pos h30]
    rw [cf (by omega), if_neg h30]
    cases hz : S.whole_Check (l[i], ()) with
    | none => rfl
    | some z =>
      simp only [Option.bind_some]
      by_cases h0 : z.1 = 0
      · rw [if_pos h0, decide_eq_true h0, Bool.not_true, cond_false, wi64 (by omega) (by omega)]
        exact ih (i + 1) n (by omega) (by omega)
      · rw [if_neg h0, decide_eq_false h0, Bool.not_false, cond_true]
theorem w03_fit_ok (x : List (Bool × List Int × Unit) × Unit) (y : Bool × Unit) (h : S.w03_fit x = some y) : ∃ K, w03_fit K x.1 = some y := by
  unfold S.w03_fit at h
  split at h
  · rename_i hl
    refine ⟨x.1.length + 1, ?_⟩
    rw [← h]
    exact fitI_loop _ x.1 hl x.1.length 0 _ (by omega) (by omega)
  · cases h
theorem fitI_or : ∀ l : List (Bool × List Int × Unit), (∀ x ∈ l, inI x) → fitI l = some (false, ()) ∨ fitI l = some (true, ()) ∧ ∀ x ∈ l, ∃ z : Int, x = I z ∧ z.natAbs < P 30
  | [], _ => .inr ⟨rfl, by simp⟩
  | x :: l, h => by
    simp only [fitI]
    by_cases h30 : 30 < x.2.1.length
    · left; rw [if_pos h30]
    rw [if_neg h30]
    have hx := h x (by simp)
    obtain ⟨c, hc⟩ := whole_Check_some hx
    rw [hc, Option.bind_some]
    by_cases h0 : c = 0
    · simp only [h0, if_true]
      rcases fitI_or l (fun q hq => h q (by simp [hq])) with e | ⟨e, hl⟩
      · exact .inl e
      · refine .inr ⟨e, ?_⟩
        intro q hq
        rcases List.mem_cons.1 hq with rfl | hq
        · subst h0
          obtain ⟨z, rfl, hz⟩ := whole_Check_in hx.2 hx.1 hc
          refine ⟨z, rfl, ?_⟩
          have h30 : (D z.natAbs).length ≤ 30 := Nat.le_of_not_lt h30
          exact Nat.lt_of_lt_of_le (dlen_lt z.natAbs) (P_mono h30)
        · exact hl q hq
    · left; simp only [h0, if_false]
theorem fitI1 {a : Bool × List Int × Unit} (ha : inI a) : S.w03_fit ([a], ()) = some (false, ()) ∨ S.w03_fit ([a], ()) = some (true, ()) ∧ ∃ x : Int, a = I x ∧ x.natAbs < P 30 := by
  rcases fitI_or [a] (by simpa using ha) with e | ⟨e, h⟩
  · exact .inl (by simp only [S.w03_fit]; rw [if_pos (by simp)]; exact e)
  · exact .inr ⟨by simp only [S.w03_fit]; rw [if_pos (by simp)]; exact e, h a (by simp)⟩
theorem fitI2 {a b : Bool × List Int × Unit} (ha : inI a) (hb : inI b) : S.w03_fit ([a, b], ()) = some (false, ()) ∨ S.w03_fit ([a, b], ()) = some (true, ()) ∧ ∃ x y : Int, a = I x ∧ b = I y ∧ x.natAbs < P 30 ∧ y.natAbs < P 30 := by
  rcases fitI_or [a, b] (by simpa using ⟨ha, hb⟩) with e | ⟨e, h⟩
  · exact .inl (by simp only [S.w03_fit]; rw [if_pos (by simp)]; exact e)
  · obtain ⟨x, hx, hx'⟩ := h a (by simp)
    obtain ⟨y, hy, hy'⟩ := h b (by simp)
    exact .inr ⟨by simp only [S.w03_fit]; rw [if_pos (by simp)]; exact e, x, y, hx, hy, hx', hy'⟩
theorem fitI3 {a b c : Bool × List Int × Unit} (ha : inI a) (hb : inI b) (hc : inI c) : S.w03_fit ([a, b, c], ()) = some (false, ()) ∨ S.w03_fit ([a, b, c], ()) = some (true, ()) ∧ ∃ x y z : Int, a = I x ∧ b = I y ∧ c = I z ∧ x.natAbs < P 30 ∧ y.natAbs < P 30 ∧ z.natAbs < P 30 := by
  rcases fitI_or [a, b, c] (by simpa using ⟨ha, hb, hc⟩) with e | ⟨e, h⟩
  · exact .inl (by simp only [S.w03_fit]; rw [if_pos (by simp)]; exact e)
  · obtain ⟨x, hx, hx'⟩ := h a (by simp)
    obtain ⟨y, hy, hy'⟩ := h b (by simp)
    obtain ⟨z, hz, hz'⟩ := h c (by simp)
    exact .inr ⟨by simp only [S.w03_fit]; rw [if_pos (by simp)]; exact e, x, y, z, hx, hy, hz, hx', hy', hz'⟩

/-- girdlelaw03.of -/
def w03_of (a : Bool × (List Int) × Unit) : Option ((Bool × (List Int) × Unit) × Unit) :=
  (S.ref_Of (a.2.1, ())).bind fun z1 =>
  some ((a.1, z1.1, ()), ())

def S.w03_of (x : (Bool × List Int × Unit) × Unit) : Option ((Bool × List Int × Unit) × Unit) := L.w03_of x.1
theorem w03_of_I {z : Int} (h : z.natAbs < P 1000) : S.w03_of (I z, ()) = some ((decide (z < 0), E z.natAbs, ()), ()) := by
  simp only [S.w03_of, L.w03_of]
  rw [Of_D h, Option.bind_some]
/-- girdlelaw03.is -/
def w03_is (a : Bool × (List Int) × Unit) (s : Bool × (List Int) × Unit) : Option (Bool × Unit) :=
  (S.ref_Back (s.2.1, ())).bind fun z1 =>
  (S.slices_Equal_s_uint32_uint32 (a.2.1, z1.1, ())).bind fun z2 =>
  cond (z2.1)
    (
      cond (s.1)
        (
          cond ((a.1 == decide (0 < (s.2.1.length : Int))))
            (
              (S.whole_Check ((a.1, a.2.1, ()), ())).bind fun z3 =>
              some (decide (z3.1 = 0), ())) (some (false, ())))
        (
          cond ((a.1 == false))
            (
              (S.whole_Check ((a.1, a.2.1, ()), ())).bind fun z4 =>
              some (decide (z4.1 = 0), ())) (some (false, ())))) (some (false, ()))

def S.w03_is (x : (Bool × List Int × Unit) × (Bool × List Int × Unit) × Unit) : Option (Bool × Unit) := L.w03_is x.1 x.2.1
theorem w03_is_sg {m : Bool} {n : Nat} {z : Int} (hz : z.natAbs < P 512) (h : sg m n = z) : S.w03_is (I z, (m, E n, ()), ()) = some (true, ()) := by
  have hn : n = z.natAbs := by
    cases m
    · rw [sgf] at h; omega
    · rw [sgt] at h; omega
  have h1 := P1000 hz (by decide)
  simp only [S.w03_is, L.w03_is]
  rw [hn, Back_D h1, Option.bind_some, Equal_s_D h1 h1, Option.bind_some, decide_eq_true rfl]
  have hc := whole_Check_I hz
  simp only [cond_true]
  rw [hc]
  cases m
  · rw [sgf] at h
    have : decide (z < 0) = false := decide_eq_false (by omega)
    rw [this]; rfl
  · rw [sgt] at h
    have hp : decide (0 < ((E z.natAbs).length : Int)) = decide (z < 0) := by
      have := @E_len0 z.natAbs
      by_cases h0 : z < 0
      · rw [decide_eq_true h0, decide_eq_true (by omega)]
      · rw [decide_eq_false h0, decide_eq_false (by omega)]
    rw [hp]
    simp
/-- girdlelaw03.add -/
def w03_add (a : Bool × (List Int) × Unit) (b : Bool × (List Int) × Unit) : Option ((Bool × (List Int) × Unit) × Unit) :=
  (S.ref_Compare (a.2.1, b.2.1, ())).bind fun z1 =>
  cond ((a.1 == b.1))
    (
      (S.ref_Add (a.2.1, b.2.1, ())).bind fun z2 =>
      some ((a.1, z2.1, ()), ()))
    (
      cond (decide (z1.1 = 0)) (some ((false, [], ()), ()))
        (
          cond (decide (0 < z1.1))
            (
              (S.ref_Sub (a.2.1, b.2.1, ())).bind fun z3 =>
              some ((a.1, z3.1, ()), ()))
            (
              (S.ref_Sub (b.2.1, a.2.1, ())).bind fun z4 =>
              some ((b.1, z4.1, ()), ()))))

def S.w03_add (x : (Bool × List Int × Unit) × (Bool × List Int × Unit) × Unit) : Option ((Bool × List Int × Unit) × Unit) := L.w03_add x.1 x.2.1
theorem w03_add_sg {m k : Bool} {a b : Nat} (ha : a < P 1000) (hb : b < P 1000) : ∃ m' c, S.w03_add ((m, E a, ()), (k, E b, ()), ()) = some ((m', E c, ()), ()) ∧ sg m' c = sg m a + sg k b ∧ c ≤ a + b := by
  simp only [S.w03_add, L.w03_add]
  rw [rCmp_D ha hb, Option.bind_some]
  simp only
  by_cases h : m = k
  · subst h
    rw [show (m == m) = true by simp, cond_true, rAdd_D ha hb, Option.bind_some]
    refine ⟨m, a + b, rfl, ?_, Nat.le_refl _⟩
    cases m
    · rw [sgf, sgf, sgf]; omega
    · rw [sgt, sgt, sgt]; omega
  · rw [show (m == k) = false by simpa using h, cond_false]
    have hk : k = !m := by cases m <;> cases k <;> simp_all
    subst hk
    by_cases h1 : a = b
    · subst h1
      rw [ct (by unfold sgn; rw [if_neg (by omega), if_neg (by omega)])]
      refine ⟨false, 0, rfl, ?_, by omega⟩
      cases m
      · rw [sgf, sgf, Bool.not_false, sgt]; omega
      · rw [sgf, sgt, Bool.not_true, sgf]; omega
    by_cases h2 : b < a
    · rw [cf (by unfold sgn; rw [if_neg (by omega), if_pos (by omega)]; decide), ct (by unfold sgn; rw [if_neg (by omega), if_pos (by omega)]; decide), rSub_D ha (by omega), Option.bind_some]
      refine ⟨m, a - b, rfl, ?_, by omega⟩
      cases m
      · rw [sgf, sgf, Bool.not_false, sgt]; omega
      · rw [sgt, sgt, Bool.not_true, sgf]; omega
    · rw [cf (by unfold sgn; rw [if_pos (by omega)]; decide), cf (by unfold sgn; rw [if_pos (by omega)]; decide), rSub_D hb (by omega), Option.bind_some]
      refine ⟨!m, b - a, rfl, ?_, by omega⟩
      cases m
      · rw [sgf, Bool.not_false, sgt, sgt]; omega
      · rw [sgt, Bool.not_true, sgf, sgf]; omega
theorem nA_add {a b : Int} {k : Nat} (ha : a.natAbs < P k) (hb : b.natAbs < P k) : (a + b).natAbs < P (k + 1) := Nat.lt_of_le_of_lt (Int.natAbs_add_le a b) (P_sum ha hb)
theorem nA_mul {a b : Int} {j k : Nat} (ha : a.natAbs < P j) (hb : b.natAbs < P k) : (a * b).natAbs < P (j + k) := by rw [Int.natAbs_mul]; exact P_mul ha hb
theorem nA_up {a : Int} {j k : Nat} (ha : a.natAbs < P j) (h : j ≤ k) : a.natAbs < P k := Nat.lt_of_lt_of_le ha (P_mono h)

/-- girdlelaw03.IntegerAdds -/
def w03_IntegerAdds (a : Bool × (List Int) × Unit) (b : Bool × (List Int) × Unit) (c : Bool × (List Int) × Unit) : Option (Bool × Unit) :=
  (S.w03_counts (())).bind fun z1 =>
  cond (!z1.1) (some (false, ()))
    (
      (S.w03_fit ([(a.1, a.2.1, ()), (b.1, b.2.1, ()), (c.1, c.2.1, ())], ())).bind fun z2 =>
      cond (!z2.1) (some (true, ()))
        (
          (S.w03_of ((a.1, a.2.1, ()), ())).bind fun z3 =>
          (S.w03_of ((b.1, b.2.1, ()), ())).bind fun z4 =>
          (S.whole_Add ((a.1, a.2.1, ()), (b.1, b.2.1, ()), ())).bind fun z5 =>
          (S.whole_Sub ((a.1, a.2.1, ()), (b.1, b.2.1, ()), ())).bind fun z6 =>
          (S.whole_Sum ([(a.1, a.2.1, ()), (b.1, b.2.1, ()), (c.1, c.2.1, ())], ())).bind fun z7 =>
          (S.whole_Sum ([(c.1, c.2.1, ()), (b.1, b.2.1, ()), (a.1, a.2.1, ())], ())).bind fun z8 =>
          cond (decide (z5.2.1 = 0))
            (
              cond (decide (z6.2.1 = 0))
                (
                  cond (decide (z7.2.1 = 0))
                    (
                      cond (decide (z8.2.1 = 0))
                        (
                          (S.w03_add ((z3.1.1, z3.1.2.1, ()), (z4.1.1, z4.1.2.1, ()), ())).bind fun z9 =>
                          (S.w03_is ((z5.1.1, z5.1.2.1, ()), (z9.1.1, z9.1.2.1, ()), ())).bind fun z10 =>
                          cond (z10.1)
                            (
                              (S.w03_add ((z3.1.1, z3.1.2.1, ()), (!z4.1.1, z4.1.2.1, ()), ())).bind fun z11 =>
                              (S.w03_is ((z6.1.1, z6.1.2.1, ()), (z11.1.1, z11.1.2.1, ()), ())).bind fun z12 =>
                              cond (z12.1)
                                (
                                  (S.w03_add ((z3.1.1, z3.1.2.1, ()), (z4.1.1, z4.1.2.1, ()), ())).bind fun z13 =>
                                  (S.w03_of ((c.1, c.2.1, ()), ())).bind fun z14 =>
                                  (S.w03_add ((z13.1.1, z13.1.2.1, ()), (z14.1.1, z14.1.2.1, ()), ())).bind fun z15 =>
                                  (S.w03_is ((z7.1.1, z7.1.2.1, ()), (z15.1.1, z15.1.2.1, ()), ())).bind fun z16 =>
                                  cond (z16.1)
                                    (
                                      (S.whole_Same ((z7.1.1, z7.1.2.1, ()), (z8.1.1, z8.1.2.1, ()), ())).bind fun z17 =>
                                      some (z17.1, ())) (some (false, ()))) (some (false, ()))) (some (false, ()))) (some (false, ()))) (some (false, ()))) (some (false, ()))) (some (false, ()))))

theorem IntegerAdds_true {a b c : Bool × List Int × Unit} (ha : inI a) (hb : inI b) (hc : inI c) : w03_IntegerAdds a b c = some (true, ()) := by
  have be : ∀ q : Bool × List Int × Unit, ((q.1, q.2.1, ()) : Bool × List Int × Unit) = q := fun q => rfl
  simp only [w03_IntegerAdds, counts_true, Option.bind_some, Bool.not_true, cond_false, be]
  rcases fitI3 ha hb hc with e | ⟨e, x, y, z, rfl, rfl, rfl, hx, hy, hz⟩
  · rw [e]; rfl
  have x0 : (0 : Int).natAbs < P 30 := P_pos 30
  have xy := nA_add hx hy
  have xyz := nA_add xy (nA_up hz (by decide : 30 ≤ 31))
  have yz := nA_add hz hy
  have zyx := nA_add yz (nA_up hx (by decide : 30 ≤ 31))
  have s1 : S.whole_Sum ([I x, I y, I z], ()) = some (I (x + y + z), 0, ()) := by
    rw [Sum_eq (by simp), sumO_cons x0 hx (by decide), sumO_cons (by rw [Int.zero_add]; exact hx) hy (by decide), Int.zero_add, sumO_cons xy (nA_up hz (by decide : 30 ≤ 31)) (by decide)]; rfl
  have s2 : S.whole_Sum ([I z, I y, I x], ()) = some (I (x + y + z), 0, ()) := by
    rw [Sum_eq (by simp), sumO_cons x0 hz (by decide), sumO_cons (by rw [Int.zero_add]; exact hz) hy (by decide), Int.zero_add, sumO_cons yz (nA_up hx (by decide : 30 ≤ 31)) (by decide), show z + y + x = x + y + z by omega]; rfl
  have x1 := P1000 hx (by decide)
  have y1 := P1000 hy (by decide)
  have z1 := P1000 hz (by decide)
  obtain ⟨m1, c1, e1, g1, l1⟩ := w03_add_sg (m := decide (x < 0)) (k := decide (y < 0)) x1 y1
  obtain ⟨m2, c2, e2, g2, l2⟩ := w03_add_sg (m := decide (x < 0)) (k := !decide (y < 0)) x1 y1
  have hc1 : c1 < P 1000 := Nat.lt_of_le_of_lt l1 (P1000 (P_sum hx hy) (by decide))
  obtain ⟨m3, c3, e3, g3, l3⟩ := w03_add_sg (m := m1) (k := decide (z < 0)) hc1 z1
  rw [sg_self, sg_self] at g1
  rw [sg_self, sg_neg] at g2
  rw [g1, sg_self] at g3
  have i1 := w03_is_sg (z := x + y) (P40 xy (by decide)) g1
  have i2 := w03_is_sg (z := x - y) (P40 (nA_add hx (b := -y) (by rwa [Int.natAbs_neg])) (by decide)) g2
  have i3 := w03_is_sg (z := x + y + z) (P40 xyz (by decide)) g3
  have q := P1000 xyz (by decide)
  rw [e, Option.bind_some]
  simp only [Bool.not_true, cond_false]
  rw [w03_of_I x1, Option.bind_some, w03_of_I y1, Option.bind_some, whole_Add_I hx hy (by decide), Option.bind_some, whole_Sub_I hx hy (by decide), Option.bind_some, s1, Option.bind_some, s2, Option.bind_some]
  simp only [decide_true, cond_true]
  rw [e1, Option.bind_some]
  simp only
  rw [i1, Option.bind_some]
  simp only [cond_true]
  rw [e2, Option.bind_some]
  simp only
  rw [i2, Option.bind_some]
  simp only [cond_true]
  rw [w03_of_I z1]
  simp only [Option.bind_some]
  rw [e3]
  simp only [Option.bind_some]
  rw [i3]
  simp only [Option.bind_some, cond_true]
  rw [whole_Same_I q q, Option.bind_some, decide_eq_true rfl]

/-- girdlelaw03.IntegerMuls -/
def w03_IntegerMuls (a : Bool × (List Int) × Unit) (b : Bool × (List Int) × Unit) (c : Bool × (List Int) × Unit) : Option (Bool × Unit) :=
  (S.w03_counts (())).bind fun z1 =>
  cond (!z1.1) (some (false, ()))
    (
      (S.w03_fit ([(a.1, a.2.1, ()), (b.1, b.2.1, ()), (c.1, c.2.1, ())], ())).bind fun z2 =>
      cond (!z2.1) (some (true, ()))
        (
          (S.whole_Mul ((a.1, a.2.1, ()), (b.1, b.2.1, ()), ())).bind fun z3 =>
          (S.whole_Mul ((a.1, a.2.1, ()), (c.1, c.2.1, ()), ())).bind fun z4 =>
          (S.whole_Add ((b.1, b.2.1, ()), (c.1, c.2.1, ()), ())).bind fun z5 =>
          (S.whole_Mul ((a.1, a.2.1, ()), (z5.1.1, z5.1.2.1, ()), ())).bind fun z6 =>
          (S.whole_Add ((z3.1.1, z3.1.2.1, ()), (z4.1.1, z4.1.2.1, ()), ())).bind fun z7 =>
          cond (decide (z3.2.1 = 0))
            (
              cond (decide (z6.2.1 = 0))
                (
                  cond (decide (z7.2.1 = 0))
                    (
                      (S.w03_of ((a.1, a.2.1, ()), ())).bind fun z8 =>
                      (S.w03_of ((b.1, b.2.1, ()), ())).bind fun z9 =>
                      (S.ref_Mul (z8.1.2.1, z9.1.2.1, ())).bind fun z10 =>
                      (S.w03_is ((z3.1.1, z3.1.2.1, ()), (!(a.1 == b.1), z10.1, ()), ())).bind fun z11 =>
                      cond (z11.1)
                        (
                          (S.whole_Same ((z6.1.1, z6.1.2.1, ()), (z7.1.1, z7.1.2.1, ()), ())).bind fun z12 =>
                          some (z12.1, ())) (some (false, ()))) (some (false, ()))) (some (false, ()))) (some (false, ()))))

theorem IntegerMuls_true {a b c : Bool × List Int × Unit} (ha : inI a) (hb : inI b) (hc : inI c) : w03_IntegerMuls a b c = some (true, ()) := by
  have be : ∀ q : Bool × List Int × Unit, ((q.1, q.2.1, ()) : Bool × List Int × Unit) = q := fun q => rfl
  simp only [w03_IntegerMuls, counts_true, Option.bind_some, Bool.not_true, cond_false, be]
  rcases fitI3 ha hb hc with e | ⟨e, x, y, z, rfl, rfl, rfl, hx, hy, hz⟩
  · rw [e]; rfl
  have x1 := P1000 hx (by decide)
  have y1 := P1000 hy (by decide)
  have xy := nA_mul hx hy
  have xz := nA_mul hx hz
  have yz := nA_add hy hz
  have xyz := nA_mul hx yz
  have i1 := w03_is_sg (z := x * y) (P40 xy (by decide)) (sg_mul x y)
  rw [e, Option.bind_some]
  simp only [Bool.not_true, cond_false]
  rw [whole_Mul_I hx hy (by decide), Option.bind_some, whole_Mul_I hx hz (by decide), Option.bind_some, whole_Add_I hy hz (by decide), Option.bind_some]
  simp only
  rw [whole_Mul_I hx yz (by decide), Option.bind_some, whole_Add_I xy xz (by decide), Option.bind_some]
  simp only [decide_true, cond_true]
  rw [w03_of_I x1, Option.bind_some, w03_of_I y1, Option.bind_some]
  simp only
  rw [rMul_D x1 y1, Option.bind_some]
  simp only
  rw [i1, Option.bind_some]
  simp only [cond_true]
  rw [← Int.mul_add, whole_Same_I (P1000 xyz (by decide)) (P1000 xyz (by decide)), Option.bind_some, decide_eq_true rfl]

/-- girdlelaw03.IntegerOrders -/
def w03_IntegerOrders (a : Bool × (List Int) × Unit) (b : Bool × (List Int) × Unit) : Option (Bool × Unit) :=
  (S.w03_counts (())).bind fun z1 =>
  cond (!z1.1) (some (false, ()))
    (
      (S.w03_fit ([(a.1, a.2.1, ()), (b.1, b.2.1, ())], ())).bind fun z2 =>
      cond (!z2.1) (some (true, ()))
        (
          (S.whole_Sub ((a.1, a.2.1, ()), (b.1, b.2.1, ()), ())).bind fun z3 =>
          (S.whole_Compare ((a.1, a.2.1, ()), (b.1, b.2.1, ()), ())).bind fun z4 =>
          cond (decide (z3.2.1 = 0))
            (
              (S.whole_Sign ((z3.1.1, z3.1.2.1, ()), ())).bind fun z5 =>
              cond (decide (z4.1 = z5.1))
                (
                  (S.whole_Compare ((b.1, b.2.1, ()), (a.1, a.2.1, ()), ())).bind fun z6 =>
                  cond (decide (z4.1 = (IntKind.i64.wrap (0 - z6.1))))
                    (
                      (S.whole_Neg ((b.1, b.2.1, ()), ())).bind fun z8 =>
                      (S.whole_Neg ((a.1, a.2.1, ()), ())).bind fun z9 =>
                      (S.whole_Compare ((z8.1.1, z8.1.2.1, ()), (z9.1.1, z9.1.2.1, ()), ())).bind fun z10 =>
                      cond (decide (z4.1 = z10.1))
                        (
                          (S.whole_Same ((a.1, a.2.1, ()), (b.1, b.2.1, ()), ())).bind fun z11 =>
                          cond ((z11.1 == decide (z4.1 = 0)))
                            (
                              (S.whole_Abs ((a.1, a.2.1, ()), ())).bind fun z12 =>
                              (S.whole_Sign ((z12.1.1, z12.1.2.1, ()), ())).bind fun z13 =>
                              cond (decide (0 ≤ z13.1))
                                (
                                  (S.whole_Neg ((a.1, a.2.1, ()), ())).bind fun z14 =>
                                  (S.whole_Neg ((z14.1.1, z14.1.2.1, ()), ())).bind fun z15 =>
                                  (S.whole_Same ((z15.1.1, z15.1.2.1, ()), (a.1, a.2.1, ()), ())).bind fun z16 =>
                                  some (z16.1, ())) (some (false, ()))) (some (false, ()))) (some (false, ()))) (some (false, ()))) (some (false, ()))) (some (false, ()))))

theorem IntegerOrders_true {a b : Bool × List Int × Unit} (ha : inI a) (hb : inI b) : w03_IntegerOrders a b = some (true, ()) := by
  have be : ∀ q : Bool × List Int × Unit, ((q.1, q.2.1, ()) : Bool × List Int × Unit) = q := fun q => rfl
  simp only [w03_IntegerOrders, counts_true, Option.bind_some, Bool.not_true, cond_false, be]
  rcases fitI2 ha hb with e | ⟨e, x, y, rfl, rfl, hx, hy⟩
  · rw [e]; rfl
  have x1 := P1000 hx (by decide)
  have y1 := P1000 hy (by decide)
  have nx : (-x).natAbs < P 1000 := by rwa [Int.natAbs_neg]
  have ny : (-y).natAbs < P 1000 := by rwa [Int.natAbs_neg]
  have sx : sgn (x - y) 0 = sgn x y := by unfold sgn; repeat' split
                                          all_goals omega
  have s1 : sgn x y = IntKind.i64.wrap (0 - sgn y x) := by
    have : sgn x y = 0 - sgn y x := by unfold sgn; repeat' split
                                       all_goals omega
    rw [← this]
    have : -1 ≤ sgn x y ∧ sgn x y ≤ 1 := by unfold sgn; repeat' split
                                            all_goals omega
    rw [wi64 (by omega) (by omega)]
  have s2 : sgn x y = sgn (-y) (-x) := by unfold sgn; repeat' split
                                          all_goals omega
  have s3 : (decide (x = y) == decide (sgn x y = 0)) = true := by
    have : x = y ↔ sgn x y = 0 := by
      unfold sgn
      constructor
      · intro h; rw [if_neg (by omega), if_neg (by omega)]
      · intro h; split at h
        · omega
        · split at h <;> omega
    simp [this]
  rw [e, Option.bind_some]
  simp only [Bool.not_true, cond_false]
  rw [whole_Sub_I hx hy (by decide), Option.bind_some, whole_Compare_I x1 y1, Option.bind_some]
  simp only [decide_true, cond_true]
  rw [whole_Sign_I, Option.bind_some]
  simp only
  rw [ct sx.symm, whole_Compare_I y1 x1, Option.bind_some]
  simp only
  rw [ct s1, whole_Neg_I y1, Option.bind_some, whole_Neg_I x1, Option.bind_some]
  simp only
  rw [whole_Compare_I ny nx, Option.bind_some]
  simp only
  rw [ct s2, whole_Same_I x1 y1, Option.bind_some]
  simp only
  rw [s3, cond_true, whole_Abs_I x1, Option.bind_some]
  simp only
  rw [whole_Sign_I, Option.bind_some]
  simp only
  rw [ct (by unfold sgn; rw [if_neg (by omega)]; split <;> omega)]
  simp only [Option.bind_some]
  rw [whole_Neg_I nx, Option.bind_some]
  simp only
  rw [whole_Same_I (by rwa [Int.neg_neg]) x1, Option.bind_some, decide_eq_true (by omega)]

/-- girdlelaw03.IntegerDivs -/
def w03_IntegerDivs (a : Bool × (List Int) × Unit) (b : Bool × (List Int) × Unit) : Option (Bool × Unit) :=
  (S.w03_counts (())).bind fun z1 =>
  cond (!z1.1) (some (false, ()))
    (
      (S.w03_fit ([(a.1, a.2.1, ()), (b.1, b.2.1, ())], ())).bind fun z2 =>
      cond (!z2.1) (some (true, ()))
        (
          (S.whole_Div ((a.1, a.2.1, ()), (b.1, b.2.1, ()), ())).bind fun z3 =>
          cond (decide ((b.2.1.length : Int) = 0))
            (
              cond (decide (z3.2.2.1 = 10))
                (
                  (S.whole_Sign ((z3.1.1, z3.1.2.1, ()), ())).bind fun z4 =>
                  cond (decide (z4.1 = 0))
                    (
                      (S.whole_Sign ((z3.2.1.1, z3.2.1.2.1, ()), ())).bind fun z5 =>
                      some (decide (z5.1 = 0), ())) (some (false, ()))) (some (false, ())))
            (
              (S.whole_Mul ((z3.1.1, z3.1.2.1, ()), (b.1, b.2.1, ()), ())).bind fun z6 =>
              (S.whole_Add ((z6.1.1, z6.1.2.1, ()), (z3.2.1.1, z3.2.1.2.1, ()), ())).bind fun z7 =>
              cond (decide (z3.2.2.1 = 0))
                (
                  cond (decide (z6.2.1 = 0))
                    (
                      cond (decide (z7.2.1 = 0))
                        (
                          (S.whole_Same ((z7.1.1, z7.1.2.1, ()), (a.1, a.2.1, ()), ())).bind fun z8 =>
                          cond (z8.1)
                            (
                              (S.whole_Sign ((z3.2.1.1, z3.2.1.2.1, ()), ())).bind fun z9 =>
                              cond (decide (0 ≤ z9.1))
                                (
                                  (S.whole_Abs ((b.1, b.2.1, ()), ())).bind fun z10 =>
                                  (S.whole_Compare ((z3.2.1.1, z3.2.1.2.1, ()), (z10.1.1, z10.1.2.1, ()), ())).bind fun z11 =>
                                  cond (decide (z11.1 < 0))
                                    (
                                      (S.whole_Check ((z3.1.1, z3.1.2.1, ()), ())).bind fun z12 =>
                                      cond (decide (z12.1 = 0))
                                        (
                                          (S.whole_Check ((z3.2.1.1, z3.2.1.2.1, ()), ())).bind fun z13 =>
                                          some (decide (z13.1 = 0), ())) (some (false, ()))) (some (false, ()))) (some (false, ()))) (some (false, ()))) (some (false, ()))) (some (false, ()))) (some (false, ())))))

theorem whole_Div_0 {a : Int} : S.whole_Div (I a, I 0, ()) = some ((false, [], ()), (false, [], ()), 10, ()) := by
  simp only [S.whole_Div, L.whole_Div]
  rw [show D (0 : Int).natAbs = [] from rfl, Div_zero, Option.bind_some]; rfl
theorem IntegerDivs_true {a b : Bool × List Int × Unit} (ha : inI a) (hb : inI b) : w03_IntegerDivs a b = some (true, ()) := by
  have be : ∀ q : Bool × List Int × Unit, ((q.1, q.2.1, ()) : Bool × List Int × Unit) = q := fun q => rfl
  simp only [w03_IntegerDivs, counts_true, Option.bind_some, Bool.not_true, cond_false, be]
  rcases fitI2 ha hb with e | ⟨e, x, y, rfl, rfl, hx, hy⟩
  · rw [e]; rfl
  rw [e, Option.bind_some]
  simp only [Bool.not_true, cond_false, D_len_zero]
  by_cases h0 : y = 0
  · subst h0
    rw [whole_Div_0, Option.bind_some]
    rfl
  have hq : (x / y).natAbs < P 30 := Nat.lt_of_le_of_lt (Int.natAbs_ediv_le_natAbs x y) hx
  have r0 : 0 ≤ x % y := Int.emod_nonneg x h0
  have r1 : x % y < y.natAbs := by
    have := Int.emod_lt_of_pos x (show 0 < (y.natAbs : Int) by omega)
    rcases Int.natAbs_eq y with h | h
    · rw [← h] at this; omega
    · rw [h, Int.emod_neg, Int.natAbs_neg, Int.natAbs_natCast]; exact this
  have hr : (x % y).natAbs < P 30 := by omega
  have hm := nA_mul hq hy
  have hsum : x / y * y + x % y = x := Int.ediv_mul_add_emod x y
  have x1 := P1000 hx (by decide)
  rw [whole_Div_I (nA_up hx (by decide)) (nA_up hy (by decide)) h0, Option.bind_some, cf (by omega)]
  simp only
  rw [whole_Mul_I hq hy (by decide), Option.bind_some]
  simp only
  rw [whole_Add_I hm (nA_up hr (by decide : 30 ≤ 60)) (by decide), Option.bind_some, hsum]
  simp only [decide_true, cond_true]
  rw [whole_Same_I x1 x1, Option.bind_some, decide_eq_true rfl]
  simp only [cond_true]
  rw [whole_Sign_I, Option.bind_some]
  simp only
  rw [ct (by unfold sgn; rw [if_neg (by omega)]; split <;> omega), whole_Abs_I (P1000 hy (by decide)), Option.bind_some]
  simp only
  rw [whole_Compare_I (P1000 hr (by decide)) (by rw [Int.natAbs_natCast]; exact P1000 hy (by decide)), Option.bind_some]
  simp only
  rw [ct (by unfold sgn; rw [if_pos r1]; decide), whole_Check_I (P40 hq (by decide)), Option.bind_some]
  simp only [decide_true, cond_true]
  rw [whole_Check_I (P40 hr (by decide)), Option.bind_some]
  rfl

/-- girdlelaw03.IntegerShifts -/
def w03_IntegerShifts (a : Bool × (List Int) × Unit) (n : Int) : Option (Bool × Unit) :=
  (S.w03_counts (())).bind fun z1 =>
  cond (!z1.1) (some (false, ()))
    (
      (S.w03_fit ([(a.1, a.2.1, ())], ())).bind fun z2 =>
      cond (!z2.1) (some (true, ()))
        (
          cond (decide (n < 0)) (some (true, ()))
            (
              cond (decide (1000 < n)) (some (true, ()))
                (
                  (S.limbs_Of (1, ())).bind fun z3 =>
                  (S.limbs_Left (z3.1, n, ())).bind fun z4 =>
                  (S.whole_Left ((a.1, a.2.1, ()), n, ())).bind fun z5 =>
                  (S.whole_Right ((a.1, a.2.1, ()), n, ())).bind fun z6 =>
                  (S.whole_Nat (z4.1, ())).bind fun z7 =>
                  (S.whole_Mul ((a.1, a.2.1, ()), (z7.1.1, z7.1.2.1, ()), ())).bind fun z8 =>
                  (S.whole_Nat (z4.1, ())).bind fun z9 =>
                  (S.whole_Div ((a.1, a.2.1, ()), (z9.1.1, z9.1.2.1, ()), ())).bind fun z10 =>
                  (S.whole_Right ((z5.1.1, z5.1.2.1, ()), n, ())).bind fun z11 =>
                  cond (decide (z5.2.1 = 0))
                    (
                      cond (decide (z6.2.1 = 0))
                        (
                          cond (decide (z10.2.2.1 = 0))
                            (
                              cond (decide (z11.2.1 = 0))
                                (
                                  (S.whole_Same ((z5.1.1, z5.1.2.1, ()), (z8.1.1, z8.1.2.1, ()), ())).bind fun z12 =>
                                  cond (z12.1)
                                    (
                                      (S.whole_Same ((z6.1.1, z6.1.2.1, ()), (z10.1.1, z10.1.2.1, ()), ())).bind fun z13 =>
                                      cond (z13.1)
                                        (
                                          (S.whole_Same ((z11.1.1, z11.1.2.1, ()), (a.1, a.2.1, ()), ())).bind fun z14 =>
                                          some (z14.1, ())) (some (false, ()))) (some (false, ()))) (some (false, ()))) (some (false, ()))) (some (false, ()))) (some (false, ()))))))

theorem IntegerShifts_true {a : Bool × List Int × Unit} {n : Int} (ha : inI a) (hn : -9223372036854775808 ≤ n) (hn' : n < 9223372036854775808) : w03_IntegerShifts a n = some (true, ()) := by
  have be : ∀ q : Bool × List Int × Unit, ((q.1, q.2.1, ()) : Bool × List Int × Unit) = q := fun q => rfl
  simp only [w03_IntegerShifts, counts_true, Option.bind_some, Bool.not_true, cond_false, be]
  rcases fitI1 ha with e | ⟨e, x, rfl, hx⟩
  · rw [e]; rfl
  rw [e, Option.bind_some]
  simp only [Bool.not_true, cond_false]
  by_cases h0 : n < 0
  · rw [ct h0]
  rw [cf h0]
  by_cases h1 : 1000 < n
  · rw [ct h1]
  rw [cf h1]
  obtain ⟨N, rfl⟩ := Int.eq_ofNat_of_zero_le (show 0 ≤ n by omega)
  have hp : 2 ^ N < P 32 := two_P (by omega)
  have hpi : ((2 ^ N : Nat) : Int).natAbs < P 32 := by rwa [Int.natAbs_natCast]
  have hp0 := Nat.pow_pos (n := N) (show 0 < 2 by decide)
  have hc : ((2 : Int) ^ N) = ((2 ^ N : Nat) : Int) := pow_cast N
  have hm := nA_mul hx hpi
  have hq : (x / ((2 ^ N : Nat) : Int)).natAbs < P 30 := Nat.lt_of_le_of_lt (Int.natAbs_ediv_le_natAbs x _) hx
  rw [Of_one, Option.bind_some, Left_D (P_one 1000 (by decide)), Option.bind_some, if_neg (by decide), if_neg (by omega), Nat.one_mul, res_in (P40 hp (by decide))]
  simp only
  rw [whole_Left_I hx (by omega) (by omega), Option.bind_some, whole_Right_I (nA_up hx (by decide)) (by omega), Option.bind_some, whole_Nat_D (P1000 hp (by decide)), Option.bind_some]
  simp only
  rw [hc, whole_Mul_I hx hpi (by decide), Option.bind_some]
  simp only [Option.bind_some]
  rw [whole_Div_I (nA_up hx (by decide)) (nA_up hpi (by decide)) (by omega), Option.bind_some, whole_Right_I (nA_up hm (by decide)) (by omega), Option.bind_some]
  simp only [decide_true, cond_true]
  rw [whole_Same_I (P1000 hm (by decide)) (P1000 hm (by decide)), Option.bind_some, decide_eq_true rfl]
  simp only [cond_true]
  rw [whole_Same_I (P1000 hq (by decide)) (P1000 hq (by decide)), Option.bind_some, decide_eq_true rfl]
  simp only [cond_true]
  rw [hc, Int.mul_ediv_cancel _ (by omega), whole_Same_I (P1000 hx (by decide)) (P1000 hx (by decide)), Option.bind_some, decide_eq_true rfl]

/-- girdlelaw03.IntegerTexts -/
def w03_IntegerTexts (a : Bool × (List Int) × Unit) (n : Int) : Option (Bool × Unit) :=
  (S.w03_counts (())).bind fun z1 =>
  cond (!z1.1) (some (false, ()))
    (
      (S.whole_Of (n, ())).bind fun z2 =>
      (S.whole_Small ((z2.1.1, z2.1.2.1, ()), ())).bind fun z3 =>
      cond (!(decide (z3.2.1 = 0))) (some (false, ()))
        (
          cond (!(decide (z3.1 = n))) (some (false, ()))
            (
              (S.w03_fit ([(a.1, a.2.1, ())], ())).bind fun z4 =>
              cond (!z4.1) (some (true, ()))
                (
                  (S.whole_Text ((a.1, a.2.1, ()), ())).bind fun z5 =>
                  (S.whole_Parse (z5.1, ())).bind fun z6 =>
                  cond (!(decide (z6.2.1 = 0))) (some (false, ()))
                    (
                      (S.whole_Same ((a.1, a.2.1, ()), (z6.1.1, z6.1.2.1, ()), ())).bind fun z7 =>
                      cond (!z7.1) (some (false, ()))
                        (
                          cond (decide (0 < (z5.1.size : Int)))
                            (
                              cond (!(decide ((bt z5.1 0) = 45) == a.1)) (some (false, ()))
                                (
                                  (S.whole_Small ((a.1, a.2.1, ()), ())).bind fun z9 =>
                                  cond (!(decide (z9.2.1 = 0)))
                                    (
                                      cond (decide (z9.2.1 = 11))
                                        (
                                          cond (decide (z9.1 = 0))
                                            (
                                              (S.limbs_Bits (a.2.1, ())).bind fun z10 =>
                                              some (decide (64 ≤ z10.1), ())) (some (false, ()))) (some (false, ())))
                                    (
                                      (S.whole_Of (z9.1, ())).bind fun z11 =>
                                      (S.whole_Same ((z11.1.1, z11.1.2.1, ()), (a.1, a.2.1, ()), ())).bind fun z12 =>
                                      some (z12.1, ())))) none))))))

theorem intL_first {z : Int} : (decide (bt (mk (intL z)) 0 = 45) == decide (z < 0)) = true := by
  obtain ⟨h1, h2, h3, h4, h5⟩ := decL_props z.natAbs
  unfold intL
  by_cases h0 : z < 0
  · rw [if_pos h0, decide_eq_true h0]; rfl
  · rw [if_neg h0, decide_eq_false h0]
    cases hx : decL z.natAbs with
    | nil => rw [hx] at h3; simp at h3
    | cons x r =>
      have hx9 := h2 x (by rw [hx]; simp)
      have : bt (mk ((x :: r).map dbyte)) 0 = (((dbyte x).toNat : Nat) : Int) := rfl
      rw [this, dbyte_nat hx9, decide_eq_false (by omega)]; rfl
theorem IntegerTexts_true {a : Bool × List Int × Unit} {n : Int} (ha : inI a) (hn : -9223372036854775808 ≤ n) (hn' : n < 9223372036854775808) : w03_IntegerTexts a n = some (true, ()) := by
  have be : ∀ q : Bool × List Int × Unit, ((q.1, q.2.1, ()) : Bool × List Int × Unit) = q := fun q => rfl
  have hnP : n.natAbs < P 1000 := Nat.lt_of_lt_of_le (show n.natAbs < P 2 by rw [P_2]; omega) (P_mono (by decide))
  simp only [w03_IntegerTexts, counts_true, Option.bind_some, Bool.not_true, cond_false, be]
  rw [whole_Of_I hn hn', Option.bind_some]
  simp only
  rw [whole_Small_I hnP, if_pos ⟨hn, hn'⟩, Option.bind_some]
  simp only [decide_true, Bool.not_true, cond_false]
  rcases fitI1 ha with e | ⟨e, x, rfl, hx⟩
  · rw [e]; rfl
  have x1 := P1000 hx (by decide)
  rw [e, Option.bind_some]
  simp only [Bool.not_true, cond_false]
  have hl := decL_len (n := x.natAbs) (P40 hx (by decide))
  have hlen : 1 ≤ (intL x).length ∧ (intL x).length ≤ 5001 := by
    unfold intL
    split
    · rw [List.length_cons, List.length_map]; omega
    · rw [List.length_map]; omega
  rw [whole_Text_I (P40 hx (by decide)), Option.bind_some]
  simp only
  rw [whole_Parse_mk (by omega), Option.bind_some, wparse_intL (Nat.lt_of_lt_of_le hx (P_mono (by decide)))]
  simp only [decide_true, Bool.not_true, cond_false]
  rw [whole_Same_I x1 x1, Option.bind_some, decide_eq_true rfl]
  simp only [Bool.not_true, cond_false]
  have hs : (mk (intL x)).size = (intL x).length := rfl
  have hf := @intL_first x
  rw [ct (by omega), hf]
  simp only [Bool.not_true, cond_false]
  rw [whole_Small_I x1, Option.bind_some]
  by_cases h : -9223372036854775808 ≤ x ∧ x < 9223372036854775808
  · rw [if_pos h]
    simp only [decide_true, Bool.not_true, cond_false]
    rw [whole_Of_I h.1 h.2, Option.bind_some]
    simp only
    rw [whole_Same_I x1 x1, Option.bind_some, decide_eq_true rfl]
  · rw [if_neg h]
    simp only
    rw [show (!decide ((11 : Int) = 0)) = true from rfl]
    simp only [decide_true, cond_true]
    rw [Bits_D x1, Option.bind_some, blen_nat (by omega)]
    have : 63 ≤ x.natAbs.log2 := by
      have h63 : 2 ^ 63 ≤ x.natAbs := by omega
      rcases Nat.lt_or_ge x.natAbs.log2 63 with hlt | hge
      · have := (Nat.log2_lt (by omega)).1 hlt
        omega
      · exact hge
    rw [decide_eq_true (by omega)]
end Go.L
