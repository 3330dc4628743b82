/-
  Numbers as digits to a base, the lowest first. limbs: the first functions. limbs: sums. limbs: order and differences. limbs: products. limbs: times and divided by a power of 2. limbs: divided by a power of 2. limbs: small numbers, bits. limbs: small numbers, noughts at the end. limbs: what long division takes away and puts back. limbs: a digit of a quotient. limbs: the guess. limbs: long division. limbs: long division, all of it. limbs: division. limbs: division; equality; what the laws ask of their numbers.
  No condition beyond those that each theorem names.
-/
import Derived.Test.YtdadepdcllachaaGreatDoorA

/-! LBase -/
namespace Go.L
set_option linter.unusedVariables false

def val (B : Int) : List Int → Int
  | [] => 0
  | x :: xs => x + B * val B xs
def ok (B : Int) (a : List Int) : Prop := ∀ x ∈ a, 0 ≤ x ∧ x < B
def okB (B : Int) (a : List Int) : Bool := a.all fun x => decide (0 ≤ x) && decide (x < B)
theorem okB_iff {B : Int} {a : List Int} : okB B a = true ↔ ok B a := by simp [okB, ok]
instance (B : Int) (a : List Int) : Decidable (ok B a) := decidable_of_iff _ okB_iff

def trimL : List Int → List Int
  | [] => []
  | x :: xs => match trimL xs with
   | [] => if x = 0 then [] else [x]
   | y :: ys => x :: y :: ys
def digF (B : Nat) : Nat → Nat → List Int
  | 0, _ => []
  | f + 1, n => if n = 0 then [] else ((n % B : Nat) : Int) :: digF B f (n / B)
def dig (B n : Nat) : List Int := digF B (n.log2 + 1) n

variable {B : Int} {a b : List Int}

@[simp] theorem val_nil : val B [] = 0 := rfl
@[simp] theorem val_cons (x : Int) : val B (x :: a) = x + B * val B a := rfl
theorem val_append : val B (a ++ b) = val B a + B ^ a.length * val B b := by
  induction a with
  | nil => simp
  | cons x a ih => simp only [List.cons_append, val_cons, ih, List.length_cons, Int.pow_succ, Int.mul_add, Int.add_assoc, ← Int.mul_assoc, Int.mul_comm B (B ^ a.length)]
theorem val_zeros (n : Nat) : val B (List.replicate n 0) = 0 := by
  induction n with
  | zero => rfl
  | succ n ih => simp [List.replicate_succ, ih]
theorem ok_nil : ok B [] := fun x h => by cases h
theorem ok_cons {x : Int} : ok B (x :: a) ↔ (0 ≤ x ∧ x < B) ∧ ok B a := by
  constructor
  · intro h; exact ⟨h x (List.mem_cons_self ..), fun y hy => h y (List.mem_cons_of_mem _ hy)⟩
  · rintro ⟨h1, h2⟩ y hy
    rcases List.mem_cons.1 hy with rfl | hy
    · exact h1
    · exact h2 y hy
theorem ok_append : ok B (a ++ b) ↔ ok B a ∧ ok B b := by
  constructor
  · intro h; exact ⟨fun x hx => h x (List.mem_append.2 (.inl hx)), fun x hx => h x (List.mem_append.2 (.inr hx))⟩
  · rintro ⟨h1, h2⟩ x hx
    exact (List.mem_append.1 hx).elim (h1 x) (h2 x)
theorem ok_zeros (hB : 0 < B) (n : Nat) : ok B (List.replicate n 0) := by
  intro x hx
  rw [List.eq_of_mem_replicate hx]
  exact ⟨Int.le_refl _, hB⟩
theorem val_nonneg (hB : 0 ≤ B) (h : ok B a) : 0 ≤ val B a := by
  induction a with
  | nil => simp
  | cons x a ih =>
    rw [ok_cons] at h
    have := Int.mul_nonneg hB (ih h.2)
    simp only [val_cons]; omega
theorem val_lt (hB : 0 < B) (h : ok B a) : val B a < B ^ a.length := by
  induction a with
  | nil => simp
  | cons x a ih =>
    rw [ok_cons] at h
    have h1 := ih h.2
    have h2 : B * (val B a + 1) ≤ B * B ^ a.length := Int.mul_le_mul_of_nonneg_left (by omega) (by omega)
    simp only [val_cons, List.length_cons, Int.pow_succ]
    rw [Int.mul_comm (B ^ a.length) B]
    rw [Int.mul_add, Int.mul_one] at h2
    omega

theorem trimL_val : val B (trimL a) = val B a := by
  induction a with
  | nil => rfl
  | cons x a ih =>
    simp only [trimL]
    split
    · rename_i h
      rw [h] at ih
      split
      · rename_i hx; subst hx; simp [← ih]
      · simp [← ih]
    · rename_i y ys h
      rw [h] at ih
      rw [val_cons, ih, val_cons]
theorem trimL_ok (h : ok B a) : ok B (trimL a) := by
  induction a with
  | nil => exact ok_nil
  | cons x a ih =>
    rw [ok_cons] at h
    have := ih h.2
    simp only [trimL]
    split
    · split
      · exact ok_nil
      · exact ok_cons.2 ⟨h.1, ok_nil⟩
    · rename_i hh; rw [hh] at this; exact ok_cons.2 ⟨h.1, this⟩
theorem trimL_length : (trimL a).length ≤ a.length := by
  induction a with
  | nil => exact Nat.le_refl _
  | cons x a ih =>
    simp only [trimL]
    split
    · split <;> simp
    · rename_i hh; rw [hh] at ih; simpa using ih
theorem trimL_trimL : trimL (trimL a) = trimL a := by
  induction a with
  | nil => rfl
  | cons x a ih =>
    simp only [trimL]
    split
    · split
      · rfl
      · rename_i hx; simp [trimL, hx]
    · rename_i y ys hh
      rw [hh] at ih
      simp only [trimL] at ih ⊢
      rw [ih]
theorem trimL_snoc_zero : trimL (a ++ [0]) = trimL a := by
  induction a with
  | nil => rfl
  | cons x a ih => simp only [List.cons_append, trimL, ih]
theorem trimL_snoc {x : Int} (h : x ≠ 0) : trimL (a ++ [x]) = a ++ [x] := by
  induction a with
  | nil => simp [trimL, h]
  | cons y a ih =>
    simp only [List.cons_append, trimL, ih]
    cases hq : a ++ [x] with
    | nil => simp at hq
    | cons => rfl
/-- Of what is trimmed the last digit is not nought. -/
theorem trimL_pos (hB : 0 < B) (h : ok B a) (ht : trimL a = a) (hne : a ≠ []) : 0 < val B a := by
  induction a with
  | nil => exact absurd rfl hne
  | cons x a ih =>
    rw [ok_cons] at h
    simp only [trimL] at ht
    have hv := val_nonneg (Int.le_of_lt hB) h.2
    have hm := Int.mul_nonneg (Int.le_of_lt hB) hv
    simp only [val_cons]
    split at ht
    · rename_i hq
      split at ht
      · cases ht
      · rename_i hx
        omega
    · rename_i y ys hq
      have hta : trimL a = a := by
        rw [hq]
        simpa using (List.cons.inj ht).2
      have hne' : a ≠ [] := by intro e; subst e; cases hq
      have := ih h.2 hta hne'
      have := Int.mul_pos hB this
      omega
theorem digits_unique (hB : 0 < B) : ∀ {a b : List Int}, ok B a → ok B b → trimL a = a → trimL b = b → val B a = val B b → a = b
  | [], [], _, _, _, _, _ => rfl
  | [], y :: b, _, hb, _, htb, hv => by
    have := trimL_pos hB hb htb (by simp)
    rw [← hv] at this; simp at this
  | x :: a, [], ha, _, hta, _, hv => by
    have := trimL_pos hB ha hta (by simp)
    rw [hv] at this; simp at this
  | x :: a, y :: b, ha, hb, hta, htb, hv => by
    have tail : ∀ {x : Int} {a : List Int}, trimL (x :: a) = x :: a → trimL a = a := by
      intro x a h
      simp only [trimL] at h
      split at h
      · rename_i hq
        split at h
        · cases h
        · have := (List.cons.inj h).2; rw [← this]; rfl
      · rename_i hq; rw [hq]; exact (List.cons.inj h).2
    have hta' := tail hta
    have htb' := tail htb
    rw [ok_cons] at ha hb
    simp only [val_cons] at hv
    have h1 : x = y := by
      have e1 : (x + B * val B a) % B = x := by rw [Int.add_mul_emod_self_left]; exact Int.emod_eq_of_lt ha.1.1 ha.1.2
      have e2 : (y + B * val B b) % B = y := by rw [Int.add_mul_emod_self_left]; exact Int.emod_eq_of_lt hb.1.1 hb.1.2
      rw [← e1, ← e2, hv]
    subst h1
    have h2 : val B a = val B b := Int.eq_of_mul_eq_mul_left (by omega) (by omega : B * val B a = B * val B b)
    rw [digits_unique hB ha.2 hb.2 hta' htb' h2]

theorem digF_spec {B : Nat} (hB : 2 ≤ B) : ∀ (f n : Nat), n < 2 ^ f → ok (B : Int) (digF B f n) ∧ trimL (digF B f n) = digF B f n ∧ val (B : Int) (digF B f n) = (n : Int) := by
  intro f
  induction f with
  | zero => intro n hn; have : n = 0 := by omega
            subst this; exact ⟨ok_nil, rfl, rfl⟩
  | succ f ih =>
    intro n hn
    simp only [digF]
    split
    · rename_i h; subst h; exact ⟨ok_nil, rfl, rfl⟩
    · rename_i h0
      have hlt : n / B < 2 ^ f := by
        have : n / B ≤ n / 2 := Nat.div_le_div_left hB (by omega)
        have : n / 2 < 2 ^ f := by rw [Nat.pow_succ] at hn; omega
        omega
      obtain ⟨h1, h2, h3⟩ := ih _ hlt
      have hmod : n % B < B := Nat.mod_lt _ (by omega)
      refine ⟨ok_cons.2 ⟨⟨by omega, by omega⟩, h1⟩, ?_, ?_⟩
      · simp only [trimL, h2]
        cases hq : digF B f (n / B) with
        | nil =>
          simp only
          split
          · rename_i hz
            exfalso
            have hz' : n % B = 0 := by omega
            rw [hq] at h3
            simp only [val_nil] at h3
            have : n / B = 0 := by omega
            have := Nat.div_add_mod n B
            rw [hz', ‹n / B = 0›] at this
            omega
          · rfl
        | cons => rfl
      · simp only [val_cons, h3]
        have := Nat.div_add_mod n B
        rw [← Int.natCast_mul, ← Int.natCast_add]
        congr 1
        omega
theorem dig_spec {B : Nat} (hB : 2 ≤ B) (n : Nat) : ok (B : Int) (dig B n) ∧ trimL (dig B n) = dig B n ∧ val (B : Int) (dig B n) = (n : Int) :=
  digF_spec hB _ _ Nat.lt_log2_self

theorem trimL_eq_dig {B : Nat} (hB : 2 ≤ B) {a : List Int} (h : ok (B : Int) a) : trimL a = dig B (val (B : Int) a).toNat := by
  obtain ⟨h1, h2, h3⟩ := dig_spec hB (val (B : Int) a).toNat
  refine digits_unique (B := (B : Int)) (by omega) (trimL_ok h) h1 trimL_trimL h2 ?_
  rw [h3, trimL_val, Int.toNat_of_nonneg (val_nonneg (by omega) h)]
end Go.L

/-! LA -/
namespace Go.L
open Go.PM
set_option linter.unusedVariables false
set_option linter.unusedSimpArgs false

theorem wu64 {x : Int} (h0 : 0 ≤ x) (h1 : x < 18446744073709551616) : IntKind.u64.wrap x = x := by
  simp only [IntKind.wrap, IntKind.bits, IntKind.signed, Bool.false_and, Bool.false_eq_true, if_false]
  exact Int.emod_eq_of_lt h0 (by simpa using h1)
theorem wu32 (x : Int) : IntKind.u32.wrap x = x % 4294967296 := by
  simp only [IntKind.wrap, IntKind.bits, IntKind.signed, Bool.false_and, Bool.false_eq_true, if_false]
  rfl
theorem wu64m (x : Int) : IntKind.u64.wrap x = x % 18446744073709551616 := by
  simp only [IntKind.wrap, IntKind.bits, IntKind.signed, Bool.false_and, Bool.false_eq_true, if_false]
  rfl
theorem wi64 {x : Int} (h0 : -9223372036854775808 ≤ x) (h1 : x < 9223372036854775808) : IntKind.i64.wrap x = x := by
  have e1 : (2 : Int) ^ (IntKind.i64.bits) = 18446744073709551616 := by decide
  have e2 : (2 : Int) ^ (IntKind.i64.bits - 1) = 9223372036854775808 := by decide
  have e3 : IntKind.i64.signed = true := rfl
  simp only [IntKind.wrap, e1, e2, e3, Bool.true_and]
  by_cases h : 0 ≤ x
  · rw [Int.emod_eq_of_lt h (by omega)]
    rw [if_neg (by simp; omega)]
  · have e : x % 18446744073709551616 = x + 18446744073709551616 := by omega
    rw [e, if_pos (by simp; omega)]
    omega
theorem ct {α : Type} {p : Prop} [Decidable p] (h : p) (a b : Option α) : cond (decide p) a b = a := by simp [h]
theorem cf {α : Type} {p : Prop} [Decidable p] (h : ¬ p) (a b : Option α) : cond (decide p) a b = b := by simp [h]

/-- Lists of a length that is not out of all reason. -/
def fine (a : List Int) : Prop := a.length ≤ 1099511627776
instance (a : List Int) : Decidable (fine a) := inferInstanceAs (Decidable (_ ≤ _))

/-- limbs_trim: one round of loop 0. -/
def limbs_trim_s0 (κ0 : (List Int) → Int → Option ((List Int) × Unit)) (a : List Int) (n2 : Int) : Option ((List Int) × Unit) :=
  cond (decide (0 < n2))
   (
   let z1 := IntKind.i64.wrap (n2 - 1)
   cond (decide (0 ≤ z1))
   (
   cond (decide (z1 < (a.length : Int)))
   (
   cond (decide ((a.getD z1.toNat 0) = 0)) (κ0 a (IntKind.i64.wrap (n2 - 1)))
   (
   cond (decide (0 ≤ n2))
   (
   cond (decide (n2 ≤ n2))
   (
   cond (decide (n2 ≤ (a.length : Int))) (some ((a.take n2.toNat), ())) none) none) none)) none) none)
   (
   cond (decide (0 ≤ n2))
   (
   cond (decide (n2 ≤ n2))
   (
   cond (decide (n2 ≤ (a.length : Int))) (some ((a.take n2.toNat), ())) none) none) none)

def limbs_trim_l0 (K : Nat) : Nat → (List Int) → Int → Option ((List Int) × Unit)
  | 0, _, _ => none
  | n + 1, a, n2 => limbs_trim_s0 (limbs_trim_l0 K n) a n2

/-- limbs.trim -/
def limbs_trim_b (I0 : (List Int) → Int → Option ((List Int) × Unit)) (a : List Int) : Option ((List Int) × Unit) :=
  I0 a (a.length : Int)

def limbs_trim (K : Nat) (a : List Int) : Option ((List Int) × Unit) := limbs_trim_b (limbs_trim_l0 K K) a


def S.limbs_trim (x : List Int × Unit) : Option (List Int × Unit) := if fine x.1 then some (trimL x.1, ()) else none
theorem trim_loop (K : Nat) (a : List Int) (ha : fine a) : ∀ (k n : Nat), k < n → k ≤ a.length → limbs_trim_l0 K n a (k : Int) = some (trimL (a.take k), ()) := by
  intro k
  unfold fine at ha
  induction k with
  | zero =>
    intro n hn hk
    obtain ⟨n, rfl⟩ : ∃ m, n = m + 1 := ⟨n - 1, by omega⟩
    simp [limbs_trim_l0, limbs_trim_s0, trimL]
  | succ k ih =>
    intro n hn hk
    obtain ⟨n, rfl⟩ : ∃ m, n = m + 1 := ⟨n - 1, by omega⟩
    have e : ((k + 1 : Nat) : Int) - 1 = (k : Int) := by omega
    have htake : a.take (k + 1) = a.take k ++ [a.getD k 0] := by
      rw [List.take_add_one]
      simp [List.getD, List.getElem?_eq_getElem (show k < a.length by omega)]
    simp only [limbs_trim_l0, limbs_trim_s0, e]
    rw [wi64 (by omega) (by omega), ct (by omega), ct (by omega), ct (by omega), Int.toNat_natCast]
    by_cases h0 : a.getD k 0 = 0
    · rw [ct h0, ih n (by omega) (by omega), htake, h0, trimL_snoc_zero]
    · rw [cf h0, ct (by omega), ct (by omega), ct (by omega), Int.toNat_natCast, htake, trimL_snoc h0]
theorem limbs_trim_ok (x : List Int × Unit) (y : List Int × Unit) (h : S.limbs_trim x = some y) : ∃ K, limbs_trim K x.1 = some y := by
  unfold S.limbs_trim at h
  split at h <;> cases h
  rename_i hf
  refine ⟨x.1.length + 1, ?_⟩
  simp only [limbs_trim, limbs_trim_b]
  rw [trim_loop _ _ hf _ _ (by omega) (Nat.le_refl _), List.take_length]

/-- limbs.fits -/
def limbs_fits (a : List Int) : Option ((List Int) × Int × Unit) :=
  (S.limbs_trim (a, ())).bind fun z1 =>
  cond (decide (512 < (z1.1.length : Int))) (some ([], 11, ())) (some (z1.1, 0, ()))


def S.limbs_fits (x : List Int × Unit) : Option (List Int × Int × Unit) := L.limbs_fits x.1
theorem fits_eq {a : List Int} (h : fine a) : S.limbs_fits (a, ()) = some (if (trimL a).length ≤ 512 then (trimL a, 0, ()) else ([], 11, ())) := by
  simp only [S.limbs_fits, L.limbs_fits, S.limbs_trim, if_pos h, Option.bind_some]
  by_cases hl : (trimL a).length ≤ 512
  · rw [if_pos hl, cf (by omega)]
  · rw [if_neg hl, ct (by omega)]

/-- limbs.Check -/
def limbs_Check (a : List Int) : Option (Int × Unit) :=
  cond (decide (512 < (a.length : Int))) (some (11, ()))
   (
   cond (decide (0 < (a.length : Int)))
   (
   let z1 := IntKind.i64.wrap ((a.length : Int) - 1)
   cond (decide (0 ≤ z1))
   (
   cond (decide (z1 < (a.length : Int)))
   (
   cond (decide ((a.getD z1.toNat 0) = 0)) (some (2, ())) (some (0, ()))) none) none) (some (0, ())))

def S.limbs_Check (x : List Int × Unit) : Option (Int × Unit) := L.limbs_Check x.1

/-- limbs.Of -/
def limbs_Of (n : Int) : Option ((List Int) × Unit) :=
  (S.limbs_trim ([(IntKind.u32.wrap n), (IntKind.u32.wrap (n.fdiv (2 ^ 32)))], ())).bind fun z4 =>
  some (z4.1, ())

def S.limbs_Of (x : Int × Unit) : Option (List Int × Unit) := L.limbs_Of x.1
end Go.L

/-! LB -/
namespace Go.L
open Go.PM
set_option linter.unusedVariables false
set_option linter.unusedSimpArgs false

/-- The base of the limbs. -/
abbrev W : Int := 4294967296
theorem pow32 : (2 : Int) ^ 32 = 4294967296 := by decide
theorem val_take_succ {B : Int} (a : List Int) (i : Nat) : val B (a.take (i + 1)) = val B (a.take i) + B ^ i * a.getD i 0 := by
  by_cases h : i < a.length
  · have : a.take (i + 1) = a.take i ++ [a.getD i 0] := by
      rw [List.take_add_one]
      simp [List.getD, List.getElem?_eq_getElem h]
    rw [this, val_append]
    simp [List.length_take, Nat.min_eq_left (Nat.le_of_lt h)]
  · rw [List.take_of_length_le (by omega), List.take_of_length_le (by omega)]
    simp [List.getD, List.getElem?_eq_none (show a.length ≤ i by omega)]
theorem getD_ok {B : Int} (hB : 0 < B) {a : List Int} (h : ok B a) (i : Nat) : 0 ≤ a.getD i 0 ∧ a.getD i 0 < B := by
  by_cases hi : i < a.length
  · have : a.getD i 0 = a[i] := by simp [List.getD, List.getElem?_eq_getElem hi]
    rw [this]; exact h _ (List.getElem_mem hi)
  · have : a.getD i 0 = 0 := by simp [List.getD, List.getElem?_eq_none (show a.length ≤ i by omega)]
    rw [this]; exact ⟨Int.le_refl _, hB⟩
theorem set_zeros (p : List Int) (r : Nat) (x : Int) : (p ++ List.replicate (r + 1) 0).set p.length x = (p ++ [x]) ++ List.replicate r 0 := by
  rw [List.set_append_right _ _ (Nat.le_refl _)]
  simp [List.replicate_succ]
theorem bind_eta {x : Option (List Int × Int × Unit)} : (x.bind fun z => some (z.1, z.2.1, ())) = x := by cases x <;> rfl

/-- A number as the functions answer it. -/
def res (n : Nat) : List Int × Int × Unit := if (dig 4294967296 n).length ≤ 512 then (dig 4294967296 n, 0, ()) else ([], 11, ())
theorem fits_res {q : List Int} (h : ok W q) (hf : fine q) : S.limbs_fits (q, ()) = some (res (val W q).toNat) := by
  rw [fits_eq hf, trimL_eq_dig (B := 4294967296) (by decide) h]
  rfl

/-- limbs_Add: one round of loop 0. -/
def limbs_Add_s0 (κ0 : (List Int) → (List Int) → (List Int) → Int → (List Int) → Int → Int → Option ((List Int) × Int × Unit)) (a : List Int) (b : List Int) (out : List Int) (carry : Int) (t21 : List Int) (t22 : Int) (t23 : Int) : Option ((List Int) × Int × Unit) :=
  cond (decide (t23 < t22))
   (
   cond (decide (0 ≤ t23))
   (
   cond (decide (t23 < (t21.length : Int)))
   (
   let z5 := IntKind.u64.wrap (carry + (IntKind.u64.wrap (t21.getD t23.toNat 0)))
   cond (decide (t23 < (b.length : Int)))
   (
   cond (decide (0 ≤ t23))
   (
   cond (decide (t23 < (b.length : Int)))
   (
   let z8 := IntKind.u64.wrap (z5 + (IntKind.u64.wrap (b.getD t23.toNat 0)))
   cond (decide (0 ≤ t23))
   (
   cond (decide (t23 < (out.length : Int)))
   (
   κ0 a b (out.set t23.toNat (IntKind.u32.wrap z8)) (z8.fdiv (2 ^ 32)) t21 t22 (IntKind.i64.wrap (t23 + 1))) none) none) none) none)
   (
   cond (decide (0 ≤ t23))
   (
   cond (decide (t23 < (out.length : Int)))
   (
   κ0 a b (out.set t23.toNat (IntKind.u32.wrap z5)) (z5.fdiv (2 ^ 32)) t21 t22 (IntKind.i64.wrap (t23 + 1))) none) none)) none) none)
   (
   cond (decide (0 ≤ (a.length : Int)))
   (
   cond (decide ((a.length : Int) < (out.length : Int)))
   (
   (S.limbs_fits ((out.set a.length (IntKind.u32.wrap carry)), ())).bind fun z19 =>
   some (z19.1, z19.2.1, ())) none) none)

def limbs_Add_l0 (K : Nat) : Nat → (List Int) → (List Int) → (List Int) → Int → (List Int) → Int → Int → Option ((List Int) × Int × Unit)
  | 0, _, _, _, _, _, _, _ => none
  | n + 1, a, b, out, carry, t21, t22, t23 => limbs_Add_s0 (limbs_Add_l0 K n) a b out carry t21 t22 t23

/-- limbs.Add -/
def limbs_Add_b (I0 : (List Int) → (List Int) → (List Int) → Int → (List Int) → Int → Int → Option ((List Int) × Int × Unit)) (a : List Int) (b : List Int) : Option ((List Int) × Int × Unit) :=
  cond (decide ((a.length : Int) < (b.length : Int)))
   (
   let z1 := IntKind.i64.wrap ((b.length : Int) + 1)
   cond (decide (0 ≤ z1))
   (
   cond (decide (z1 * 4 ≤ 140737488351232)) (I0 b a (List.replicate z1.toNat 0 : List Int) 0 b (b.length : Int) 0) none) none)
   (
   let z20 := IntKind.i64.wrap ((a.length : Int) + 1)
   cond (decide (0 ≤ z20))
   (
   cond (decide (z20 * 4 ≤ 140737488351232)) (I0 a b (List.replicate z20.toNat 0 : List Int) 0 a (a.length : Int) 0) none) none)

def limbs_Add (K : Nat) (a : List Int) (b : List Int) : Option ((List Int) × Int × Unit) := limbs_Add_b (limbs_Add_l0 K K) a b


def S.limbs_Add (x : List Int × List Int × Unit) : Option (List Int × Int × Unit) :=
  if x.1.length ≤ 1099511627000 ∧ x.2.1.length ≤ 1099511627000 ∧ ok W x.1 ∧ ok W x.2.1 then some (res (val W x.1 + val W x.2.1).toNat) else none

theorem add_loop (K : Nat) (a b : List Int) (ha : a.length ≤ 1099511627000) (oa : ok W a) (ob : ok W b) (hab : b.length ≤ a.length) : ∀ (r i n : Nat) (p : List Int) (carry : Int), i + r = a.length → r < n → p.length = i → ok W p → 0 ≤ carry → carry ≤ 1 →
    val W p + W ^ i * carry = val W (a.take i) + val W (b.take i) →
    limbs_Add_l0 K n a b (p ++ List.replicate (r + 1) 0) carry a (a.length : Int) (i : Int) = some (res (val W a + val W b).toNat) := by
  intro r
  induction r with
  | zero =>
    intro i n p carry hi hn hp op c0 c1 hv
    obtain ⟨n, rfl⟩ : ∃ m, n = m + 1 := ⟨n - 1, by omega⟩
    have hi' : i = a.length := by omega
    subst hi'
    simp only [limbs_Add_l0, limbs_Add_s0]
    rw [cf (by omega), ct (by omega), ct (by simp; omega), bind_eta, ← hp, set_zeros, List.replicate_zero, List.append_nil, wu32, Int.emod_eq_of_lt c0 (by omega)]
    have hq : ok W (p ++ [carry]) := ok_append.2 ⟨op, ok_cons.2 ⟨⟨c0, by simp only [W]; omega⟩, ok_nil⟩⟩
    rw [fits_res hq (by unfold fine; simp; omega), val_append]
    rw [List.take_length, List.take_of_length_le hab] at hv
    simp only [val_cons, val_nil, Int.mul_zero, Int.add_zero]
    rw [hp, hv]
  | succ r ih =>
    intro i n p carry hi hn hp op c0 c1 hv
    obtain ⟨n, rfl⟩ : ∃ m, n = m + 1 := ⟨n - 1, by omega⟩
    have ga := getD_ok (B := W) (by decide) oa i
    have gb := getD_ok (B := W) (by decide) ob i
    simp only [W] at ga gb
    have hlen : (i : Int) < ((p ++ List.replicate (r + 1 + 1) (0 : Int)).length : Int) := by simp; omega
    simp only [limbs_Add_l0, limbs_Add_s0, Int.toNat_natCast]
    rw [ct (by omega), ct (by omega), ct (by omega), wu64 ga.1 (by omega), wu64 (show 0 ≤ carry + a.getD i 0 by omega) (by omega)]
    have key : ∀ z : Int, z = carry + a.getD i 0 + b.getD i 0 → limbs_Add_l0 K n a b ((p ++ List.replicate (r + 1 + 1) 0).set i (IntKind.u32.wrap z)) (z.fdiv (2 ^ 32)) a (a.length : Int) (IntKind.i64.wrap ((i : Int) + 1)) = some (res (val W a + val W b).toNat) := by
      intro z hz
      have hz0 : 0 ≤ z := by omega
      have hz1 : z < 8589934592 := by omega
      rw [wu32, pow32, Int.fdiv_eq_ediv_of_nonneg _ (by decide), wi64 (by omega) (by omega)]
      conv => lhs; arg 5; rw [← hp, set_zeros]
      rw [show ((i : Int) + 1) = ((i + 1 : Nat) : Int) by omega]
      refine ih (i + 1) n (p ++ [z % 4294967296]) (z / 4294967296) (by omega) (by omega) (by simp [hp]) (ok_append.2 ⟨op, ok_cons.2 ⟨⟨by omega, by simp only [W]; omega⟩, ok_nil⟩⟩) (by omega) (by omega) ?_
      rw [val_append, val_take_succ, val_take_succ, hp, Int.pow_succ]
      simp only [val_cons, val_nil, Int.mul_zero, Int.add_zero]
      have e1 : W ^ i * (z % 4294967296) + W ^ i * W * (z / 4294967296) = W ^ i * z := by
        rw [Int.mul_assoc, ← Int.mul_add]
        congr 1
        simp only [W]; omega
      have e2 : W ^ i * z = W ^ i * carry + W ^ i * a.getD i 0 + W ^ i * b.getD i 0 := by rw [hz, Int.mul_add, Int.mul_add]
      omega
    by_cases hb : (i : Int) < (b.length : Int)
    · rw [ct hb, ct (by omega), ct hb, wu64 gb.1 (by omega), wu64 (show 0 ≤ carry + a.getD i 0 + b.getD i 0 by omega) (by omega), ct (by omega), ct hlen]
      exact key _ rfl
    · have hb0 : b.getD i 0 = 0 := by simp [List.getD, List.getElem?_eq_none (show b.length ≤ i by omega)]
      rw [cf hb, ct (by omega), ct hlen]
      exact key _ (by omega)

theorem limbs_Add_ok (x : List Int × List Int × Unit) (y : List Int × Int × Unit) (h : S.limbs_Add x = some y) : ∃ K, limbs_Add K x.1 x.2.1 = some y := by
  unfold S.limbs_Add at h
  split at h <;> cases h
  rename_i hh
  obtain ⟨ha, hb, oa, ob⟩ := hh
  obtain ⟨a, b, _⟩ := x
  simp only at ha hb oa ob ⊢
  refine ⟨a.length + b.length + 1, ?_⟩
  simp only [limbs_Add, limbs_Add_b]
  by_cases hab : (a.length : Int) < (b.length : Int)
  · rw [ct hab, wi64 (by omega) (by omega), ct (by omega), ct (by omega)]
    have := add_loop (a.length + b.length + 1) b a hb ob oa (by omega) b.length 0 (a.length + b.length + 1) [] 0 (by omega) (by omega) rfl ok_nil (by decide) (by decide) (by simp)
    rw [show ((b.length : Int) + 1).toNat = b.length + 1 by omega]
    rw [Int.add_comm (val W a)]
    exact this
  · rw [cf hab, wi64 (by omega) (by omega), ct (by omega), ct (by omega)]
    have := add_loop (a.length + b.length + 1) a b ha oa ob (by omega) a.length 0 (a.length + b.length + 1) [] 0 (by omega) (by omega) rfl ok_nil (by decide) (by decide) (by simp)
    rw [show ((a.length : Int) + 1).toNat = a.length + 1 by omega]
    exact this
end Go.L

/-! LC -/
namespace Go.L
open Go.PM
set_option linter.unusedVariables false
set_option linter.unusedSimpArgs false

/-- Which of two rows of digits of one length is the greater: the highest digit that differs. -/
def cmpD : List Int → List Int → Int
  | x :: xs, y :: ys => if cmpD xs ys = 0 then (if x < y then -1 else if y < x then 1 else 0) else cmpD xs ys
  | _, _ => 0
def cmpL (a b : List Int) : Int := if a.length < b.length then -1 else if b.length < a.length then 1 else cmpD a b
def S.limbs_Compare (x : List Int × List Int × Unit) : Option (Int × Unit) := if fine x.1 ∧ fine x.2.1 then some (cmpL x.1 x.2.1, ()) else none

/-- A number as it should be: digits in range, none at the end that is nought. -/
def can (a : List Int) : Prop := ok W a ∧ trimL a = a
instance (a : List Int) : Decidable (can a) := inferInstanceAs (Decidable (_ ∧ _))
theorem can_dig (n : Nat) : can (dig 4294967296 n) := ⟨(dig_spec (B := 4294967296) (by decide) n).1, (dig_spec (B := 4294967296) (by decide) n).2.1⟩
theorem val_dig (n : Nat) : val W (dig 4294967296 n) = n := (dig_spec (B := 4294967296) (by decide) n).2.2
theorem can_eq {a : List Int} (h : can a) : a = dig 4294967296 (val W a).toNat := by
  have := trimL_eq_dig (B := 4294967296) (by decide) h.1
  rw [h.2] at this
  exact this
theorem cmpD_spec : ∀ {a b : List Int}, a.length = b.length → ok W a → ok W b →
    (cmpD a b = -1 ∧ val W a < val W b) ∨ (cmpD a b = 0 ∧ val W a = val W b) ∨ (cmpD a b = 1 ∧ val W b < val W a)
  | [], [], _, _, _ => .inr (.inl ⟨rfl, rfl⟩)
  | [], _ :: _, h, _, _ => by simp at h
  | _ :: _, [], h, _, _ => by simp at h
  | x :: a, y :: b, h, oa, ob => by
    rw [ok_cons] at oa ob
    simp only [W] at oa ob
    simp only [cmpD, val_cons, W]
    rcases cmpD_spec (a := a) (b := b) (by simpa using h) oa.2 ob.2 with ⟨h1, h2⟩ | ⟨h1, h2⟩ | ⟨h1, h2⟩
    · simp only [W] at h2
      rw [h1, if_neg (by decide)]
      exact .inl ⟨rfl, by omega⟩
    · simp only [W] at h2
      rw [h1, if_pos rfl, h2]
      by_cases hxy : x < y
      · rw [if_pos hxy]; exact .inl ⟨rfl, by omega⟩
      · rw [if_neg hxy]
        by_cases hyx : y < x
        · rw [if_pos hyx]; exact .inr (.inr ⟨rfl, by omega⟩)
        · rw [if_neg hyx]; exact .inr (.inl ⟨rfl, by omega⟩)
    · simp only [W] at h2
      rw [h1, if_neg (by decide)]
      exact .inr (.inr ⟨rfl, by omega⟩)

/-- A number with more digits is greater. -/
theorem can_low {a : List Int} (h : can a) (hne : a ≠ []) : W ^ (a.length - 1) ≤ val W a := by
  have aux : ∀ (n : Nat) (a : List Int), a.length = n + 1 → ok W a → trimL a = a → W ^ n ≤ val W a := by
    intro n
    induction n with
    | zero =>
      intro a hl ho ht
      have := trimL_pos (B := W) (by decide) ho ht (by intro e; subst e; simp at hl)
      simp; omega
    | succ n ih =>
      intro a hl ho ht
      match a, hl with
      | x :: a, hl =>
        rw [ok_cons] at ho
        simp only [trimL] at ht
        have hta : trimL a = a := by
          split at ht
          · split at ht
            · cases ht
            · have := (List.cons.inj ht).2; subst this; simp at hl
          · rename_i hq; rw [hq]; exact (List.cons.inj ht).2
        have := ih a (by simpa using hl) ho.2 hta
        have h2 : W * W ^ n ≤ W * val W a := Int.mul_le_mul_of_nonneg_left this (by decide)
        rw [Int.pow_succ, val_cons, Int.mul_comm]
        omega
  refine aux (a.length - 1) a ?_ h.1 h.2
  have : a.length ≠ 0 := by intro e; exact hne (List.eq_nil_of_length_eq_zero e)
  omega
theorem can_length_lt {a b : List Int} (ha : can a) (hb : can b) (h : a.length < b.length) : val W a < val W b := by
  have h1 := val_lt (B := W) (by decide) ha.1
  have h2 := can_low hb (by intro e; subst e; simp at h)
  have h3 : W ^ a.length ≤ W ^ (b.length - 1) := by
    obtain ⟨d, hd⟩ : ∃ d, b.length - 1 = a.length + d := ⟨b.length - 1 - a.length, by omega⟩
    rw [hd, Int.pow_add]
    have h4 : 0 < W ^ a.length := Int.pow_pos (by decide)
    have h5 : 0 < W ^ d := Int.pow_pos (by decide)
    have := Int.mul_le_mul_of_nonneg_left (show 1 ≤ W ^ d by omega) (Int.le_of_lt h4)
    omega
  omega
theorem cmpL_spec {a b : List Int} (ha : can a) (hb : can b) : (cmpL a b = -1 ∧ val W a < val W b) ∨ (cmpL a b = 0 ∧ val W a = val W b) ∨ (cmpL a b = 1 ∧ val W b < val W a) := by
  unfold cmpL
  by_cases h : a.length < b.length
  · rw [if_pos h]; exact .inl ⟨rfl, can_length_lt ha hb h⟩
  · rw [if_neg h]
    by_cases h' : b.length < a.length
    · rw [if_pos h']; exact .inr (.inr ⟨rfl, can_length_lt hb ha h'⟩)
    · rw [if_neg h']; exact cmpD_spec (by omega) ha.1 hb.1

/-- limbs_Sub: one round of loop 0. -/
def limbs_Sub_s0 (κ0 : (List Int) → (List Int) → Int → (List Int) → Int → Int → Option ((List Int) × Int × Unit)) (b : List Int) (out : List Int) (owed : Int) (t19 : List Int) (t20 : Int) (t21 : Int) : Option ((List Int) × Int × Unit) :=
  cond (decide (t21 < t20))
   (
   cond (decide (0 ≤ t21))
   (
   cond (decide (t21 < (t19.length : Int)))
   (
   let z3 := t19.getD t21.toNat 0
   cond (decide (t21 < (b.length : Int)))
   (
   cond (decide (0 ≤ t21))
   (
   cond (decide (t21 < (b.length : Int)))
   (
   let z8 := IntKind.u64.wrap ((IntKind.u64.wrap z3) - (IntKind.u64.wrap (owed + (IntKind.u64.wrap (b.getD t21.toNat 0)))))
   cond (decide (0 ≤ t21))
   (
   cond (decide (t21 < (out.length : Int)))
   (
   κ0 b (out.set t21.toNat (IntKind.u32.wrap z8)) (z8.fdiv (2 ^ 63)) t19 t20 (IntKind.i64.wrap (t21 + 1))) none) none) none) none)
   (
   let z14 := IntKind.u64.wrap ((IntKind.u64.wrap z3) - owed)
   cond (decide (0 ≤ t21))
   (
   cond (decide (t21 < (out.length : Int)))
   (
   κ0 b (out.set t21.toNat (IntKind.u32.wrap z14)) (z14.fdiv (2 ^ 63)) t19 t20 (IntKind.i64.wrap (t21 + 1))) none) none)) none) none)
   (
   (S.limbs_fits (out, ())).bind fun z19 =>
   some (z19.1, z19.2.1, ()))

def limbs_Sub_l0 (K : Nat) : Nat → (List Int) → (List Int) → Int → (List Int) → Int → Int → Option ((List Int) × Int × Unit)
  | 0, _, _, _, _, _, _ => none
  | n + 1, b, out, owed, t19, t20, t21 => limbs_Sub_s0 (limbs_Sub_l0 K n) b out owed t19 t20 t21

/-- limbs.Sub -/
def limbs_Sub_b (I0 : (List Int) → (List Int) → Int → (List Int) → Int → Int → Option ((List Int) × Int × Unit)) (a : List Int) (b : List Int) : Option ((List Int) × Int × Unit) :=
  (S.limbs_Compare (a, b, ())).bind fun z1 =>
  cond (decide (z1.1 < 0)) (some ([], 12, ()))
   (
   cond (decide (0 ≤ (a.length : Int)))
   (
   cond (decide ((a.length : Int) * 4 ≤ 140737488351232)) (I0 b (List.replicate a.length 0 : List Int) 0 a (a.length : Int) 0) none) none)

def limbs_Sub (K : Nat) (a : List Int) (b : List Int) : Option ((List Int) × Int × Unit) := limbs_Sub_b (limbs_Sub_l0 K K) a b


def S.limbs_Sub (x : List Int × List Int × Unit) : Option (List Int × Int × Unit) :=
  if fine x.1 ∧ fine x.2.1 ∧ can x.1 ∧ can x.2.1 then some (if val W x.1 < val W x.2.1 then ([], 12, ()) else res (val W x.1 - val W x.2.1).toNat) else none

theorem sub_loop (K : Nat) (a b : List Int) (ha : fine a) (oa : ok W a) (ob : ok W b) (hab : b.length ≤ a.length) (hv0 : val W b ≤ val W a) : ∀ (r i n : Nat) (p : List Int) (owed : Int), i + r = a.length → r < n → p.length = i → ok W p → 0 ≤ owed → owed ≤ 1 →
    val W p - W ^ i * owed = val W (a.take i) - val W (b.take i) →
    limbs_Sub_l0 K n b (p ++ List.replicate r 0) owed a (a.length : Int) (i : Int) = some (res (val W a - val W b).toNat) := by
  intro r
  unfold fine at ha
  induction r with
  | zero =>
    intro i n p owed hi hn hp op c0 c1 hv
    obtain ⟨n, rfl⟩ : ∃ m, n = m + 1 := ⟨n - 1, by omega⟩
    have hi' : i = a.length := by omega
    subst hi'
    simp only [limbs_Sub_l0, limbs_Sub_s0]
    rw [cf (by omega), bind_eta, List.replicate_zero, List.append_nil]
    rw [fits_res op (by unfold fine; omega)]
    rw [List.take_length, List.take_of_length_le hab] at hv
    have hlt := val_lt (B := W) (by decide) op
    rw [hp] at hlt
    have : owed = 0 := by
      rcases (by omega : owed = 0 ∨ owed = 1) with h | h
      · exact h
      · subst h; omega
    subst this
    rw [Int.mul_zero, Int.sub_zero] at hv
    rw [hv]
  | succ r ih =>
    intro i n p owed hi hn hp op c0 c1 hv
    obtain ⟨n, rfl⟩ : ∃ m, n = m + 1 := ⟨n - 1, by omega⟩
    have ga := getD_ok (B := W) (by decide) oa i
    have gb := getD_ok (B := W) (by decide) ob i
    simp only [W] at ga gb
    have hlen : (i : Int) < ((p ++ List.replicate (r + 1) (0 : Int)).length : Int) := by simp; omega
    simp only [limbs_Sub_l0, limbs_Sub_s0, Int.toNat_natCast]
    rw [ct (by omega), ct (by omega), ct (by omega), wu64 ga.1 (by omega)]
    have key : ∀ z : Int, z = a.getD i 0 - owed - b.getD i 0 → limbs_Sub_l0 K n b ((p ++ List.replicate (r + 1) 0).set i (IntKind.u32.wrap (IntKind.u64.wrap z))) ((IntKind.u64.wrap z).fdiv (2 ^ 63)) a (a.length : Int) (IntKind.i64.wrap ((i : Int) + 1)) = some (res (val W a - val W b).toNat) := by
      intro z hz
      rw [wu32, show (2 : Int) ^ 63 = 9223372036854775808 by decide, Int.fdiv_eq_ediv_of_nonneg _ (by decide), wi64 (by omega) (by omega), wu64m]
      conv => lhs; arg 4; rw [← hp, set_zeros]
      rw [show ((i : Int) + 1) = ((i + 1 : Nat) : Int) by omega]
      refine ih (i + 1) n (p ++ [z % 18446744073709551616 % 4294967296]) (z % 18446744073709551616 / 9223372036854775808) (by omega) (by omega) (by simp [hp]) (ok_append.2 ⟨op, ok_cons.2 ⟨⟨by omega, by simp only [W]; omega⟩, ok_nil⟩⟩) (by omega) (by omega) ?_
      rw [val_append, val_take_succ, val_take_succ, hp, Int.pow_succ]
      simp only [val_cons, val_nil, Int.mul_zero, Int.add_zero]
      have e1 : W ^ i * (z % 18446744073709551616 % 4294967296) - W ^ i * W * (z % 18446744073709551616 / 9223372036854775808) = W ^ i * z := by
        rw [Int.mul_assoc, ← Int.mul_sub]
        congr 1
        simp only [W]; omega
      have e2 : W ^ i * z = W ^ i * a.getD i 0 - W ^ i * owed - W ^ i * b.getD i 0 := by rw [hz, Int.mul_sub, Int.mul_sub]
      omega
    by_cases hb : (i : Int) < (b.length : Int)
    · rw [ct hb, ct (by omega), ct hb, wu64 gb.1 (by omega), wu64 (show 0 ≤ owed + b.getD i 0 by omega) (by omega), ct (by omega), ct hlen]
      exact key _ (by omega)
    · have hb0 : b.getD i 0 = 0 := by simp [List.getD, List.getElem?_eq_none (show b.length ≤ i by omega)]
      rw [cf hb, ct (by omega), ct hlen]
      exact key _ (by omega)

theorem limbs_Sub_ok (x : List Int × List Int × Unit) (y : List Int × Int × Unit) (h : S.limbs_Sub x = some y) : ∃ K, limbs_Sub K x.1 x.2.1 = some y := by
  unfold S.limbs_Sub at h
  split at h <;> cases h
  rename_i hh
  obtain ⟨ha, hb, ca, cb⟩ := hh
  obtain ⟨a, b, _⟩ := x
  simp only at ha hb ca cb ⊢
  refine ⟨a.length + 1, ?_⟩
  simp only [limbs_Sub, limbs_Sub_b, S.limbs_Compare]
  rw [if_pos ⟨ha, hb⟩]
  simp only [Option.bind_some]
  unfold fine at ha
  rcases cmpL_spec ca cb with ⟨h1, h2⟩ | ⟨h1, h2⟩ | ⟨h1, h2⟩
  · rw [h1, ct (by decide), if_pos h2]
  · rw [h1, cf (by decide), if_neg (by omega), ct (by omega), ct (by omega)]
    have hl : b.length ≤ a.length := by
      rcases Nat.lt_or_ge a.length b.length with h | h
      · have := can_length_lt ca cb h; omega
      · exact h
    exact sub_loop (a.length + 1) a b ha ca.1 cb.1 hl (by omega) a.length 0 (a.length + 1) [] 0 (by omega) (by omega) rfl ok_nil (by decide) (by decide) (by simp)
  · rw [h1, cf (by decide), if_neg (by omega), ct (by omega), ct (by omega)]
    have hl : b.length ≤ a.length := by
      rcases Nat.lt_or_ge a.length b.length with h | h
      · have := can_length_lt ca cb h; omega
      · exact h
    exact sub_loop (a.length + 1) a b ha ca.1 cb.1 hl (by omega) a.length 0 (a.length + 1) [] 0 (by omega) (by omega) rfl ok_nil (by decide) (by decide) (by simp)
end Go.L

/-! LD -/
namespace Go.L
open Go.PM
set_option linter.unusedVariables false
set_option linter.unusedSimpArgs false

theorem val_set {B : Int} : ∀ (a : List Int) (j : Nat) (x : Int), j < a.length → val B (a.set j x) = val B a + B ^ j * (x - a.getD j 0)
  | [], _, _, h => by simp at h
  | y :: a, 0, x, _ => by simp; omega
  | y :: a, j + 1, x, h => by
    have := val_set (B := B) a j x (by simpa using h)
    simp only [List.set_cons_succ, val_cons, this, List.getD_cons_succ, Int.pow_succ]
    rw [Int.mul_add, ← Int.mul_assoc, Int.mul_comm B (B ^ j), Int.add_assoc]
theorem ok_set {B : Int} {a : List Int} (h : ok B a) {j : Nat} {x : Int} (h0 : 0 ≤ x) (h1 : x < B) : ok B (a.set j x) := by
  intro y hy
  rcases List.mem_or_eq_of_mem_set hy with hy | hy
  · exact h y hy
  · rw [hy]; exact ⟨h0, h1⟩
theorem getD_set_same {a : List Int} {j : Nat} {x : Int} (h : j < a.length) : (a.set j x).getD j 0 = x := by simp [List.getD, h]
theorem getD_set_ne {a : List Int} {j k : Nat} {x : Int} (h : j ≠ k) : (a.set j x).getD k 0 = a.getD k 0 := by simp [List.getD, List.getElem?_set_ne h]
theorem mul_in {x y : Int} (hx : 0 ≤ x) (hx' : x < 4294967296) (hy : 0 ≤ y) (hy' : y < 4294967296) : 0 ≤ x * y ∧ x * y ≤ 18446744065119617025 := by
  refine ⟨Int.mul_nonneg hx hy, ?_⟩
  have := Int.mul_le_mul (show x ≤ 4294967295 by omega) (show y ≤ 4294967295 by omega) hy (by decide)
  omega

/-- limbs_Mul: one round of loop 1. -/
def limbs_Mul_s1 (κ0 : (List Int) → (List Int) → (List Int) → Int → Int → Option ((List Int) × Int × Unit)) (κ1 : (List Int) → (List Int) → Int → Int → Int → (List Int) → Int → Int → (List Int) → Int → Int → Option ((List Int) × Int × Unit)) (b : List Int) (out : List Int) (i : Int) (x : Int) (carry : Int) (t32 : List Int) (t33 : Int) (t34 : Int) (t39 : List Int) (t40 : Int) (t41 : Int) : Option ((List Int) × Int × Unit) :=
  cond (decide (t41 < t40))
   (
   cond (decide (0 ≤ t41))
   (
   cond (decide (t41 < (t39.length : Int)))
   (
   let z9 := IntKind.i64.wrap (i + t41)
   cond (decide (0 ≤ z9))
   (
   cond (decide (z9 < (out.length : Int)))
   (
   let z13 := IntKind.u64.wrap (carry + (IntKind.u64.wrap ((IntKind.u64.wrap ((IntKind.u64.wrap x) * (IntKind.u64.wrap (t39.getD t41.toNat 0)))) + (IntKind.u64.wrap (out.getD z9.toNat 0)))))
   let z14 := IntKind.i64.wrap (i + t41)
   cond (decide (0 ≤ z14))
   (
   cond (decide (z14 < (out.length : Int)))
   (
   κ1 b (out.set z14.toNat (IntKind.u32.wrap z13)) i x (z13.fdiv (2 ^ 32)) t32 t33 t34 t39 t40 (IntKind.i64.wrap (t41 + 1))) none) none) none) none) none) none)
   (
   let z19 := IntKind.i64.wrap (i + (b.length : Int))
   cond (decide (0 ≤ z19))
   (
   cond (decide (z19 < (out.length : Int))) (κ0 b (out.set z19.toNat (IntKind.u32.wrap carry)) t32 t33 (IntKind.i64.wrap (t34 + 1))) none) none)

def limbs_Mul_l1 (K : Nat) (κ0 : (List Int) → (List Int) → (List Int) → Int → Int → Option ((List Int) × Int × Unit)) : Nat → (List Int) → (List Int) → Int → Int → Int → (List Int) → Int → Int → (List Int) → Int → Int → Option ((List Int) × Int × Unit)
  | 0, _, _, _, _, _, _, _, _, _, _, _ => none
  | n + 1, b, out, i, x, carry, t32, t33, t34, t39, t40, t41 => limbs_Mul_s1 κ0 (limbs_Mul_l1 K κ0 n) b out i x carry t32 t33 t34 t39 t40 t41

/-- limbs_Mul: one round of loop 0. -/
def limbs_Mul_s0 (I1 : (List Int) → (List Int) → Int → Int → Int → (List Int) → Int → Int → (List Int) → Int → Int → Option ((List Int) × Int × Unit)) (κ0 : (List Int) → (List Int) → (List Int) → Int → Int → Option ((List Int) × Int × Unit)) (b : List Int) (out : List Int) (t32 : List Int) (t33 : Int) (t34 : Int) : Option ((List Int) × Int × Unit) :=
  cond (decide (t34 < t33))
   (
   cond (decide (0 ≤ t34))
   (
   cond (decide (t34 < (t32.length : Int))) (I1 b out t34 (t32.getD t34.toNat 0) 0 t32 t33 t34 b (b.length : Int) 0) none) none)
   (
   (S.limbs_fits (out, ())).bind fun z23 =>
   some (z23.1, z23.2.1, ()))

def limbs_Mul_l0 (K : Nat) : Nat → (List Int) → (List Int) → (List Int) → Int → Int → Option ((List Int) × Int × Unit)
  | 0, _, _, _, _, _ => none
  | n + 1, b, out, t32, t33, t34 => limbs_Mul_s0 (limbs_Mul_l1 K (limbs_Mul_l0 K n) K) (limbs_Mul_l0 K n) b out t32 t33 t34

/-- limbs.Mul -/
def limbs_Mul_b (I0 : (List Int) → (List Int) → (List Int) → Int → Int → Option ((List Int) × Int × Unit)) (a : List Int) (b : List Int) : Option ((List Int) × Int × Unit) :=
  cond (decide ((a.length : Int) = 0)) (some ([], 0, ()))
   (
   cond (decide ((b.length : Int) = 0)) (some ([], 0, ()))
   (
   cond (decide (513 < (IntKind.i64.wrap ((a.length : Int) + (b.length : Int))))) (some ([], 11, ()))
   (
   let z2 := IntKind.i64.wrap ((a.length : Int) + (b.length : Int))
   cond (decide (0 ≤ z2))
   (
   cond (decide (z2 * 4 ≤ 140737488351232)) (I0 b (List.replicate z2.toNat 0 : List Int) a (a.length : Int) 0) none) none)))

def limbs_Mul (K : Nat) (a : List Int) (b : List Int) : Option ((List Int) × Int × Unit) := limbs_Mul_b (limbs_Mul_l0 K K) a b


def S.limbs_Mul (x : List Int × List Int × Unit) : Option (List Int × Int × Unit) :=
  if fine x.1 ∧ fine x.2.1 ∧ ok W x.1 ∧ ok W x.2.1 then some (if x.1 ≠ [] ∧ x.2.1 ≠ [] ∧ 513 < x.1.length + x.2.1.length then ([], 11, ()) else res (val W x.1 * val W x.2.1).toNat) else none

theorem mul_in_loop (K : Nat) (κ0 : (List Int) → (List Int) → (List Int) → Int → Int → Option ((List Int) × Int × Unit)) (a b : List Int) (hb : fine b) (ha : fine a) (ob : ok W b) (i : Nat) (x : Int) (hx : 0 ≤ x) (hx' : x < W) (hi : i < a.length) (out0 : List Int) :
    ∀ (r k n : Nat) (out : List Int) (carry : Int), k + r = b.length → r < n → out.length = a.length + b.length → ok W out → 0 ≤ carry → carry < W → (∀ j, i + b.length ≤ j → out.getD j 0 = 0) →
    val W out + W ^ (i + k) * carry = val W out0 + W ^ i * (x * val W (b.take k)) →
    ∃ out', limbs_Mul_l1 K κ0 n b out (i : Int) x carry a (a.length : Int) (i : Int) b (b.length : Int) (k : Int) = κ0 b out' a (a.length : Int) ((i + 1 : Nat) : Int) ∧ out'.length = a.length + b.length ∧ ok W out' ∧
      (∀ j, i + 1 + b.length ≤ j → out'.getD j 0 = 0) ∧ val W out' = val W out0 + W ^ i * (x * val W b) := by
  unfold fine at ha hb
  intro r
  induction r with
  | zero =>
    intro k n out carry hk hn hl ho c0 c1 hz hv
    obtain ⟨n, rfl⟩ : ∃ m, n = m + 1 := ⟨n - 1, by omega⟩
    have hk' : k = b.length := by omega
    subst hk'
    simp only [W] at c1
    simp only [limbs_Mul_l1, limbs_Mul_s1]
    rw [cf (by omega), wi64 (by omega) (by omega), ct (by omega), ct (by omega), wi64 (by omega) (by omega), wu32, Int.emod_eq_of_lt c0 c1]
    rw [show ((i : Int) + (b.length : Int)).toNat = i + b.length by omega, show ((i : Int) + 1) = ((i + 1 : Nat) : Int) by omega]
    refine ⟨_, rfl, by simpa using hl, ok_set ho c0 c1, fun j hj => ?_, ?_⟩
    · rw [getD_set_ne (by omega)]; exact hz j (by omega)
    · rw [val_set _ _ _ (by omega), hz _ (Nat.le_refl _), Int.sub_zero]
      rw [List.take_length] at hv
      exact hv
  | succ r ih =>
    intro k n out carry hk hn hl ho c0 c1 hz hv
    obtain ⟨n, rfl⟩ : ∃ m, n = m + 1 := ⟨n - 1, by omega⟩
    have gb := getD_ok (B := W) (by decide) ob k
    have go := getD_ok (B := W) (by decide) ho (i + k)
    simp only [W] at gb go c1 hx'
    have hm := mul_in hx hx' gb.1 gb.2
    simp only [limbs_Mul_l1, limbs_Mul_s1, Int.toNat_natCast]
    have eik : ((i : Int) + (k : Int)).toNat = i + k := by omega
    rw [ct (by omega), ct (by omega), ct (by omega), wi64 (show -9223372036854775808 ≤ (i : Int) + k by omega) (by omega), eik, ct (by omega), ct (by omega), ct (by omega), ct (by omega)]
    rw [wu64 hx (by omega), wu64 gb.1 (by omega), wu64 hm.1 (by omega), wu64 go.1 (by omega), wu64 (show 0 ≤ x * b.getD k 0 + out.getD (i + k) 0 by omega) (by omega), wu64 (show 0 ≤ carry + (x * b.getD k 0 + out.getD (i + k) 0) by omega) (by omega)]
    obtain ⟨z, hz'⟩ : ∃ z, z = carry + (x * b.getD k 0 + out.getD (i + k) 0) := ⟨_, rfl⟩
    rw [← hz', wu32, pow32, Int.fdiv_eq_ediv_of_nonneg _ (by decide), wi64 (by omega) (by omega), show ((k : Int) + 1) = ((k + 1 : Nat) : Int) by omega]
    refine ih (k + 1) n _ _ (by omega) (by omega) (by simpa using hl) (ok_set ho (by omega) (by simp only [W]; omega)) (by omega) (by simp only [W]; omega) (fun j hj => by rw [getD_set_ne (by omega)]; exact hz j hj) ?_
    rw [val_set _ _ _ (by omega), val_take_succ, ← Nat.add_assoc, Int.pow_succ]
    have e1 : W ^ (i + k) * (z % 4294967296 - out.getD (i + k) 0) + W ^ (i + k) * W * (z / 4294967296) = W ^ (i + k) * carry + W ^ (i + k) * (x * b.getD k 0) := by
      rw [Int.mul_assoc, ← Int.mul_add, ← Int.mul_add]
      congr 1
      simp only [W]; omega
    have e2 : W ^ (i + k) * (x * b.getD k 0) = W ^ i * (x * (W ^ k * b.getD k 0)) := by
      rw [Int.pow_add, Int.mul_assoc, ← Int.mul_assoc x, Int.mul_comm x (W ^ k), Int.mul_assoc (W ^ k)]
    rw [Int.mul_add x, Int.mul_add (W ^ i)]
    omega

theorem mul_loop (K : Nat) (a b : List Int) (ha : fine a) (hb : fine b) (oa : ok W a) (ob : ok W b) (hK : b.length < K) : ∀ (r i n : Nat) (out : List Int), i + r = a.length → r < n → out.length = a.length + b.length → ok W out → (∀ j, i + b.length ≤ j → out.getD j 0 = 0) →
    val W out = val W (a.take i) * val W b → a.length + b.length ≤ 513 →
    limbs_Mul_l0 K n b out a (a.length : Int) (i : Int) = some (res (val W a * val W b).toNat) := by
  intro r
  induction r with
  | zero =>
    intro i n out hi hn hl ho hz hv hs
    obtain ⟨n, rfl⟩ : ∃ m, n = m + 1 := ⟨n - 1, by omega⟩
    have hi' : i = a.length := by omega
    subst hi'
    simp only [limbs_Mul_l0, limbs_Mul_s0]
    rw [cf (by omega), bind_eta, fits_res ho (by unfold fine; omega), hv, List.take_length]
  | succ r ih =>
    intro i n out hi hn hl ho hz hv hs
    obtain ⟨n, rfl⟩ : ∃ m, n = m + 1 := ⟨n - 1, by omega⟩
    have ga := getD_ok (B := W) (by decide) oa i
    simp only [limbs_Mul_l0, limbs_Mul_s0, Int.toNat_natCast]
    rw [ct (by omega), ct (by omega), ct (by omega)]
    obtain ⟨out', h1, h2, h3, h4, h5⟩ := mul_in_loop K (limbs_Mul_l0 K n) a b hb ha ob i _ ga.1 ga.2 (by omega) out b.length 0 K out 0 (by omega) hK hl ho (by decide) (by decide) hz (by simp)
    have h1' : limbs_Mul_l1 K (limbs_Mul_l0 K n) K b out (i : Int) (a.getD i 0) 0 a (a.length : Int) (i : Int) b (b.length : Int) 0 = _ := h1
    rw [h1']
    refine ih (i + 1) n out' (by omega) (by omega) h2 h3 (fun j hj => h4 j (by omega)) ?_ hs
    rw [h5, hv, val_take_succ, Int.add_mul, Int.mul_assoc]

theorem limbs_Mul_ok (x : List Int × List Int × Unit) (y : List Int × Int × Unit) (h : S.limbs_Mul x = some y) : ∃ K, limbs_Mul K x.1 x.2.1 = some y := by
  unfold S.limbs_Mul at h
  split at h <;> cases h
  rename_i hh
  obtain ⟨ha, hb, oa, ob⟩ := hh
  obtain ⟨a, b, _⟩ := x
  simp only at ha hb oa ob ⊢
  refine ⟨a.length + b.length + 1, ?_⟩
  simp only [limbs_Mul, limbs_Mul_b]
  have ha' := ha; have hb' := hb
  unfold fine at ha' hb'
  by_cases h0 : a = []
  · subst h0; rw [ct (by simp), if_neg (by simp)]; simp [res, dig, digF]
  rw [cf (by simp; exact h0)]
  by_cases h1 : b = []
  · subst h1; rw [ct (by simp), if_neg (by simp)]; simp [res, dig, digF]
  rw [cf (by simp; exact h1), wi64 (by omega) (by omega)]
  by_cases h2 : 513 < a.length + b.length
  · rw [ct (by omega), if_pos ⟨h0, h1, h2⟩]
  rw [cf (by omega), if_neg (fun h => h2 h.2.2), ct (by omega), ct (by omega), show ((a.length : Int) + (b.length : Int)).toNat = a.length + b.length by omega]
  refine mul_loop _ a b ha hb oa ob (by omega) a.length 0 _ _ (by omega) (by omega) (by simp) (ok_zeros (by decide) _) (fun j _ => ?_) (by rw [val_zeros]; simp) (by omega)
  simp [List.getD, List.getElem?_replicate]
  split <;> rfl
end Go.L

/-! LE -/
namespace Go.L
open Go.PM
set_option linter.unusedVariables false
set_option linter.unusedSimpArgs false

theorem or_u32 {h q s : Nat} (hh : h < 2 ^ s) (hl : 2 ^ s * q + h < 4294967296) : ibits .or .u32 (h : Int) ((2 ^ s * q : Nat) : Int) = ((2 ^ s * q + h : Nat) : Int) := by
  have e1 : h < 4294967296 := by omega
  have e2 : 2 ^ s * q < 4294967296 := by omega
  simp only [ibits, BitVec.ofInt_natCast, BitVec.toNat_or, BitVec.toNat_ofNat]
  have e3 : 2 ^ IntKind.u32.bits = 4294967296 := by decide
  rw [wu32, e3, Nat.mod_eq_of_lt e1, Nat.mod_eq_of_lt e2, Nat.or_comm, ← Nat.two_pow_add_eq_or_of_lt hh]
  omega
theorem or_u64 {h q s : Nat} (hh : h < 2 ^ s) (hl : 2 ^ s * q + h < 18446744073709551616) : ibits .or .u64 (h : Int) ((2 ^ s * q : Nat) : Int) = ((2 ^ s * q + h : Nat) : Int) := by
  have e1 : h < 18446744073709551616 := by omega
  have e2 : 2 ^ s * q < 18446744073709551616 := by omega
  simp only [ibits, BitVec.ofInt_natCast, BitVec.toNat_or, BitVec.toNat_ofNat]
  have e3 : 2 ^ IntKind.u64.bits = 18446744073709551616 := by decide
  rw [wu64m, e3, Nat.mod_eq_of_lt e1, Nat.mod_eq_of_lt e2, Nat.or_comm, ← Nat.two_pow_add_eq_or_of_lt hh]
  omega
theorem or_u64' {h q s : Nat} (hh : h < 2 ^ s) (hl : 2 ^ s * q + h < 18446744073709551616) : ibits .or .u64 ((2 ^ s * q : Nat) : Int) (h : Int) = ((2 ^ s * q + h : Nat) : Int) := by
  have e1 : h < 18446744073709551616 := by omega
  have e2 : 2 ^ s * q < 18446744073709551616 := by omega
  simp only [ibits, BitVec.ofInt_natCast, BitVec.toNat_or, BitVec.toNat_ofNat]
  have e3 : 2 ^ IntKind.u64.bits = 18446744073709551616 := by decide
  rw [wu64m, e3, Nat.mod_eq_of_lt e2, Nat.mod_eq_of_lt e1, ← Nat.two_pow_add_eq_or_of_lt hh]
  omega

/-- One digit of a number that is shifted up. -/
theorem shl_step {out : List Int} {j s : Nat} {x : Int} (ho : ok W out) (hj : j + 1 < out.length) (hs : s < 32) (hx : 0 ≤ x) (hx' : x < W) (hc : out.getD j 0 < 2 ^ s) (hz : out.getD (j + 1) 0 = 0) :
    0 ≤ x * 2 ^ s ∧ x * 2 ^ s < 9223372036854775808 ∧ ok W ((out.set j (ibits .or .u32 (out.getD j 0) (x * 2 ^ s % 4294967296))).set (j + 1) (x * 2 ^ s / 4294967296)) ∧ x * 2 ^ s / 4294967296 < 4294967296 ∧
    val W ((out.set j (ibits .or .u32 (out.getD j 0) (x * 2 ^ s % 4294967296))).set (j + 1) (x * 2 ^ s / 4294967296)) = val W out + W ^ j * (x * 2 ^ s) ∧
    x * 2 ^ s / 4294967296 < 2 ^ s := by
  have hg := getD_ok (B := W) (by decide) ho j
  obtain ⟨X, rfl⟩ : ∃ X : Nat, x = X := ⟨x.toNat, by omega⟩
  obtain ⟨c, hcc⟩ : ∃ c : Nat, out.getD j 0 = c := ⟨(out.getD j 0).toNat, by omega⟩
  rw [hcc] at hc
  have hc' : c < 2 ^ s := by
    have : ((2 ^ s : Nat) : Int) = (2 : Int) ^ s := by simp
    omega
  have hP : 2 ^ s * 2 ^ (32 - s) = 4294967296 := by
    rw [← Nat.pow_add, show s + (32 - s) = 32 by omega]
  have hPpos : 0 < 2 ^ s := Nat.pow_pos (by decide)
  have hQpos : 0 < 2 ^ (32 - s) := Nat.pow_pos (by decide)
  have hP31 : 2 ^ s ≤ 2147483648 := Nat.pow_le_pow_right (n := 2) (by decide) (show s ≤ 31 by omega)
  have e0 : (X : Int) * 2 ^ s = ((X * 2 ^ s : Nat) : Int) := by simp
  have hX : X < 4294967296 := by simp only [W] at hx'; omega
  have hbig : X * 2 ^ s < 9223372036854775808 := by
    calc X * 2 ^ s ≤ X * 2147483648 := Nat.mul_le_mul_left _ hP31
      _ < 9223372036854775808 := by omega
  have elo : X * 2 ^ s % 4294967296 = 2 ^ s * (X % 2 ^ (32 - s)) := by
    rw [Nat.mul_comm X, ← hP, Nat.mul_mod_mul_left]
  have ehi : X * 2 ^ s / 4294967296 = X / 2 ^ (32 - s) := by
    rw [Nat.mul_comm X, ← hP, Nat.mul_div_mul_left _ _ hPpos]
  have hhi : X / 2 ^ (32 - s) < 2 ^ s := by
    apply Nat.div_lt_of_lt_mul
    rw [Nat.mul_comm, hP]; exact hX
  have hlo : 2 ^ s * (X % 2 ^ (32 - s)) + c < 4294967296 := by
    have h1 : X % 2 ^ (32 - s) + 1 ≤ 2 ^ (32 - s) := Nat.mod_lt _ hQpos
    have h2 := Nat.mul_le_mul_left (2 ^ s) h1
    rw [hP, Nat.mul_add, Nat.mul_one] at h2
    omega
  have elo' : ((X * 2 ^ s : Nat) : Int) % 4294967296 = ((2 ^ s * (X % 2 ^ (32 - s)) : Nat) : Int) := by rw [← elo]; omega
  have ehi' : ((X * 2 ^ s : Nat) : Int) / 4294967296 = ((X / 2 ^ (32 - s) : Nat) : Int) := by rw [← ehi]; omega
  have hor : ibits .or .u32 (out.getD j 0) (((X * 2 ^ s : Nat) : Int) % 4294967296) = ((2 ^ s * (X % 2 ^ (32 - s)) + c : Nat) : Int) := by
    rw [hcc, elo']; exact or_u32 hc' hlo
  rw [e0, hor, ehi']
  refine ⟨by omega, by omega, ok_set (ok_set ho (by omega) (by simp only [W]; omega)) (by omega) (by simp only [W]; omega), by omega, ?_, ?_⟩
  · rw [val_set _ _ _ (by simpa using hj), val_set _ _ _ (by omega), getD_set_ne (by omega), hz, hcc, Int.sub_zero, Int.pow_succ]
    have e3 : ((2 ^ s * (X % 2 ^ (32 - s)) + c : Nat) : Int) - (c : Int) + 4294967296 * ((X / 2 ^ (32 - s) : Nat) : Int) = ((X * 2 ^ s : Nat) : Int) := by
      rw [← elo, ← ehi]; omega
    rw [← e3, Int.mul_add]
    simp only [W]
    rw [Int.mul_assoc, Int.add_assoc]
  · have : ((2 ^ s : Nat) : Int) = (2 : Int) ^ s := by simp
    omega

/-- limbs_moved: one round of loop 0. -/
def limbs_moved_s0 (κ0 : Int → (List Int) → (List Int) → Int → Int → Option ((List Int) × Unit)) (shift : Int) (out : List Int) (t13 : List Int) (t14 : Int) (t15 : Int) : Option ((List Int) × Unit) :=
  cond (decide (t15 < t14))
   (
   cond (decide (0 ≤ t15))
   (
   cond (decide (t15 < (t13.length : Int)))
   (
   cond (decide (0 ≤ shift))
   (
   let z5 := IntKind.u64.wrap ((IntKind.u64.wrap (t13.getD t15.toNat 0)) * 2 ^ (min shift.toNat 64))
   cond (decide (0 ≤ t15))
   (
   cond (decide (t15 < (out.length : Int)))
   (
   cond (decide (0 ≤ t15))
   (
   cond (decide (t15 < (out.length : Int)))
   (
   let z9 := out.set t15.toNat (ibits .or .u32 (out.getD t15.toNat 0) (IntKind.u32.wrap z5))
   let z10 := IntKind.i64.wrap (t15 + 1)
   cond (decide (0 ≤ z10))
   (
   cond (decide (z10 < (z9.length : Int)))
   (
   κ0 shift (z9.set z10.toNat (IntKind.u32.wrap (z5.fdiv (2 ^ 32)))) t13 t14 (IntKind.i64.wrap (t15 + 1))) none) none) none) none) none) none) none) none) none) (some (out, ()))

def limbs_moved_l0 (K : Nat) : Nat → Int → (List Int) → (List Int) → Int → Int → Option ((List Int) × Unit)
  | 0, _, _, _, _, _ => none
  | n + 1, shift, out, t13, t14, t15 => limbs_moved_s0 (limbs_moved_l0 K n) shift out t13 t14 t15

/-- limbs.moved -/
def limbs_moved_b (I0 : Int → (List Int) → (List Int) → Int → Int → Option ((List Int) × Unit)) (a : List Int) (shift : Int) : Option ((List Int) × Unit) :=
  let z1 := IntKind.i64.wrap ((a.length : Int) + 1)
  cond (decide (0 ≤ z1))
   (
   cond (decide (z1 * 4 ≤ 140737488351232)) (I0 shift (List.replicate z1.toNat 0 : List Int) a (a.length : Int) 0) none) none

def limbs_moved (K : Nat) (a : List Int) (shift : Int) : Option ((List Int) × Unit) := limbs_moved_b (limbs_moved_l0 K K) a shift


def S.limbs_moved (x : List Int × Int × Unit) : Option (List Int × Unit) :=
  if fine x.1 ∧ ok W x.1 ∧ 0 ≤ x.2.1 ∧ x.2.1 < 32 then L.limbs_moved (x.1.length + 1) x.1 x.2.1 else none
theorem moved_loop (K : Nat) (a : List Int) (ha : fine a) (oa : ok W a) (s : Nat) (hs : s < 32) : ∀ (r i n : Nat) (out : List Int), i + r = a.length → r < n → out.length = a.length + 1 → ok W out → out.getD i 0 < 2 ^ s → (∀ j, i < j → out.getD j 0 = 0) →
    val W out = 2 ^ s * val W (a.take i) → ∃ q, limbs_moved_l0 K n (s : Int) out a (a.length : Int) (i : Int) = some (q, ()) ∧ q.length = a.length + 1 ∧ ok W q ∧ val W q = 2 ^ s * val W a := by
  unfold fine at ha
  intro r
  induction r with
  | zero =>
    intro i n out hi hn hl ho hc hz hv
    obtain ⟨n, rfl⟩ : ∃ m, n = m + 1 := ⟨n - 1, by omega⟩
    have hi' : i = a.length := by omega
    subst hi'
    simp only [limbs_moved_l0, limbs_moved_s0]
    rw [cf (by omega)]
    rw [List.take_length] at hv
    exact ⟨out, rfl, hl, ho, hv⟩
  | succ r ih =>
    intro i n out hi hn hl ho hc hz hv
    obtain ⟨n, rfl⟩ : ∃ m, n = m + 1 := ⟨n - 1, by omega⟩
    have ga := getD_ok (B := W) (by decide) oa i
    obtain ⟨h1, h2, h3, h4, h5, h6⟩ := shl_step (x := a.getD i 0) ho (show i + 1 < out.length by omega) hs ga.1 ga.2 hc (hz (i + 1) (by omega))
    simp only [W] at ga
    simp only [limbs_moved_l0, limbs_moved_s0, Int.toNat_natCast]
    have ei : ((i : Int) + 1) = ((i + 1 : Nat) : Int) := by omega
    rw [ct (by omega), ct (by omega), ct (by omega), ct (by omega), ct (by omega), ct (by omega), ct (by omega), ct (by omega), wi64 (by omega) (by omega), ct (by omega), ct (by simp; omega)]
    rw [show min s 64 = s by omega, wu64 ga.1 (by omega), wu64 h1 (by omega), wu32, wu32, pow32, Int.fdiv_eq_ediv_of_nonneg _ (by decide), Int.emod_eq_of_lt (show 0 ≤ a.getD i 0 * 2 ^ s / 4294967296 by omega) h4, ei, Int.toNat_natCast]
    refine ih (i + 1) n _ (by omega) (by omega) (by simpa using hl) h3 (by rw [getD_set_same (by simp; omega)]; exact h6) (fun j hj => by rw [getD_set_ne (by omega), getD_set_ne (by omega)]; exact hz j (by omega)) ?_
    rw [h5, hv, val_take_succ, Int.mul_add]
    congr 1
    rw [← Int.mul_assoc, ← Int.mul_assoc, Int.mul_comm (2 ^ s), Int.mul_assoc, Int.mul_assoc, Int.mul_comm (a.getD i 0)]
theorem moved_spec {a : List Int} {s : Int} (ha : fine a) (oa : ok W a) (h0 : 0 ≤ s) (h1 : s < 32) : ∃ q, S.limbs_moved (a, s, ()) = some (q, ()) ∧ q.length = a.length + 1 ∧ ok W q ∧ val W q = 2 ^ s.toNat * val W a := by
  obtain ⟨s', rfl⟩ : ∃ s' : Nat, s = s' := ⟨s.toNat, by omega⟩
  simp only [S.limbs_moved]
  rw [if_pos ⟨ha, oa, h0, h1⟩]
  simp only [L.limbs_moved, limbs_moved_b]
  have ha' := ha
  unfold fine at ha'
  rw [wi64 (by omega) (by omega), ct (by omega), ct (by omega), show ((a.length : Int) + 1).toNat = a.length + 1 by omega, Int.toNat_natCast]
  have hz : ∀ j, (List.replicate (a.length + 1) (0 : Int)).getD j 0 = 0 := fun j => by simp [List.getD, List.getElem?_replicate]; split <;> rfl
  exact moved_loop (a.length + 1) a ha oa s' (by omega) a.length 0 _ _ (by omega) (by omega) (by simp) (ok_zeros (by decide) _) (by rw [hz]; exact Int.pow_pos (by decide)) (fun j _ => hz j) (by rw [val_zeros]; simp)
theorem limbs_moved_ok (x : List Int × Int × Unit) (y : List Int × Unit) (h : S.limbs_moved x = some y) : ∃ K, limbs_moved K x.1 x.2.1 = some y := by
  unfold S.limbs_moved at h
  split at h
  · exact ⟨_, h⟩
  · cases h

/-- limbs_Left: one round of loop 0. -/
def limbs_Left_s0 (κ0 : Int → (List Int) → (List Int) → Int → Int → Option ((List Int) × Int × Unit)) (n2 : Int) (out : List Int) (t27 : List Int) (t28 : Int) (t29 : Int) : Option ((List Int) × Int × Unit) :=
  cond (decide (t29 < t28))
   (
   cond (decide (0 ≤ t29))
   (
   cond (decide (t29 < (t27.length : Int)))
   (
   cond (decide (0 ≤ (n2.tmod 32)))
   (
   let z8 := IntKind.u64.wrap ((IntKind.u64.wrap (t27.getD t29.toNat 0)) * 2 ^ (min (n2.tmod 32).toNat 64))
   let z10 := IntKind.i64.wrap (t29 + (IntKind.i64.wrap (n2.tdiv 32)))
   cond (decide (0 ≤ z10))
   (
   cond (decide (z10 < (out.length : Int)))
   (
   cond (decide (0 ≤ z10))
   (
   cond (decide (z10 < (out.length : Int)))
   (
   let z14 := out.set z10.toNat (ibits .or .u32 (out.getD z10.toNat 0) (IntKind.u32.wrap z8))
   let z17 := IntKind.i64.wrap ((IntKind.i64.wrap (t29 + (IntKind.i64.wrap (n2.tdiv 32)))) + 1)
   cond (decide (0 ≤ z17))
   (
   cond (decide (z17 < (z14.length : Int)))
   (
   κ0 n2 (z14.set z17.toNat (IntKind.u32.wrap (z8.fdiv (2 ^ 32)))) t27 t28 (IntKind.i64.wrap (t29 + 1))) none) none) none) none) none) none) none) none) none)
   (
   (S.limbs_fits (out, ())).bind fun z22 =>
   some (z22.1, z22.2.1, ()))

def limbs_Left_l0 (K : Nat) : Nat → Int → (List Int) → (List Int) → Int → Int → Option ((List Int) × Int × Unit)
  | 0, _, _, _, _, _ => none
  | n + 1, n2, out, t27, t28, t29 => limbs_Left_s0 (limbs_Left_l0 K n) n2 out t27 t28 t29

/-- limbs.Left -/
def limbs_Left_b (I0 : Int → (List Int) → (List Int) → Int → Int → Option ((List Int) × Int × Unit)) (a : List Int) (n : Int) : Option ((List Int) × Int × Unit) :=
  cond (decide (n < 0)) (some ([], 1, ()))
   (
   cond (decide ((a.length : Int) = 0)) (some ([], 0, ()))
   (
   cond (decide (16384 < n)) (some ([], 11, ()))
   (
   let z3 := IntKind.i64.wrap ((IntKind.i64.wrap ((a.length : Int) + (IntKind.i64.wrap (n.tdiv 32)))) + 1)
   cond (decide (0 ≤ z3))
   (
   cond (decide (z3 * 4 ≤ 140737488351232)) (I0 n (List.replicate z3.toNat 0 : List Int) a (a.length : Int) 0) none) none)))

def limbs_Left (K : Nat) (a : List Int) (n : Int) : Option ((List Int) × Int × Unit) := limbs_Left_b (limbs_Left_l0 K K) a n


def S.limbs_Left (x : List Int × Int × Unit) : Option (List Int × Int × Unit) :=
  if x.1.length ≤ 1099511600000 ∧ ok W x.1 then some (if x.2.1 < 0 then ([], 1, ()) else if x.1 = [] then ([], 0, ()) else if 16384 < x.2.1 then ([], 11, ()) else res (val W x.1 * 2 ^ x.2.1.toNat).toNat) else none
theorem left_loop (K : Nat) (a : List Int) (ha : a.length ≤ 1099511600000) (oa : ok W a) (N : Nat) (hN : N ≤ 16384) : ∀ (r i n : Nat) (out : List Int), i + r = a.length → r < n → out.length = a.length + N / 32 + 1 → ok W out → out.getD (i + N / 32) 0 < 2 ^ (N % 32) → (∀ j, i + N / 32 < j → out.getD j 0 = 0) →
    val W out = 2 ^ N * val W (a.take i) → limbs_Left_l0 K n (N : Int) out a (a.length : Int) (i : Int) = some (res (val W a * 2 ^ N).toNat) := by
  intro r
  induction r with
  | zero =>
    intro i n out hi hn hl ho hc hz hv
    obtain ⟨n, rfl⟩ : ∃ m, n = m + 1 := ⟨n - 1, by omega⟩
    have hi' : i = a.length := by omega
    subst hi'
    simp only [limbs_Left_l0, limbs_Left_s0]
    rw [List.take_length, Int.mul_comm] at hv
    rw [cf (by omega), bind_eta, fits_res ho (by unfold fine; omega), hv]
  | succ r ih =>
    intro i n out hi hn hl ho hc hz hv
    obtain ⟨n, rfl⟩ : ∃ m, n = m + 1 := ⟨n - 1, by omega⟩
    have ga := getD_ok (B := W) (by decide) oa i
    have hs : N % 32 < 32 := Nat.mod_lt _ (by decide)
    obtain ⟨h1, h2, h3, h4, h5, h6⟩ := shl_step (x := a.getD i 0) (j := i + N / 32) ho (by omega) hs ga.1 ga.2 hc (hz _ (by omega))
    simp only [W] at ga
    simp only [limbs_Left_l0, limbs_Left_s0, Int.toNat_natCast]
    have em : ((N : Int).tmod 32) = ((N % 32 : Nat) : Int) := by rw [Int.tmod_eq_emod_of_nonneg (by omega)]; omega
    have ed : ((N : Int).tdiv 32) = ((N / 32 : Nat) : Int) := by rw [Int.tdiv_eq_ediv_of_nonneg (by omega)]; omega
    have ep : IntKind.i64.wrap ((i : Int) + IntKind.i64.wrap ((N : Int).tdiv 32)) = ((i + N / 32 : Nat) : Int) := by rw [ed, wi64 (x := ((N / 32 : Nat) : Int)) (by omega) (by omega), wi64 (by omega) (by omega)]; omega
    have ep' : IntKind.i64.wrap (IntKind.i64.wrap ((i : Int) + IntKind.i64.wrap ((N : Int).tdiv 32)) + 1) = ((i + N / 32 + 1 : Nat) : Int) := by rw [ep, wi64 (by omega) (by omega)]; omega
    rw [ep', ep, em]
    rw [ct (by omega), ct (by omega), ct (by omega), ct (by omega), ct (by omega), ct (by omega), ct (by omega), ct (by omega), ct (by omega), ct (by simp; omega)]
    simp only [Int.toNat_natCast]
    rw [show min (N % 32) 64 = N % 32 by omega, wu64 ga.1 (by omega), wu64 h1 (by omega), wu32, wu32, pow32, Int.fdiv_eq_ediv_of_nonneg _ (by decide), Int.emod_eq_of_lt (show 0 ≤ a.getD i 0 * 2 ^ (N % 32) / 4294967296 by omega) h4, wi64 (x := (i : Int) + 1) (by omega) (by omega), show ((i : Int) + 1) = ((i + 1 : Nat) : Int) by omega]
    refine ih (i + 1) n _ (by omega) (by omega) (by simpa using hl) h3 ?_ (fun j hj => by rw [getD_set_ne (by omega), getD_set_ne (by omega)]; exact hz j (by omega)) ?_
    · rw [show i + 1 + N / 32 = i + N / 32 + 1 by omega, getD_set_same (by simp; omega)]; exact h6
    · rw [h5, hv, val_take_succ, Int.mul_add]
      congr 1
      have e2 : (2 : Int) ^ N = W ^ (N / 32) * 2 ^ (N % 32) := by
        have : W = 2 ^ 32 := by decide
        rw [this, ← Int.pow_mul, ← Int.pow_add]
        congr 1; omega
      rw [e2, Int.pow_add, Int.mul_comm (a.getD i 0) (2 ^ (N % 32)), ← Int.mul_assoc, ← Int.mul_assoc, Int.mul_comm (W ^ i), Int.mul_assoc (W ^ (N / 32)), Int.mul_comm (W ^ i) (2 ^ (N % 32)), ← Int.mul_assoc]
theorem limbs_Left_ok (x : List Int × Int × Unit) (y : List Int × Int × Unit) (h : S.limbs_Left x = some y) : ∃ K, limbs_Left K x.1 x.2.1 = some y := by
  unfold S.limbs_Left at h
  split at h <;> cases h
  rename_i hh
  obtain ⟨ha, oa⟩ := hh
  obtain ⟨a, n, _⟩ := x
  simp only at ha oa ⊢
  refine ⟨a.length + 1, ?_⟩
  simp only [limbs_Left, limbs_Left_b]
  by_cases h0 : n < 0
  · rw [ct h0, if_pos h0]
  rw [cf h0, if_neg h0]
  by_cases h1 : a = []
  · subst h1; rw [ct (by simp), if_pos rfl]
  rw [cf (by simp; exact h1), if_neg h1]
  by_cases h2 : 16384 < n
  · rw [ct h2, if_pos h2]
  obtain ⟨N, rfl⟩ : ∃ N : Nat, n = N := ⟨n.toNat, by omega⟩
  have ed : ((N : Int).tdiv 32) = ((N / 32 : Nat) : Int) := by rw [Int.tdiv_eq_ediv_of_nonneg (by omega)]; omega
  have hw : IntKind.i64.wrap (IntKind.i64.wrap ((a.length : Int) + IntKind.i64.wrap ((N : Int).tdiv 32)) + 1) = ((a.length + N / 32 + 1 : Nat) : Int) := by
    rw [ed, wi64 (x := ((N / 32 : Nat) : Int)) (by omega) (by omega), wi64 (x := (a.length : Int) + _) (by omega) (by omega), wi64 (by omega) (by omega)]; omega
  rw [cf h2, if_neg h2, hw, ct (by omega), ct (by omega), Int.toNat_natCast, Int.toNat_natCast]
  have hz : ∀ j, (List.replicate (a.length + N / 32 + 1) (0 : Int)).getD j 0 = 0 := fun j => by simp [List.getD, List.getElem?_replicate]; split <;> rfl
  exact left_loop (a.length + 1) a ha oa N (by omega) a.length 0 _ _ (by omega) (by omega) (by simp) (ok_zeros (by decide) _) (by rw [hz]; exact Int.pow_pos (by decide)) (fun j _ => hz j) (by rw [val_zeros]; simp)
end Go.L

/-! LF -/
namespace Go.L
open Go.PM
set_option linter.unusedVariables false
set_option linter.unusedSimpArgs false

theorem shr_digit {x y s : Nat} (hs : s < 32) (hx : x < 4294967296) : (4294967296 * y + x) / 2 ^ s % 4294967296 = x / 2 ^ s + 2 ^ (32 - s) * (y % 2 ^ s) := by
  have hP : 2 ^ s * 2 ^ (32 - s) = 4294967296 := by rw [← Nat.pow_add, show s + (32 - s) = 32 by omega]
  have hP' : 2 ^ (32 - s) * 2 ^ s = 4294967296 := by rw [Nat.mul_comm]; exact hP
  have hPpos : 0 < 2 ^ s := Nat.pow_pos (by decide)
  have hQpos : 0 < 2 ^ (32 - s) := Nat.pow_pos (by decide)
  have ht : x / 2 ^ s < 2 ^ (32 - s) := by
    apply Nat.div_lt_of_lt_mul
    rw [hP]; exact hx
  have e1 : (4294967296 * y + x) / 2 ^ s = 2 ^ (32 - s) * y + x / 2 ^ s := by
    rw [← hP, Nat.mul_assoc, Nat.mul_add_div hPpos]
  rw [e1]
  conv => lhs; rw [← hP']
  rw [Nat.mod_mul, Nat.mul_add_mod, Nat.mod_eq_of_lt ht, Nat.mul_add_div hQpos, Nat.div_eq_of_lt ht, Nat.add_zero]

theorem val_drop {B : Int} (a : List Int) (q : Nat) : val B a = val B (a.take q) + B ^ (a.take q).length * val B (a.drop q) := by
  conv => lhs; rw [← List.take_append_drop q a]
  exact val_append

/-- limbs_Right: one round of loop 0. -/
def limbs_Right_s0 (κ0 : (List Int) → Int → (List Int) → Int → Int → Option ((List Int) × Int × Unit)) (a : List Int) (n2 : Int) (out : List Int) (t23 : Int) (t24 : Int) : Option ((List Int) × Int × Unit) :=
  cond (decide (t24 < t23))
   (
   let z6 := IntKind.i64.wrap (t24 + (IntKind.i64.wrap (n2.tdiv 32)))
   cond (decide (0 ≤ z6))
   (
   cond (decide (z6 < (a.length : Int)))
   (
   let z8 := IntKind.u64.wrap (a.getD z6.toNat 0)
   cond (decide ((IntKind.i64.wrap ((IntKind.i64.wrap (t24 + (IntKind.i64.wrap (n2.tdiv 32)))) + 1)) < (a.length : Int)))
   (
   let z14 := IntKind.i64.wrap ((IntKind.i64.wrap (t24 + (IntKind.i64.wrap (n2.tdiv 32)))) + 1)
   cond (decide (0 ≤ z14))
   (
   cond (decide (z14 < (a.length : Int)))
   (
   cond (decide (0 ≤ (n2.tmod 32)))
   (
   cond (decide (0 ≤ t24))
   (
   cond (decide (t24 < (out.length : Int)))
   (
   κ0 a n2 (out.set t24.toNat (IntKind.u32.wrap ((ibits .or .u64 z8 (IntKind.u64.wrap ((IntKind.u64.wrap (a.getD z14.toNat 0)) * 2 ^ 32))).fdiv (2 ^ (min (n2.tmod 32).toNat 64))))) t23 (IntKind.i64.wrap (t24 + 1))) none) none) none) none) none)
   (
   cond (decide (0 ≤ (n2.tmod 32)))
   (
   cond (decide (0 ≤ t24))
   (
   cond (decide (t24 < (out.length : Int)))
   (
   κ0 a n2 (out.set t24.toNat (IntKind.u32.wrap (z8.fdiv (2 ^ (min (n2.tmod 32).toNat 64))))) t23 (IntKind.i64.wrap (t24 + 1))) none) none) none)) none) none)
   (
   (S.limbs_fits (out, ())).bind fun z29 =>
   some (z29.1, z29.2.1, ()))

def limbs_Right_l0 (K : Nat) : Nat → (List Int) → Int → (List Int) → Int → Int → Option ((List Int) × Int × Unit)
  | 0, _, _, _, _, _ => none
  | n + 1, a, n2, out, t23, t24 => limbs_Right_s0 (limbs_Right_l0 K n) a n2 out t23 t24

/-- limbs.Right -/
def limbs_Right_b (I0 : (List Int) → Int → (List Int) → Int → Int → Option ((List Int) × Int × Unit)) (a : List Int) (n : Int) : Option ((List Int) × Int × Unit) :=
  cond (decide (n < 0)) (some ([], 1, ()))
   (
   cond (decide ((a.length : Int) ≤ (IntKind.i64.wrap (n.tdiv 32)))) (some ([], 0, ()))
   (
   let z3 := IntKind.i64.wrap ((a.length : Int) - (IntKind.i64.wrap (n.tdiv 32)))
   cond (decide (0 ≤ z3))
   (
   cond (decide (z3 * 4 ≤ 140737488351232))
   (
   let z4 := (List.replicate z3.toNat 0 : List Int)
   I0 a n z4 (z4.length : Int) 0) none) none))

def limbs_Right (K : Nat) (a : List Int) (n : Int) : Option ((List Int) × Int × Unit) := limbs_Right_b (limbs_Right_l0 K K) a n


def S.limbs_Right (x : List Int × Int × Unit) : Option (List Int × Int × Unit) :=
  if fine x.1 ∧ ok W x.1 ∧ x.2.1 < 9223372036854775808 then some (if x.2.1 < 0 then ([], 1, ()) else if (x.1.length : Int) ≤ x.2.1 / 32 then ([], 0, ()) else res (val W x.1 / 2 ^ x.2.1.toNat).toNat) else none

theorem right_loop (K : Nat) (a : List Int) (ha : fine a) (oa : ok W a) (N : Nat) (hN : N / 32 < a.length) : ∀ (r i n : Nat) (p : List Int), i + r = a.length - N / 32 → r < n → p.length = i → ok W p →
    2 ^ (N % 32) * val W p + (a.getD (N / 32) 0) % 2 ^ (N % 32) = val W ((a.drop (N / 32)).take i) + W ^ i * ((a.getD (i + N / 32) 0) % 2 ^ (N % 32)) →
    limbs_Right_l0 K n a (N : Int) (p ++ List.replicate r 0) ((a.length - N / 32 : Nat) : Int) (i : Int) = some (res (val W a / 2 ^ N).toNat) := by
  have ha0 := ha
  unfold fine at ha
  have em : ((N : Int).tmod 32) = ((N % 32 : Nat) : Int) := by rw [Int.tmod_eq_emod_of_nonneg (by omega)]; omega
  have ed : ((N : Int).tdiv 32) = ((N / 32 : Nat) : Int) := by rw [Int.tdiv_eq_ediv_of_nonneg (by omega)]; omega
  have hs : N % 32 < 32 := Nat.mod_lt _ (by decide)
  intro r
  induction r with
  | zero =>
    intro i n p hi hn hp op hv
    obtain ⟨n, rfl⟩ : ∃ m, n = m + 1 := ⟨n - 1, by omega⟩
    have hi' : i = a.length - N / 32 := by omega
    simp only [limbs_Right_l0, limbs_Right_s0]
    rw [cf (by omega), bind_eta, List.replicate_zero, List.append_nil, fits_res op (by unfold fine; omega)]
    congr 2
    have h0 : a.getD (i + N / 32) 0 = 0 := by simp [List.getD, List.getElem?_eq_none (show a.length ≤ i + N / 32 by omega)]
    rw [h0, Int.zero_emod, Int.mul_zero, Int.add_zero, List.take_of_length_le (by simp; omega)] at hv
    have hPpos : (0 : Int) < 2 ^ (N % 32) := Int.pow_pos (by decide)
    have e1 : val W (a.drop (N / 32)) / 2 ^ (N % 32) = val W p := by
      rw [← hv, Int.add_comm, Int.add_mul_ediv_left _ _ (by omega), Int.ediv_eq_zero_of_lt (Int.emod_nonneg _ (by omega)) (Int.emod_lt_of_pos _ hPpos), Int.zero_add]
    have e2 : val W a / W ^ (N / 32) = val W (a.drop (N / 32)) := by
      rw [val_drop a (N / 32), List.length_take, Nat.min_eq_left (by omega)]
      have hlt := val_lt (B := W) (by decide) (show ok W (a.take (N / 32)) from fun x hx => oa x (List.mem_of_mem_take hx))
      rw [List.length_take, Nat.min_eq_left (by omega)] at hlt
      have hnn := val_nonneg (B := W) (by decide) (show ok W (a.take (N / 32)) from fun x hx => oa x (List.mem_of_mem_take hx))
      have hW : (0 : Int) < W ^ (N / 32) := Int.pow_pos (by decide)
      rw [Int.add_mul_ediv_left _ _ (by omega), Int.ediv_eq_zero_of_lt hnn hlt, Int.zero_add]
    have e3 : (2 : Int) ^ N = W ^ (N / 32) * 2 ^ (N % 32) := by
      have : W = 2 ^ 32 := by decide
      rw [this, ← Int.pow_mul, ← Int.pow_add]
      congr 1; omega
    have hW : (0 : Int) ≤ W ^ (N / 32) := Int.le_of_lt (Int.pow_pos (by decide))
    have e4 := Int.ediv_ediv (x := val W a) (y := W ^ (N / 32)) (z := 2 ^ (N % 32))
    rw [if_neg (fun h => absurd h.1 (by omega)), Int.sub_zero] at e4
    rw [e3, ← e4, e2, e1]
  | succ r ih =>
    intro i n p hi hn hp op hv
    obtain ⟨n, rfl⟩ : ∃ m, n = m + 1 := ⟨n - 1, by omega⟩
    have g0 := getD_ok (B := W) (by decide) oa (i + N / 32)
    have g1 := getD_ok (B := W) (by decide) oa (i + N / 32 + 1)
    simp only [W] at g0 g1
    obtain ⟨x, hx⟩ : ∃ x : Nat, a.getD (i + N / 32) 0 = x := ⟨(a.getD (i + N / 32) 0).toNat, by omega⟩
    obtain ⟨y, hy⟩ : ∃ y : Nat, a.getD (i + N / 32 + 1) 0 = y := ⟨(a.getD (i + N / 32 + 1) 0).toNat, by omega⟩
    have hPpos : 0 < 2 ^ (N % 32) := Nat.pow_pos (by decide)
    have hQpos : 0 < 2 ^ (32 - N % 32) := Nat.pow_pos (by decide)
    have hPQ : 2 ^ (N % 32) * 2 ^ (32 - N % 32) = 4294967296 := by rw [← Nat.pow_add, show N % 32 + (32 - N % 32) = 32 by omega]
    have ep : IntKind.i64.wrap ((i : Int) + IntKind.i64.wrap ((N : Int).tdiv 32)) = ((i + N / 32 : Nat) : Int) := by rw [ed, wi64 (x := ((N / 32 : Nat) : Int)) (by omega) (by omega), wi64 (by omega) (by omega)]; omega
    have ep' : IntKind.i64.wrap (IntKind.i64.wrap ((i : Int) + IntKind.i64.wrap ((N : Int).tdiv 32)) + 1) = ((i + N / 32 + 1 : Nat) : Int) := by rw [ep, wi64 (by omega) (by omega)]; omega
    simp only [limbs_Right_l0, limbs_Right_s0]
    rw [ep', ep, em]
    simp only [Int.toNat_natCast]
    rw [ct (by omega), ct (by omega), ct (by omega), hx, wu64 (by omega) (by omega), show min (N % 32) 64 = N % 32 by omega]
    -- the digit
    obtain ⟨dg, hdg⟩ : ∃ dg : Nat, dg = x / 2 ^ (N % 32) + 2 ^ (32 - N % 32) * (y % 2 ^ (N % 32)) := ⟨_, rfl⟩
    have hd : dg < 4294967296 := by rw [hdg, ← shr_digit hs (by omega)]; exact Nat.mod_lt _ (by decide)
    have key : limbs_Right_l0 K n a (N : Int) ((p ++ List.replicate (r + 1) 0).set i ((dg : Int))) ((a.length - N / 32 : Nat) : Int) (IntKind.i64.wrap ((i : Int) + 1)) = some (res (val W a / 2 ^ N).toNat) := by
      rw [wi64 (by omega) (by omega), show ((i : Int) + 1) = ((i + 1 : Nat) : Int) by omega]
      conv => lhs; arg 5; rw [← hp, set_zeros]
      refine ih (i + 1) n _ (by omega) (by omega) (by simp [hp]) (ok_append.2 ⟨op, ok_cons.2 ⟨⟨by omega, by simp only [W]; omega⟩, ok_nil⟩⟩) ?_
      rw [val_append, hp, val_take_succ]
      simp only [val_cons, val_nil, Int.mul_zero, Int.add_zero]
      have hdr : (a.drop (N / 32)).getD i 0 = (x : Int) := by
        rw [← hx]; simp [List.getD, List.getElem?_drop, Nat.add_comm]
      rw [hdr, show i + 1 + N / 32 = i + N / 32 + 1 by omega, hy, Int.pow_succ, Int.mul_add]
      rw [hx] at hv
      have e5 : (2 : Int) ^ (N % 32) * (dg : Int) = (x : Int) - (x : Int) % 2 ^ (N % 32) + W * ((y : Int) % 2 ^ (N % 32)) := by
        rw [hdg]
        have h1 := Nat.div_add_mod x (2 ^ (N % 32))
        have h2 : 2 ^ (N % 32) * (x / 2 ^ (N % 32) + 2 ^ (32 - N % 32) * (y % 2 ^ (N % 32))) + x % 2 ^ (N % 32) = x + 4294967296 * (y % 2 ^ (N % 32)) := by
          rw [Nat.mul_add, ← Nat.mul_assoc, hPQ]; omega
        have h3 : ((2 ^ (N % 32) * (x / 2 ^ (N % 32) + 2 ^ (32 - N % 32) * (y % 2 ^ (N % 32))) + x % 2 ^ (N % 32) : Nat) : Int) = ((x + 4294967296 * (y % 2 ^ (N % 32)) : Nat) : Int) := by rw [h2]
        simp only [Int.natCast_add, Int.natCast_mul, Int.natCast_pow, Int.natCast_emod] at h3 ⊢
        simp only [W]
        have e9 : ((2 : Nat) : Int) = 2 := rfl
        have e10 : ((4294967296 : Nat) : Int) = 4294967296 := rfl
        rw [e9, e10] at h3
        rw [e9]
        omega
      have e6 : (2 : Int) ^ (N % 32) * (W ^ i * (dg : Int)) = W ^ i * ((x : Int) - (x : Int) % 2 ^ (N % 32) + W * ((y : Int) % 2 ^ (N % 32))) := by
        rw [← Int.mul_assoc, Int.mul_comm (2 ^ (N % 32)), Int.mul_assoc, e5]
      rw [e6, Int.mul_add, Int.mul_sub, Int.mul_assoc (W ^ i) W]
      omega
    by_cases hb : ((i + N / 32 + 1 : Nat) : Int) < (a.length : Int)
    · rw [ct hb, ct (by omega), ct hb, ct (by omega), ct (by omega), ct (by simp; omega), hy, wu64 (x := (y : Int)) (by omega) (by omega), wu64 (x := (y : Int) * 2 ^ 32) (by omega) (by omega)]
      have e7 : (y : Int) * 2 ^ 32 = ((2 ^ 32 * y : Nat) : Int) := by simp; omega
      rw [e7, or_u64 (by omega) (by omega), wu32, Int.fdiv_eq_ediv_of_nonneg _ (Int.le_of_lt (Int.pow_pos (by decide)))]
      have e8 : (((2 ^ 32 * y + x : Nat) : Int) / 2 ^ (N % 32)) % 4294967296 = (dg : Int) := by
        rw [hdg, ← shr_digit hs (by omega)]; simp
      rw [e8]
      exact key
    · have hy0 : y = 0 := by
        have : a.getD (i + N / 32 + 1) 0 = 0 := by simp [List.getD, List.getElem?_eq_none (show a.length ≤ i + N / 32 + 1 by omega)]
        omega
      rw [cf hb, ct (by omega), ct (by omega), ct (by simp; omega), wu32, Int.fdiv_eq_ediv_of_nonneg _ (Int.le_of_lt (Int.pow_pos (by decide)))]
      have e8 : ((x : Int) / 2 ^ (N % 32)) % 4294967296 = (dg : Int) := by
        rw [hdg, ← shr_digit hs (by omega), hy0]; simp
      rw [e8]
      exact key
theorem limbs_Right_ok (x : List Int × Int × Unit) (y : List Int × Int × Unit) (h : S.limbs_Right x = some y) : ∃ K, limbs_Right K x.1 x.2.1 = some y := by
  unfold S.limbs_Right at h
  split at h <;> cases h
  rename_i hh
  obtain ⟨ha, oa, hn⟩ := hh
  obtain ⟨a, n, _⟩ := x
  simp only at ha oa hn ⊢
  refine ⟨a.length + 1, ?_⟩
  simp only [limbs_Right, limbs_Right_b]
  have ha' := ha
  unfold fine at ha'
  by_cases h0 : n < 0
  · rw [ct h0, if_pos h0]
  rw [cf h0, if_neg h0]
  obtain ⟨N, rfl⟩ : ∃ N : Nat, n = N := ⟨n.toNat, by omega⟩
  have ed : ((N : Int).tdiv 32) = ((N / 32 : Nat) : Int) := by rw [Int.tdiv_eq_ediv_of_nonneg (by omega)]; omega
  rw [ed, wi64 (x := ((N / 32 : Nat) : Int)) (by omega) (by omega)]
  by_cases h1 : (a.length : Int) ≤ ((N / 32 : Nat) : Int)
  · rw [ct h1, if_pos (by omega)]
  rw [cf h1, if_neg (by omega), wi64 (by omega) (by omega), ct (by omega), ct (by omega), show ((a.length : Int) - ((N / 32 : Nat) : Int)).toNat = a.length - N / 32 by omega, List.length_replicate, Int.toNat_natCast]
  exact right_loop (a.length + 1) a ha oa N (by omega) (a.length - N / 32) 0 _ [] (by omega) (by omega) rfl ok_nil (by simp)
end Go.L

/-! LG -/
namespace Go.L
open Go.PM
set_option linter.unusedVariables false
set_option linter.unusedSimpArgs false

/-- How many bits. -/
def blen (x : Int) : Int := if x = 0 then 0 else (x.toNat.log2 : Int) + 1
theorem blen_shift {x : Int} (k : Nat) (h : 2 ^ k ≤ x) : blen x = k + blen (x / 2 ^ k) := by
  have hk : (0 : Int) < 2 ^ k := Int.pow_pos (by decide)
  obtain ⟨n, rfl⟩ : ∃ n : Nat, x = n := ⟨x.toNat, by omega⟩
  have e : (n : Int) / 2 ^ k = ((n / 2 ^ k : Nat) : Int) := by simp
  have hn : 2 ^ k ≤ n := by
    have : ((2 ^ k : Nat) : Int) = (2 : Int) ^ k := by simp
    omega
  have hkp : 0 < 2 ^ k := Nat.pow_pos (by decide)
  have hq : n / 2 ^ k ≠ 0 := by
    have := Nat.div_pos hn hkp; omega
  have hn0 : n ≠ 0 := by omega
  rw [e]
  unfold blen
  rw [if_neg (by omega), if_neg (by omega), Int.toNat_natCast, Int.toNat_natCast]
  have h1 := (Nat.log2_eq_iff hq (k := (n / 2 ^ k).log2)).1 rfl
  have h2 : n.log2 = k + (n / 2 ^ k).log2 := by
    refine (Nat.log2_eq_iff hn0).2 ⟨?_, ?_⟩
    · rw [Nat.pow_add]
      calc 2 ^ k * 2 ^ (n / 2 ^ k).log2 ≤ 2 ^ k * (n / 2 ^ k) := Nat.mul_le_mul_left _ h1.1
        _ ≤ n := Nat.mul_div_le _ _
    · rw [Nat.add_assoc, Nat.pow_add]
      have : n < 2 ^ k * (n / 2 ^ k + 1) := by
        have := Nat.lt_mul_div_succ n hkp
        exact this
      exact Nat.lt_of_lt_of_le this (Nat.mul_le_mul_left _ h1.2)
  omega
theorem blen_nonneg (x : Int) : 0 ≤ blen x := by unfold blen; split <;> omega
theorem blen_le {x : Int} {k : Nat} (h0 : 0 ≤ x) (h : x < 2 ^ k) : blen x ≤ k := by
  unfold blen
  split
  · omega
  · obtain ⟨n, rfl⟩ : ∃ n : Nat, x = n := ⟨x.toNat, by omega⟩
    have hn : n < 2 ^ k := by
      have : ((2 ^ k : Nat) : Int) = (2 : Int) ^ k := by simp
      omega
    have := (Nat.log2_lt (by omega)).2 hn
    rw [Int.toNat_natCast]; omega

def str_00010202_256 : ByteArray := (⟨#[0, 1, 2, 2, 3, 3, 3, 3, 4, 4, 4, 4, 4, 4, 4, 4, 5, 5, 5, 5, 5, 5, 5, 5, 5, 5, 5, 5, 5, 5, 5, 5, 6, 6, 6, 6, 6, 6, 6, 6, 6, 6, 6, 6, 6, 6, 6, 6, 6, 6, 6, 6, 6, 6, 6, 6, 6, 6, 6, 6, 6, 6, 6, 6, 7, 7, 7, 7, 7, 7, 7, 7, 7, 7, 7, 7, 7, 7, 7, 7, 7, 7, 7, 7, 7, 7, 7, 7, 7, 7, 7, 7, 7, 7, 7, 7, 7, 7, 7, 7, 7, 7, 7, 7, 7, 7, 7, 7, 7, 7, 7, 7, 7, 7, 7, 7, 7, 7, 7, 7, 7, 7, 7, 7, 7, 7, 7, 7, 8, 8, 8, 8, 8, 8, 8, 8, 8, 8, 8, 8, 8, 8, 8, 8, 8, 8, 8, 8, 8, 8, 8, 8, 8, 8, 8, 8, 8, 8, 8, 8, 8, 8, 8, 8, 8, 8, 8, 8, 8, 8, 8, 8, 8, 8, 8, 8, 8, 8, 8, 8, 8, 8, 8, 8, 8, 8, 8, 8, 8, 8, 8, 8, 8, 8, 8, 8, 8, 8, 8, 8, 8, 8, 8, 8, 8, 8, 8, 8, 8, 8, 8, 8, 8, 8, 8, 8, 8, 8, 8, 8, 8, 8, 8, 8, 8, 8, 8, 8, 8, 8, 8, 8, 8, 8, 8, 8, 8, 8, 8, 8, 8, 8, 8, 8, 8, 8, 8, 8, 8, 8, 8, 8, 8, 8, 8, 8]⟩ : ByteArray)
/-- math/bits.Len32 -/
def bits_Len32 (x : Int) : Option (Int × Unit) :=
  cond (decide (65536 ≤ x))
   (
   let z1 := x.fdiv (2 ^ 16)
   cond (decide (256 ≤ z1))
   (
   let z3 := IntKind.u8.wrap (z1.fdiv (2 ^ 8))
   cond (decide (0 ≤ z3))
   (
   cond (decide (z3 < (str_00010202_256.size : Int))) (some ((IntKind.i64.wrap (24 + (IntKind.i64.wrap (bt str_00010202_256 z3)))), ())) none) none)
   (
   let z7 := IntKind.u8.wrap z1
   cond (decide (0 ≤ z7))
   (
   cond (decide (z7 < (str_00010202_256.size : Int))) (some ((IntKind.i64.wrap (16 + (IntKind.i64.wrap (bt str_00010202_256 z7)))), ())) none) none))
   (
   cond (decide (256 ≤ x))
   (
   let z12 := IntKind.u8.wrap (x.fdiv (2 ^ 8))
   cond (decide (0 ≤ z12))
   (
   cond (decide (z12 < (str_00010202_256.size : Int))) (some ((IntKind.i64.wrap (8 + (IntKind.i64.wrap (bt str_00010202_256 z12)))), ())) none) none)
   (
   let z16 := IntKind.u8.wrap x
   cond (decide (0 ≤ z16))
   (
   cond (decide (z16 < (str_00010202_256.size : Int))) (some ((IntKind.i64.wrap (0 + (IntKind.i64.wrap (bt str_00010202_256 z16)))), ())) none) none))

def S.bits_Len32 (x : Int × Unit) : Option (Int × Unit) := L.bits_Len32 x.1

def lenTab : List Nat := (List.range 256).map fun i => if i = 0 then 0 else i.log2 + 1
theorem tab_data : (str_00010202_256.data.toList.map UInt8.toNat) = lenTab := by decide +kernel
theorem tab_size : str_00010202_256.size = 256 := by decide +kernel
theorem tab_at {z : Int} (h0 : 0 ≤ z) (h1 : z < 256) : bt str_00010202_256 z = blen z := by
  obtain ⟨n, rfl⟩ : ∃ n : Nat, z = n := ⟨z.toNat, by omega⟩
  unfold bt
  have e : (str_00010202_256.data.toList.getD (n : Int).toNat 0).toNat = lenTab.getD n 0 := by
    rw [← tab_data, Int.toNat_natCast]
    simp only [List.getD, List.getElem?_map]
    cases str_00010202_256.data.toList[n]? <;> rfl
  rw [e]
  unfold lenTab blen
  have hn : n < 256 := by omega
  simp only [List.getD, List.getElem?_map, List.getElem?_range hn, Option.map_some, Option.getD_some, Int.toNat_natCast]
  split <;> split <;> omega
theorem wu8 {x : Int} (h0 : 0 ≤ x) (h1 : x < 256) : IntKind.u8.wrap x = x := by
  simp only [IntKind.wrap, IntKind.bits, IntKind.signed, Bool.false_and, Bool.false_eq_true, if_false]
  exact Int.emod_eq_of_lt h0 (by simpa using h1)
theorem fdiv16 (x : Int) : x.fdiv (2 ^ 16) = x / 65536 := by rw [Int.fdiv_eq_ediv_of_nonneg _ (by decide)]; rfl
theorem fdiv8 (x : Int) : x.fdiv (2 ^ 8) = x / 256 := by rw [Int.fdiv_eq_ediv_of_nonneg _ (by decide)]; rfl
theorem Len32_eq {x : Int} (h0 : 0 ≤ x) (h1 : x < 4294967296) : S.bits_Len32 (x, ()) = some (blen x, ()) := by
  simp only [S.bits_Len32, L.bits_Len32, tab_size, fdiv16, fdiv8]
  have s8 : ∀ y : Int, 256 ≤ y → blen y = 8 + blen (y / 256) := fun y hy => blen_shift 8 (by simpa using hy)
  have s16 : ∀ y : Int, 65536 ≤ y → blen y = 16 + blen (y / 65536) := fun y hy => blen_shift 16 (by simpa using hy)
  have bb : ∀ y : Int, 0 ≤ y → y < 256 → 0 ≤ blen y ∧ blen y ≤ 8 := fun y h h' => ⟨blen_nonneg y, blen_le (k := 8) h (by simpa using h')⟩
  by_cases h2 : 65536 ≤ x
  · rw [ct h2]
    by_cases h3 : 256 ≤ x / 65536
    · have hz : 0 ≤ x / 65536 / 256 ∧ x / 65536 / 256 < 256 := by omega
      have hb := bb _ hz.1 hz.2
      rw [ct h3, wu8 hz.1 hz.2, ct hz.1, ct (by omega), tab_at hz.1 hz.2, wi64 (x := blen _) (by omega) (by omega), wi64 (by omega) (by omega), s16 x h2, s8 _ h3]
      congr 2; omega
    · have hz : 0 ≤ x / 65536 ∧ x / 65536 < 256 := by omega
      have hb := bb _ hz.1 hz.2
      rw [cf h3, wu8 hz.1 hz.2, ct hz.1, ct (by omega), tab_at hz.1 hz.2, wi64 (x := blen _) (by omega) (by omega), wi64 (by omega) (by omega), s16 x h2]
  · rw [cf h2]
    by_cases h3 : 256 ≤ x
    · have hz : 0 ≤ x / 256 ∧ x / 256 < 256 := by omega
      have hb := bb _ hz.1 hz.2
      rw [ct h3, wu8 hz.1 hz.2, ct hz.1, ct (by omega), tab_at hz.1 hz.2, wi64 (x := blen _) (by omega) (by omega), wi64 (by omega) (by omega), s8 x h3]
    · have hz : 0 ≤ x ∧ x < 256 := by omega
      have hb := bb _ hz.1 hz.2
      rw [cf h3, wu8 hz.1 hz.2, ct hz.1, ct (by omega), tab_at hz.1 hz.2]
      simp only [wi64 (x := blen x) (by omega) (by omega), Int.zero_add]

/-- math/bits.LeadingZeros32 -/
def bits_LeadingZeros32 (x : Int) : Option (Int × Unit) :=
  (S.bits_Len32 (x, ())).bind fun z1 =>
  some ((IntKind.i64.wrap (32 - z1.1)), ())

def S.bits_LeadingZeros32 (x : Int × Unit) : Option (Int × Unit) := L.bits_LeadingZeros32 x.1
theorem LeadingZeros32_eq {x : Int} (h0 : 0 ≤ x) (h1 : x < 4294967296) : S.bits_LeadingZeros32 (x, ()) = some (32 - blen x, ()) := by
  have hb := blen_le (k := 32) h0 (by simpa using h1)
  have hb' := blen_nonneg x
  simp only [S.bits_LeadingZeros32, L.bits_LeadingZeros32, Len32_eq h0 h1, Option.bind_some]
  rw [wi64 (by omega) (by omega)]

/-- limbs.Bits -/
def limbs_Bits (a : List Int) : Option (Int × Unit) :=
  cond (decide ((a.length : Int) = 0)) (some (0, ()))
   (
   let z3 := IntKind.i64.wrap ((a.length : Int) - 1)
   cond (decide (0 ≤ z3))
   (
   cond (decide (z3 < (a.length : Int)))
   (
   (S.bits_Len32 ((a.getD z3.toNat 0), ())).bind fun z5 =>
   some ((IntKind.i64.wrap ((IntKind.i64.wrap (32 * (IntKind.i64.wrap ((a.length : Int) - 1)))) + z5.1)), ())) none) none)

def S.limbs_Bits (x : List Int × Unit) : Option (Int × Unit) := L.limbs_Bits x.1
end Go.L

/-! LH -/
namespace Go.L
open Go.PM
set_option linter.unusedVariables false
set_option linter.unusedSimpArgs false

theorem Of_eq {n : Int} (h0 : 0 ≤ n) (h1 : n < 18446744073709551616) : S.limbs_Of (n, ()) = some (dig 4294967296 n.toNat, ()) := by
  have ho : ok W [n % 4294967296, n / 4294967296] := by
    intro x hx
    simp only [List.mem_cons, List.not_mem_nil, or_false] at hx
    rcases hx with rfl | rfl <;> simp only [W] <;> omega
  have hv : val W [n % 4294967296, n / 4294967296] = n := by simp only [val_cons, val_nil, W]; omega
  have e : IntKind.u32.wrap (n.fdiv (2 ^ 32)) = n / 4294967296 := by rw [wu32, pow32, Int.fdiv_eq_ediv_of_nonneg _ (by decide)]; omega
  simp only [S.limbs_Of, L.limbs_Of, wu32 n, e, S.limbs_trim]
  rw [if_pos (by unfold fine; simp)]
  have := trimL_eq_dig (B := 4294967296) (by decide) ho
  simp only [W] at hv
  simp only [Option.bind_some, this]
  rw [show ((4294967296 : Nat) : Int) = 4294967296 from rfl, hv]

theorem can_cons {x : Int} {a : List Int} (h : can (x :: a)) : can a := by
  obtain ⟨h1, h2⟩ := h
  refine ⟨(ok_cons.1 h1).2, ?_⟩
  simp only [trimL] at h2
  split at h2
  · rename_i hq
    split at h2
    · cases h2
    · have := (List.cons.inj h2).2; rw [← this]; rfl
  · rename_i hq; rw [hq]; exact (List.cons.inj h2).2

/-- The bits of a number are those of its digits. -/
theorem can_blen : ∀ {a : List Int}, can a → a ≠ [] → blen (val W a) = 32 * ((a.length : Int) - 1) + blen (a.getD (a.length - 1) 0)
  | [], _, h => absurd rfl h
  | [x], h, _ => by simp
  | x :: y :: a, h, _ => by
    have hc := can_cons h
    have ih := can_blen hc (by simp)
    have h1 := (ok_cons.1 h.1).1
    simp only [W] at h1
    have hpos := trimL_pos (B := W) (by decide) hc.1 hc.2 (by simp)
    have e : blen (val W (x :: y :: a)) = 32 + blen (val W (y :: a)) := by
      have hb : (2 : Int) ^ 32 ≤ val W (x :: y :: a) := by
        rw [val_cons, pow32]; simp only [W] at hpos ⊢; omega
      rw [blen_shift 32 hb, pow32]
      congr 2
      rw [val_cons]
      generalize val W (y :: a) = q
      simp only [W]; omega
    rw [e, ih]
    simp only [List.length_cons, Nat.add_sub_cancel]
    rw [show (x :: y :: a).getD (a.length + 1) 0 = (y :: a).getD a.length 0 from rfl]
    omega
theorem Bits_eq {a : List Int} (ha : fine a) (h : can a) : S.limbs_Bits (a, ()) = some (blen (val W a), ()) := by
  unfold fine at ha
  simp only [S.limbs_Bits, L.limbs_Bits]
  by_cases h0 : a = []
  · subst h0; rw [ct (by simp)]; rfl
  have hl : a.length ≠ 0 := by intro e; exact h0 (List.eq_nil_of_length_eq_zero e)
  have hg := getD_ok (B := W) (by decide) h.1 (a.length - 1)
  simp only [W] at hg
  have hb := blen_le (k := 32) hg.1 (by simpa using hg.2)
  have hb' := blen_nonneg (a.getD (a.length - 1) 0)
  rw [cf (by omega), wi64 (x := (a.length : Int) - 1) (by omega) (by omega), ct (by omega), ct (by omega), show ((a.length : Int) - 1).toNat = a.length - 1 by omega, Len32_eq hg.1 hg.2]
  simp only [Option.bind_some]
  rw [wi64 (x := 32 * ((a.length : Int) - 1)) (by omega) (by omega), wi64 (by omega) (by omega), can_blen h h0]

/-- limbs_Small: one round of loop 0. -/
def limbs_Small_s0 (κ0 : Int → (List Int) → Int → Int → Option (Int × Int × Unit)) (n2 : Int) (t10 : List Int) (t11 : Int) (t12 : Int) : Option (Int × Int × Unit) :=
  cond (decide (t12 < t11))
   (
   cond (decide (0 ≤ t12))
   (
   cond (decide (t12 < (t10.length : Int)))
   (
   let z3 := IntKind.i64.wrap (32 * t12)
   cond (decide (0 ≤ z3))
   (
   κ0 (ibits .or .u64 n2 (IntKind.u64.wrap ((IntKind.u64.wrap (t10.getD t12.toNat 0)) * 2 ^ (min z3.toNat 64)))) t10 t11 (IntKind.i64.wrap (t12 + 1))) none) none) none) (some (n2, 0, ()))

def limbs_Small_l0 (K : Nat) : Nat → Int → (List Int) → Int → Int → Option (Int × Int × Unit)
  | 0, _, _, _, _ => none
  | n + 1, n2, t10, t11, t12 => limbs_Small_s0 (limbs_Small_l0 K n) n2 t10 t11 t12

/-- limbs.Small -/
def limbs_Small_b (I0 : Int → (List Int) → Int → Int → Option (Int × Int × Unit)) (a : List Int) : Option (Int × Int × Unit) :=
  cond (decide (2 < (a.length : Int))) (some (0, 11, ())) (I0 0 a (a.length : Int) 0)

def limbs_Small (K : Nat) (a : List Int) : Option (Int × Int × Unit) := limbs_Small_b (limbs_Small_l0 K K) a

def S.limbs_Small (x : List Int × Unit) : Option (Int × Int × Unit) := if ok W x.1 ∧ fine x.1 then some (if 2 < x.1.length then (0, 11, ()) else (val W x.1, 0, ())) else none
theorem limbs_Small_ok (x : List Int × Unit) (y : Int × Int × Unit) (h : S.limbs_Small x = some y) : ∃ K, limbs_Small K x.1 = some y := by
  unfold S.limbs_Small at h
  split at h <;> cases h
  rename_i hh
  obtain ⟨ho, hf⟩ := hh
  obtain ⟨a, _⟩ := x
  simp only at ho hf ⊢
  unfold fine at hf
  refine ⟨3, ?_⟩
  simp only [limbs_Small, limbs_Small_b]
  by_cases h2 : 2 < a.length
  · rw [ct (by omega), if_pos h2]
  rw [cf (by omega), if_neg h2]
  have w0 : IntKind.i64.wrap (32 * 0) = 0 := wi64 (by decide) (by decide)
  have w1 : IntKind.i64.wrap (0 + 1) = 1 := wi64 (by decide) (by decide)
  have w2 : IntKind.i64.wrap (32 * 1) = 32 := wi64 (by decide) (by decide)
  have w3 : IntKind.i64.wrap (1 + 1) = 2 := wi64 (by decide) (by decide)
  match a, h2 with
  | [], _ => rfl
  | [x], _ =>
    have hx := (ok_cons.1 ho).1
    simp only [W] at hx
    obtain ⟨X, rfl⟩ : ∃ X : Nat, x = X := ⟨x.toNat, by omega⟩
    simp only [limbs_Small_l0, limbs_Small_s0, List.length_cons, List.length_nil]
    rw [ct (by decide), ct (by decide), ct (by decide), w0, ct (by decide), w1]
    rw [cf (by decide)]
    have e : ([(X : Int)].getD (0 : Int).toNat 0) = (X : Int) := rfl
    have e1 : (X : Int) * 2 ^ (min (0 : Int).toNat 64) = ((2 ^ 0 * X : Nat) : Int) := by simp
    rw [e, wu64 hx.1 (by omega), e1, wu64 (by omega) (by omega)]
    have := or_u64 (h := 0) (q := X) (s := 0) (by decide) (by omega)
    rw [show ((0 : Nat) : Int) = 0 from rfl] at this
    rw [this]
    simp
  | [x, y], _ =>
    have hx := (ok_cons.1 ho).1
    have hy := (ok_cons.1 (ok_cons.1 ho).2).1
    simp only [W] at hx hy
    obtain ⟨X, rfl⟩ : ∃ X : Nat, x = X := ⟨x.toNat, by omega⟩
    obtain ⟨Y, rfl⟩ : ∃ Y : Nat, y = Y := ⟨y.toNat, by omega⟩
    simp only [limbs_Small_l0, limbs_Small_s0, List.length_cons, List.length_nil]
    rw [ct (by decide), ct (by decide), ct (by decide), w0, ct (by decide), w1]
    rw [ct (by decide), ct (by decide), ct (by decide), w2, ct (by decide), w3]
    rw [cf (by decide)]
    have e : ([(X : Int), (Y : Int)].getD (0 : Int).toNat 0) = (X : Int) := rfl
    have e' : ([(X : Int), (Y : Int)].getD (1 : Int).toNat 0) = (Y : Int) := rfl
    have e1 : (X : Int) * 2 ^ (min (0 : Int).toNat 64) = ((2 ^ 0 * X : Nat) : Int) := by simp
    have e2 : (Y : Int) * 2 ^ (min (32 : Int).toNat 64) = ((2 ^ 32 * Y : Nat) : Int) := by
      rw [show min (32 : Int).toNat 64 = 32 from rfl, pow32]; omega
    rw [e, e', wu64 hx.1 (by omega), wu64 hy.1 (by omega), e1, e2, wu64 (x := ((2 ^ 0 * X : Nat) : Int)) (by omega) (by omega), wu64 (x := ((2 ^ 32 * Y : Nat) : Int)) (by omega) (by omega)]
    have h1 := or_u64 (h := 0) (q := X) (s := 0) (by decide) (by omega)
    rw [show ((0 : Nat) : Int) = 0 from rfl] at h1
    rw [h1, Nat.pow_zero, Nat.one_mul, Nat.add_zero, or_u64 (by omega) (by omega)]
    simp only [val_cons, val_nil, W]
    congr 2
    omega
  | _ :: _ :: _ :: _, h => simp at h

/-- Noughts at the end of a digit's bits. -/
def tz (n : Nat) : Nat := ((List.range 32).find? fun k => n % 2 ^ (k + 1) ≠ 0).getD 32
def S.bits_TrailingZeros32 (x : Int × Unit) : Option (Int × Unit) := if 0 ≤ x.1 ∧ x.1 < W then some (tz x.1.toNat, ()) else none
theorem tz_spec {n : Nat} (h0 : n ≠ 0) (h1 : n < 4294967296) : tz n < 32 ∧ n % 2 ^ tz n = 0 ∧ n % 2 ^ (tz n + 1) ≠ 0 := by
  unfold tz
  cases hq : (List.range 32).find? fun k => n % 2 ^ (k + 1) ≠ 0 with
  | none =>
    have := List.find?_eq_none.1 hq 31 (by decide)
    simp at this
    omega
  | some k =>
    have h2 := List.find?_some hq
    have h3 := List.mem_of_find?_eq_some hq
    simp only [List.mem_range] at h3
    simp only [Option.getD_some]
    refine ⟨h3, ?_, by simpa using h2⟩
    cases k with
    | zero => simp [Nat.mod_one]
    | succ j =>
      rw [List.find?_range_eq_some] at hq
      have := hq.2.2 j (by omega)
      simpa using this
theorem tz_le (n : Nat) : tz n ≤ 32 := by
  unfold tz
  cases hq : (List.range 32).find? fun k => n % 2 ^ (k + 1) ≠ 0 with
  | none => exact Nat.le_refl _
  | some k =>
    have h3 := List.mem_of_find?_eq_some hq
    simp only [List.mem_range] at h3
    simp only [Option.getD_some]; omega

/-- limbs_Tail: one round of loop 0. -/
def limbs_Tail_s0 (κ0 : (List Int) → Int → Int → Option (Int × Unit)) (t5 : List Int) (t6 : Int) (t7 : Int) : Option (Int × Unit) :=
  cond (decide (t7 < t6))
   (
   cond (decide (0 ≤ t7))
   (
   cond (decide (t7 < (t5.length : Int)))
   (
   let z1 := t5.getD t7.toNat 0
   cond (!(decide (z1 = 0)))
   (
   (S.bits_TrailingZeros32 (z1, ())).bind fun z3 =>
   some ((IntKind.i64.wrap ((IntKind.i64.wrap (32 * t7)) + z3.1)), ())) (κ0 t5 t6 (IntKind.i64.wrap (t7 + 1)))) none) none) (some (0, ()))

def limbs_Tail_l0 (K : Nat) : Nat → (List Int) → Int → Int → Option (Int × Unit)
  | 0, _, _, _ => none
  | n + 1, t5, t6, t7 => limbs_Tail_s0 (limbs_Tail_l0 K n) t5 t6 t7

/-- limbs.Tail -/
def limbs_Tail_b (I0 : (List Int) → Int → Int → Option (Int × Unit)) (a : List Int) : Option (Int × Unit) :=
  I0 a (a.length : Int) 0

def limbs_Tail (K : Nat) (a : List Int) : Option (Int × Unit) := limbs_Tail_b (limbs_Tail_l0 K K) a

def tailF : Nat → List Int → Int
  | _, [] => 0
  | i, x :: xs => if x ≠ 0 then 32 * (i : Int) + tz x.toNat else tailF (i + 1) xs
def S.limbs_Tail (x : List Int × Unit) : Option (Int × Unit) := if fine x.1 ∧ ok W x.1 then some (tailF 0 x.1, ()) else none
theorem tail_loop (K : Nat) (a : List Int) (ha : fine a) (oa : ok W a) : ∀ (r i n : Nat), i + r = a.length → r < n → limbs_Tail_l0 K n a (a.length : Int) (i : Int) = some (tailF i (a.drop i), ()) := by
  unfold fine at ha
  intro r
  induction r with
  | zero =>
    intro i n hi hn
    obtain ⟨n, rfl⟩ : ∃ m, n = m + 1 := ⟨n - 1, by omega⟩
    simp only [limbs_Tail_l0, limbs_Tail_s0]
    rw [cf (by omega), List.drop_eq_nil_of_le (by omega)]
    rfl
  | succ r ih =>
    intro i n hi hn
    obtain ⟨n, rfl⟩ : ∃ m, n = m + 1 := ⟨n - 1, by omega⟩
    have ga := getD_ok (B := W) (by decide) oa i
    simp only [limbs_Tail_l0, limbs_Tail_s0, Int.toNat_natCast]
    rw [ct (by omega), ct (by omega), ct (by omega)]
    have hd : a.drop i = a.getD i 0 :: a.drop (i + 1) := by
      rw [List.drop_eq_getElem_cons (show i < a.length by omega)]
      simp [List.getD, List.getElem?_eq_getElem (show i < a.length by omega)]
    rw [hd]
    by_cases h0 : a.getD i 0 = 0
    · rw [decide_eq_true h0]
      simp only [Bool.not_true, cond_false]
      rw [wi64 (by omega) (by omega), show ((i : Int) + 1) = ((i + 1 : Nat) : Int) by omega, ih (i + 1) n (by omega) (by omega)]
      simp only [tailF, h0, ne_eq, not_true_eq_false, if_false]
    · rw [decide_eq_false h0]
      simp only [Bool.not_false, cond_true, S.bits_TrailingZeros32]
      rw [if_pos ga]
      simp only [Option.bind_some]
      have := tz_le (a.getD i 0).toNat
      rw [wi64 (x := 32 * (i : Int)) (by omega) (by omega), wi64 (by omega) (by omega)]
      simp only [tailF, h0, ne_eq, not_false_eq_true, if_true]
theorem limbs_Tail_ok (x : List Int × Unit) (y : Int × Unit) (h : S.limbs_Tail x = some y) : ∃ K, limbs_Tail K x.1 = some y := by
  unfold S.limbs_Tail at h
  split at h <;> cases h
  rename_i hh
  exact ⟨x.1.length + 1, by simp only [limbs_Tail, limbs_Tail_b]; exact tail_loop _ x.1 hh.1 hh.2 x.1.length 0 _ (by omega) (by omega)⟩
end Go.L

/-! LI -/
namespace Go.L
open Go.PM
set_option linter.unusedVariables false
set_option linter.unusedSimpArgs false

/-- limbs_less: one round of loop 0. -/
def limbs_less_s0 (κ0 : (List Int) → Nat → Nat → (List Int) → Int → Int → Int → (List Int) → Int → Int → Option ((List Int) × Bool × Unit)) (u : List Int) (off : Nat) (len : Nat) (v : List Int) (digit : Int) (carry : Int) (owed : Int) (t13 : List Int) (t14 : Int) (t15 : Int) : Option ((List Int) × Bool × Unit) :=
  cond (decide (t15 < t14))
   (
   cond (decide (0 ≤ t15))
   (
   cond (decide (t15 < (t13.length : Int)))
   (
   let z4 := IntKind.u64.wrap (carry + (IntKind.u64.wrap (digit * (IntKind.u64.wrap (t13.getD t15.toNat 0)))))
   cond (decide (0 ≤ t15))
   (
   cond (decide (t15 < ((len : Nat) : Int)))
   (
   let z10 := IntKind.u64.wrap ((IntKind.u64.wrap ((IntKind.u64.wrap (u.getD (off + t15.toNat) 0)) - (IntKind.u64.wrap (IntKind.u32.wrap z4)))) - owed)
   cond (decide (0 ≤ t15))
   (
   cond (decide (t15 < ((len : Nat) : Int)))
   (
   κ0 (u.set (off + t15.toNat) (IntKind.u32.wrap z10)) off len v digit (z4.fdiv (2 ^ 32)) (z10.fdiv (2 ^ 63)) t13 t14 (IntKind.i64.wrap (t15 + 1))) none) none) none) none) none) none)
   (
   cond (decide (0 ≤ (v.length : Int)))
   (
   cond (decide ((v.length : Int) < ((len : Nat) : Int)))
   (
   let z19 := IntKind.u64.wrap ((IntKind.u64.wrap ((IntKind.u64.wrap (u.getD (off + v.length) 0)) - carry)) - owed)
   cond (decide (0 ≤ (v.length : Int)))
   (
   cond (decide ((v.length : Int) < ((len : Nat) : Int)))
   (
   some ((u.set (off + v.length) (IntKind.u32.wrap z19)), decide ((z19.fdiv (2 ^ 63)) = 1), ())) none) none) none) none)

def limbs_less_l0 (K : Nat) : Nat → (List Int) → Nat → Nat → (List Int) → Int → Int → Int → (List Int) → Int → Int → Option ((List Int) × Bool × Unit)
  | 0, _, _, _, _, _, _, _, _, _, _ => none
  | n + 1, u, off, len, v, digit, carry, owed, t13, t14, t15 => limbs_less_s0 (limbs_less_l0 K n) u off len v digit carry owed t13 t14 t15

/-- limbs.less -/
def limbs_less_b (I0 : (List Int) → Nat → Nat → (List Int) → Int → Int → Int → (List Int) → Int → Int → Option ((List Int) × Bool × Unit)) (u : List Int) (off : Int) (len : Int) (v : List Int) (digit : Int) : Option ((List Int) × Bool × Unit) :=
  I0 u off.toNat len.toNat v digit 0 0 v (v.length : Int) 0

def limbs_less (K : Nat) (u : List Int) (off : Int) (len : Int) (v : List Int) (digit : Int) : Option ((List Int) × Bool × Unit) := limbs_less_b (limbs_less_l0 K K) u off len v digit

def S.limbs_less (x : List Int × Int × Int × List Int × Int × Unit) : Option (List Int × Bool × Unit) :=
  if ok W x.1 ∧ ok W x.2.2.2.1 ∧ fine x.2.2.2.1 ∧ 0 ≤ x.2.1 ∧ x.2.2.1 = (x.2.2.2.1.length : Int) + 1 ∧ x.2.1.toNat + x.2.2.2.1.length + 1 ≤ x.1.length ∧ 0 ≤ x.2.2.2.2.1 ∧ x.2.2.2.2.1 < W then
   L.limbs_less (x.2.2.2.1.length + 1) x.1 x.2.1 x.2.2.1 x.2.2.2.1 x.2.2.2.2.1 else none
theorem less_loop (K : Nat) (u0 v : List Int) (off : Nat) (dg : Int) (hf : fine v) (ov : ok W v) (hl0 : off + v.length + 1 ≤ u0.length) (d0 : 0 ≤ dg) (d1 : dg < W) : ∀ (r i n : Nat) (u : List Int) (carry owed : Int), i + r = v.length → r < n → u.length = u0.length → ok W u → 0 ≤ carry → carry < W → 0 ≤ owed → owed ≤ 1 →
    (∀ j, off + v.length + 1 ≤ j → u.getD j 0 = u0.getD j 0) →
    val W u = val W u0 - W ^ off * (dg * val W (v.take i)) + W ^ (off + i) * (carry + owed) →
    ∃ u' b, limbs_less_l0 K n u off (v.length + 1) v dg carry owed v (v.length : Int) (i : Int) = some (u', b, ()) ∧ u'.length = u0.length ∧ ok W u' ∧ (∀ j, off + v.length + 1 ≤ j → u'.getD j 0 = u0.getD j 0) ∧
      val W u' = val W u0 - W ^ off * (dg * val W v) + W ^ (off + v.length + 1) * (if b = true then 1 else 0) := by
  unfold fine at hf
  simp only [W] at d1
  intro r
  induction r with
  | zero =>
    intro i n u carry owed hi hn hl ho c0 c1 w0 w1 hout hv
    obtain ⟨n, rfl⟩ : ∃ m, n = m + 1 := ⟨n - 1, by omega⟩
    have hi' : i = v.length := by omega
    subst hi'
    have gu := getD_ok (B := W) (by decide) ho (off + v.length)
    simp only [W] at gu c1
    simp only [limbs_less_l0, limbs_less_s0]
    rw [cf (by omega), ct (by omega), ct (by omega), ct (by omega), ct (by omega), wu64 gu.1 (by omega), wu64m, wu64m, wu32, show (2 : Int) ^ 63 = 9223372036854775808 by decide, Int.fdiv_eq_ediv_of_nonneg _ (by decide)]
    refine ⟨_, _, rfl, by simpa using hl, ok_set ho (by omega) (by simp only [W]; omega), fun j hj => by rw [getD_set_ne (by omega)]; exact hout j hj, ?_⟩
    rw [val_set _ _ _ (by omega), hv, List.take_length]
    obtain ⟨g, hg⟩ : ∃ g, g = u.getD (off + v.length) 0 := ⟨_, rfl⟩
    rw [← hg] at gu ⊢
    obtain ⟨z, hz⟩ : ∃ z, z = ((g - carry) % 18446744073709551616 - owed) % 18446744073709551616 := ⟨_, rfl⟩
    rw [← hz]
    have hcase : (z / 9223372036854775808 = 1 ∧ z % 4294967296 = g - carry - owed + 4294967296) ∨ (z / 9223372036854775808 = 0 ∧ z % 4294967296 = g - carry - owed) := by omega
    have hp : W ^ (off + v.length + 1) = W ^ (off + v.length) * 4294967296 := Int.pow_succ ..
    rcases hcase with ⟨h1, h2⟩ | ⟨h1, h2⟩
    · rw [h1, h2, if_pos (by decide), hp, Int.mul_one]
      have : W ^ (off + v.length) * (g - carry - owed + 4294967296 - g) = W ^ (off + v.length) * 4294967296 - W ^ (off + v.length) * (carry + owed) := by rw [← Int.mul_sub]; congr 1; omega
      omega
    · rw [h1, h2, if_neg (by decide), Int.mul_zero]
      have : W ^ (off + v.length) * (g - carry - owed - g) = - (W ^ (off + v.length) * (carry + owed)) := by rw [← Int.mul_neg]; congr 1; omega
      omega
  | succ r ih =>
    intro i n u carry owed hi hn hl ho c0 c1 w0 w1 hout hv
    obtain ⟨n, rfl⟩ : ∃ m, n = m + 1 := ⟨n - 1, by omega⟩
    have gu := getD_ok (B := W) (by decide) ho (off + i)
    have gv := getD_ok (B := W) (by decide) ov i
    simp only [W] at gu gv c1
    have hm := mul_in d0 d1 gv.1 gv.2
    simp only [limbs_less_l0, limbs_less_s0, Int.toNat_natCast]
    rw [ct (by omega), ct (by omega), ct (by omega), ct (by omega), ct (by omega), ct (by omega), ct (by omega)]
    rw [wu64 gv.1 (by omega), wu64 hm.1 (by omega), wu64 (x := carry + dg * v.getD i 0) (by omega) (by omega), wu64 gu.1 (by omega)]
    obtain ⟨g, hg⟩ : ∃ g, g = u.getD (off + i) 0 := ⟨_, rfl⟩
    obtain ⟨y, hy⟩ : ∃ y, y = carry + dg * v.getD i 0 := ⟨_, rfl⟩
    rw [← hy, ← hg, wu32 y, wu64 (x := y % 4294967296) (by omega) (by omega), wu64m, wu64m, wu32, show (2 : Int) ^ 63 = 9223372036854775808 by decide, Int.fdiv_eq_ediv_of_nonneg _ (by decide), pow32, Int.fdiv_eq_ediv_of_nonneg _ (by decide), wi64 (by omega) (by omega), show ((i : Int) + 1) = ((i + 1 : Nat) : Int) by omega]
    rw [← hg] at gu
    obtain ⟨z, hz⟩ : ∃ z, z = ((g - y % 4294967296) % 18446744073709551616 - owed) % 18446744073709551616 := ⟨_, rfl⟩
    rw [← hz]
    have hcase : z % 4294967296 = g - y % 4294967296 - owed + 4294967296 * (z / 9223372036854775808) ∧ 0 ≤ z / 9223372036854775808 ∧ z / 9223372036854775808 ≤ 1 := by omega
    refine ih (i + 1) n _ _ _ (by omega) (by omega) (by simpa using hl) (ok_set ho (by omega) (by simp only [W]; omega)) (by omega) (by simp only [W]; omega) hcase.2.1 hcase.2.2 (fun j hj => by rw [getD_set_ne (by omega)]; exact hout j hj) ?_
    rw [val_set _ _ _ (by omega), hv, ← hg, hcase.1, val_take_succ, ← Nat.add_assoc, Int.pow_succ]
    have e1 : W ^ off * (dg * (val W (v.take i) + W ^ i * v.getD i 0)) = W ^ off * (dg * val W (v.take i)) + W ^ (off + i) * (dg * v.getD i 0) := by
      rw [Int.mul_add, Int.mul_add, Int.pow_add, Int.mul_assoc (W ^ off) (W ^ i), ← Int.mul_assoc dg, Int.mul_comm dg (W ^ i), Int.mul_assoc (W ^ i)]
    have e2 : W ^ (off + i) * (carry + owed) + W ^ (off + i) * (g - y % 4294967296 - owed + 4294967296 * (z / 9223372036854775808) - g) = W ^ (off + i) * W * (y / 4294967296 + z / 9223372036854775808) - W ^ (off + i) * (dg * v.getD i 0) := by
      rw [← Int.mul_add, Int.mul_assoc, ← Int.mul_sub]
      congr 1
      simp only [W]; omega
    rw [e1]
    omega
theorem less_spec {u v : List Int} {off : Nat} {dg : Int} (hf : fine v) (ou : ok W u) (ov : ok W v) (hl : off + v.length + 1 ≤ u.length) (d0 : 0 ≤ dg) (d1 : dg < W) {len : Int} (hlen : len = (v.length : Int) + 1) :
    ∃ u' b, S.limbs_less (u, (off : Int), len, v, dg, ()) = some (u', b, ()) ∧ u'.length = u.length ∧ ok W u' ∧ (∀ j, off + v.length + 1 ≤ j → u'.getD j 0 = u.getD j 0) ∧
      val W u' = val W u - W ^ off * (dg * val W v) + W ^ (off + v.length + 1) * (if b = true then 1 else 0) := by
  subst hlen
  simp only [S.limbs_less]
  rw [if_pos ⟨ou, ov, hf, by omega, trivial, by simpa using hl, d0, d1⟩]
  simp only [L.limbs_less, limbs_less_b]
  rw [Int.toNat_natCast, show ((v.length : Int) + 1).toNat = v.length + 1 by omega]
  exact less_loop (v.length + 1) u v off dg hf ov hl d0 d1 v.length 0 (v.length + 1) u 0 0 (by omega) (by omega) rfl ou (by decide) (by decide) (by decide) (by decide) (fun _ _ => rfl) (by simp)
theorem limbs_less_ok (x : List Int × Int × Int × List Int × Int × Unit) (y : List Int × Bool × Unit) (h : S.limbs_less x = some y) : ∃ K, limbs_less K x.1 x.2.1 x.2.2.1 x.2.2.2.1 x.2.2.2.2.1 = some y := by
  unfold S.limbs_less at h
  split at h
  · exact ⟨_, h⟩
  · cases h
theorem limbs_less_len (x : List Int × Int × Int × List Int × Int × Unit) (y : List Int × Bool × Unit) (h : S.limbs_less x = some y) : y.1.length = x.1.length := by
  have h0 := h
  unfold S.limbs_less at h
  split at h
  · rename_i hh
    obtain ⟨u, off, len, v, dg, _⟩ := x
    obtain ⟨h1, h2, h3, h4, h5, h6, h7, h8⟩ := hh
    simp only at h1 h2 h3 h4 h5 h6 h7 h8
    obtain ⟨off', rfl⟩ : ∃ o : Nat, off = o := ⟨off.toNat, by omega⟩
    obtain ⟨u', b, e, e2, _⟩ := less_spec (off := off') h3 h1 h2 (by simpa using h6) h7 h8 h5
    have e' : S.limbs_less ((u, (off' : Int), len, v, dg, ()) : List Int × Int × Int × List Int × Int × Unit) = some y := h0
    rw [e] at e'
    cases e'
    exact e2
  · cases h

/-- limbs_back: one round of loop 0. -/
def limbs_back_s0 (κ0 : (List Int) → Nat → Nat → (List Int) → Int → (List Int) → Int → Int → Option ((List Int) × Unit)) (u : List Int) (off : Nat) (len : Nat) (v : List Int) (carry : Int) (t7 : List Int) (t8 : Int) (t9 : Int) : Option ((List Int) × Unit) :=
  cond (decide (t9 < t8))
   (
   cond (decide (0 ≤ t9))
   (
   cond (decide (t9 < (t7.length : Int)))
   (
   cond (decide (0 ≤ t9))
   (
   cond (decide (t9 < ((len : Nat) : Int)))
   (
   let z6 := IntKind.u64.wrap (carry + (IntKind.u64.wrap ((IntKind.u64.wrap (u.getD (off + t9.toNat) 0)) + (IntKind.u64.wrap (t7.getD t9.toNat 0)))))
   cond (decide (0 ≤ t9))
   (
   cond (decide (t9 < ((len : Nat) : Int)))
   (
   κ0 (u.set (off + t9.toNat) (IntKind.u32.wrap z6)) off len v (z6.fdiv (2 ^ 32)) t7 t8 (IntKind.i64.wrap (t9 + 1))) none) none) none) none) none) none)
   (
   cond (decide (0 ≤ (v.length : Int)))
   (
   cond (decide ((v.length : Int) < ((len : Nat) : Int)))
   (
   cond (decide (0 ≤ (v.length : Int)))
   (
   cond (decide ((v.length : Int) < ((len : Nat) : Int)))
   (
   some ((u.set (off + v.length) (IntKind.u32.wrap ((u.getD (off + v.length) 0) + (IntKind.u32.wrap carry)))), ())) none) none) none) none)

def limbs_back_l0 (K : Nat) : Nat → (List Int) → Nat → Nat → (List Int) → Int → (List Int) → Int → Int → Option ((List Int) × Unit)
  | 0, _, _, _, _, _, _, _, _ => none
  | n + 1, u, off, len, v, carry, t7, t8, t9 => limbs_back_s0 (limbs_back_l0 K n) u off len v carry t7 t8 t9

/-- limbs.back -/
def limbs_back_b (I0 : (List Int) → Nat → Nat → (List Int) → Int → (List Int) → Int → Int → Option ((List Int) × Unit)) (u : List Int) (off : Int) (len : Int) (v : List Int) : Option ((List Int) × Unit) :=
  I0 u off.toNat len.toNat v 0 v (v.length : Int) 0

def limbs_back (K : Nat) (u : List Int) (off : Int) (len : Int) (v : List Int) : Option ((List Int) × Unit) := limbs_back_b (limbs_back_l0 K K) u off len v

def S.limbs_back (x : List Int × Int × Int × List Int × Unit) : Option (List Int × Unit) :=
  if ok W x.1 ∧ ok W x.2.2.2.1 ∧ fine x.2.2.2.1 ∧ 0 ≤ x.2.1 ∧ x.2.2.1 = (x.2.2.2.1.length : Int) + 1 ∧ x.2.1.toNat + x.2.2.2.1.length + 1 ≤ x.1.length then
   L.limbs_back (x.2.2.2.1.length + 1) x.1 x.2.1 x.2.2.1 x.2.2.2.1 else none
theorem back_loop (K : Nat) (u0 v : List Int) (off : Nat) (hf : fine v) (ov : ok W v) (hl0 : off + v.length + 1 ≤ u0.length) : ∀ (r i n : Nat) (u : List Int) (carry : Int), i + r = v.length → r < n → u.length = u0.length → ok W u → 0 ≤ carry → carry ≤ 1 →
    (∀ j, off + v.length + 1 ≤ j → u.getD j 0 = u0.getD j 0) →
    val W u = val W u0 + W ^ off * val W (v.take i) - W ^ (off + i) * carry →
    ∃ u' c, limbs_back_l0 K n u off (v.length + 1) v carry v (v.length : Int) (i : Int) = some (u', ()) ∧ u'.length = u0.length ∧ ok W u' ∧ (∀ j, off + v.length + 1 ≤ j → u'.getD j 0 = u0.getD j 0) ∧
      0 ≤ c ∧ c ≤ 1 ∧ val W u' = val W u0 + W ^ off * val W v - W ^ (off + v.length + 1) * c := by
  unfold fine at hf
  intro r
  induction r with
  | zero =>
    intro i n u carry hi hn hl ho c0 c1 hout hv
    obtain ⟨n, rfl⟩ : ∃ m, n = m + 1 := ⟨n - 1, by omega⟩
    have hi' : i = v.length := by omega
    subst hi'
    have gu := getD_ok (B := W) (by decide) ho (off + v.length)
    simp only [W] at gu
    simp only [limbs_back_l0, limbs_back_s0]
    rw [cf (by omega), ct (by omega), ct (by omega), ct (by omega), ct (by omega), wu32, wu32]
    obtain ⟨g, hg⟩ : ∃ g, g = u.getD (off + v.length) 0 := ⟨_, rfl⟩
    rw [← hg] at gu ⊢
    refine ⟨_, (g + carry) / 4294967296, rfl, by simpa using hl, ok_set ho (by omega) (by simp only [W]; omega), fun j hj => by rw [getD_set_ne (by omega)]; exact hout j hj, by omega, by omega, ?_⟩
    rw [val_set _ _ _ (by omega), hv, List.take_length, ← hg]
    have hp : W ^ (off + v.length + 1) = W ^ (off + v.length) * 4294967296 := Int.pow_succ ..
    have : W ^ (off + v.length) * ((g + carry % 4294967296) % 4294967296 - g) = W ^ (off + v.length) * carry - W ^ (off + v.length) * 4294967296 * ((g + carry) / 4294967296) := by
      rw [Int.mul_assoc, ← Int.mul_sub]; congr 1; omega
    rw [hp]
    omega
  | succ r ih =>
    intro i n u carry hi hn hl ho c0 c1 hout hv
    obtain ⟨n, rfl⟩ : ∃ m, n = m + 1 := ⟨n - 1, by omega⟩
    have gu := getD_ok (B := W) (by decide) ho (off + i)
    have gv := getD_ok (B := W) (by decide) ov i
    simp only [W] at gu gv
    simp only [limbs_back_l0, limbs_back_s0, Int.toNat_natCast]
    rw [ct (by omega), ct (by omega), ct (by omega), ct (by omega), ct (by omega), ct (by omega), ct (by omega)]
    obtain ⟨g, hg⟩ : ∃ g, g = u.getD (off + i) 0 := ⟨_, rfl⟩
    obtain ⟨y, hy⟩ : ∃ y, y = v.getD i 0 := ⟨_, rfl⟩
    rw [← hg] at gu
    rw [← hy] at gv
    rw [← hg, ← hy, wu64 gu.1 (by omega), wu64 gv.1 (by omega), wu64 (x := g + y) (by omega) (by omega), wu64 (x := carry + (g + y)) (by omega) (by omega), wu32, pow32, Int.fdiv_eq_ediv_of_nonneg _ (by decide), wi64 (by omega) (by omega), show ((i : Int) + 1) = ((i + 1 : Nat) : Int) by omega]
    refine ih (i + 1) n _ _ (by omega) (by omega) (by simpa using hl) (ok_set ho (by omega) (by simp only [W]; omega)) (by omega) (by omega) (fun j hj => by rw [getD_set_ne (by omega)]; exact hout j hj) ?_
    rw [val_set _ _ _ (by omega), hv, ← hg, val_take_succ, ← hy, ← Nat.add_assoc, Int.pow_succ]
    have e1 : W ^ off * (val W (v.take i) + W ^ i * y) = W ^ off * val W (v.take i) + W ^ (off + i) * y := by rw [Int.mul_add, Int.pow_add, Int.mul_assoc]
    have e2 : W ^ (off + i) * ((carry + (g + y)) % 4294967296 - g) - W ^ (off + i) * carry = W ^ (off + i) * y - W ^ (off + i) * W * ((carry + (g + y)) / 4294967296) := by
      rw [← Int.mul_sub, Int.mul_assoc, ← Int.mul_sub]
      congr 1
      simp only [W]; omega
    rw [e1]
    omega
theorem back_spec {u v : List Int} {off : Nat} (hf : fine v) (ou : ok W u) (ov : ok W v) (hl : off + v.length + 1 ≤ u.length) {len : Int} (hlen : len = (v.length : Int) + 1) :
    ∃ u' c, S.limbs_back (u, (off : Int), len, v, ()) = some (u', ()) ∧ u'.length = u.length ∧ ok W u' ∧ (∀ j, off + v.length + 1 ≤ j → u'.getD j 0 = u.getD j 0) ∧
      0 ≤ c ∧ c ≤ 1 ∧ val W u' = val W u + W ^ off * val W v - W ^ (off + v.length + 1) * c := by
  subst hlen
  simp only [S.limbs_back]
  rw [if_pos ⟨ou, ov, hf, by omega, trivial, by simpa using hl⟩]
  simp only [L.limbs_back, limbs_back_b]
  rw [Int.toNat_natCast, show ((v.length : Int) + 1).toNat = v.length + 1 by omega]
  exact back_loop (v.length + 1) u v off hf ov hl v.length 0 (v.length + 1) u 0 (by omega) (by omega) rfl ou (by decide) (by decide) (fun _ _ => rfl) (by simp)
theorem limbs_back_ok (x : List Int × Int × Int × List Int × Unit) (y : List Int × Unit) (h : S.limbs_back x = some y) : ∃ K, limbs_back K x.1 x.2.1 x.2.2.1 x.2.2.2.1 = some y := by
  unfold S.limbs_back at h
  split at h
  · exact ⟨_, h⟩
  · cases h
theorem limbs_back_len (x : List Int × Int × Int × List Int × Unit) (y : List Int × Unit) (h : S.limbs_back x = some y) : y.1.length = x.1.length := by
  have h0 := h
  unfold S.limbs_back at h
  split at h
  · rename_i hh
    obtain ⟨u, off, len, v, _⟩ := x
    obtain ⟨h1, h2, h3, h4, h5, h6⟩ := hh
    simp only at h1 h2 h3 h4 h5 h6
    obtain ⟨off', rfl⟩ : ∃ o : Nat, off = o := ⟨off.toNat, by omega⟩
    obtain ⟨u', b, e, e2, _⟩ := back_spec (off := off') h3 h1 h2 (by simpa using h6) h5
    have e' : S.limbs_back ((u, (off' : Int), len, v, ()) : List Int × Int × Int × List Int × Unit) = some y := h0
    rw [e] at e'
    cases e'
    exact e2
  · cases h
end Go.L

/-! LJ -/
namespace Go.L
open Go.PM
set_option linter.unusedVariables false
set_option linter.unusedSimpArgs false

theorem Wpos (n : Nat) : (0 : Int) < W ^ n := Int.pow_pos (by decide)
theorem getD_eq : ∀ {a : List Int} (j : Nat), ok W a → a.getD j 0 = val W a / W ^ j % W
  | [], j, _ => by simp
  | x :: a, 0, h => by
    have h1 := (ok_cons.1 h).1
    simp only [List.getD_cons_zero, Int.pow_zero, Int.ediv_one, val_cons]
    rw [Int.add_mul_emod_self_left, Int.emod_eq_of_lt h1.1 h1.2]
  | x :: a, j + 1, h => by
    have h1 := (ok_cons.1 h).1
    have ih := getD_eq (a := a) j (ok_cons.1 h).2
    rw [List.getD_cons_succ, ih, val_cons, Int.pow_succ, Int.mul_comm (W ^ j) W]
    have e := Int.ediv_ediv (x := x + W * val W a) (y := W) (z := W ^ j)
    rw [if_neg (fun h => absurd h.1 (by decide)), Int.sub_zero] at e
    rw [← e]
    congr 2
    rw [Int.add_mul_ediv_left _ _ (by decide), Int.ediv_eq_zero_of_lt h1.1 h1.2, Int.zero_add]
theorem val_lt_of_zero : ∀ {a : List Int} (m : Nat), ok W a → (∀ j, m ≤ j → a.getD j 0 = 0) → val W a < W ^ m
  | [], m, _, _ => by simp only [val_nil]; exact Wpos m
  | x :: a, 0, h, hz => by
    have h0 : x = 0 := hz 0 (Nat.le_refl _)
    have := val_lt_of_zero (a := a) 0 (ok_cons.1 h).2 (fun j _ => by have := hz (j + 1) (by omega); simpa using this)
    have h2 := val_nonneg (B := W) (by decide) (ok_cons.1 h).2
    simp only [Int.pow_zero, val_cons] at this ⊢
    have : val W a = 0 := by omega
    rw [h0, this]; decide
  | x :: a, m + 1, h, hz => by
    have h1 := (ok_cons.1 h).1
    have := val_lt_of_zero (a := a) m (ok_cons.1 h).2 (fun j hj => by have := hz (j + 1) (by omega); simpa using this)
    rw [val_cons, Int.pow_succ, Int.mul_comm (W ^ m)]
    have h3 : W * (val W a + 1) ≤ W * W ^ m := Int.mul_le_mul_of_nonneg_left (by omega) (by decide)
    rw [Int.mul_add, Int.mul_one] at h3
    omega
theorem zero_of_lt {a : List Int} {m j : Nat} (h : ok W a) (hv : val W a < W ^ m) (hj : m ≤ j) : a.getD j 0 = 0 := by
  rw [getD_eq j h]
  have h1 : W ^ m ≤ W ^ j := by
    obtain ⟨d, rfl⟩ : ∃ d, j = m + d := ⟨j - m, by omega⟩
    rw [Int.pow_add]
    have h4 := Wpos m
    have h5 := Wpos d
    have := Int.mul_le_mul_of_nonneg_left (show 1 ≤ W ^ d by omega) (Int.le_of_lt h4)
    omega
  rw [Int.ediv_eq_zero_of_lt (val_nonneg (by decide) h) (by omega)]; rfl

/-- What is done with a guess. -/
def contC (κ0 : Int → (List Int) → (List Int) → (List Int) → Int → Int → Option ((List Int) × (List Int) × Unit)) (shift : Int) (v u q : List Int) (n2 k guess : Int) : Option ((List Int) × (List Int) × Unit) :=
  let z77 := IntKind.i64.wrap ((IntKind.i64.wrap (k + n2)) + 1)
  cond (decide (0 ≤ k))
   (
   cond (decide (k ≤ z77))
   (
   cond (decide (z77 ≤ (u.length : Int)))
   (
   (S.limbs_less (u, ((k.toNat : Nat) : Int), ((z77.toNat - k.toNat : Nat) : Int), v, guess, ())).bind fun z78 =>
   cond (z78.2.1)
   (
   let z81 := IntKind.i64.wrap ((IntKind.i64.wrap (k + n2)) + 1)
   cond (decide (0 ≤ k))
   (
   cond (decide (k ≤ z81))
   (
   cond (decide (z81 ≤ (z78.1.length : Int)))
   (
   (S.limbs_back (z78.1, ((k.toNat : Nat) : Int), ((z81.toNat - k.toNat : Nat) : Int), v, ())).bind fun z82 =>
   cond (decide (0 ≤ k))
   (
   cond (decide (k < (q.length : Int)))
   (
   κ0 shift v z82.1 (q.set k.toNat (IntKind.u32.wrap (IntKind.u64.wrap (guess - 1)))) n2 (IntKind.i64.wrap (k - 1))) none) none) none) none) none)
   (
   cond (decide (0 ≤ k))
   (
   cond (decide (k < (q.length : Int))) (κ0 shift v z78.1 (q.set k.toNat (IntKind.u32.wrap guess)) n2 (IntKind.i64.wrap (k - 1))) none) none)) none) none) none

theorem cont_ok (κ0 : Int → (List Int) → (List Int) → (List Int) → Int → Int → Option ((List Int) × (List Int) × Unit)) (shift : Int) {v u q : List Int} {k : Nat} {guess : Int} (hf : fine v) (hfu : fine u) (ou : ok W u) (ov : ok W v) (hl : k + v.length + 1 ≤ u.length) (hq : k < q.length)
    (hz : ∀ j, k + v.length + 1 ≤ j → u.getD j 0 = 0) (hV : 0 < val W v) (hT : val W u < val W v * W ^ (k + 1)) (g0 : val W u / W ^ k / val W v ≤ guess) (g1 : guess ≤ val W u / W ^ k / val W v + 1) (g2 : guess < W) :
    ∃ u', contC κ0 shift v u q (v.length : Int) (k : Int) guess = κ0 shift v u' (q.set k (val W u / W ^ k / val W v)) (v.length : Int) ((k : Int) - 1) ∧ u'.length = u.length ∧ ok W u' ∧
      val W u' = val W u - W ^ k * (val W u / W ^ k / val W v * val W v) ∧ val W u' < val W v * W ^ k ∧ 0 ≤ val W u / W ^ k / val W v ∧ val W u / W ^ k / val W v < W := by
  have hWk := Wpos k
  obtain ⟨T, hTe⟩ : ∃ T, T = val W u := ⟨_, rfl⟩
  obtain ⟨V, hVe⟩ : ∃ V, V = val W v := ⟨_, rfl⟩
  obtain ⟨d, hde⟩ : ∃ d, d = T / W ^ k / V := ⟨_, rfl⟩
  rw [← hTe, ← hVe] at hT g0 g1 ⊢
  rw [← hVe] at hV
  rw [← hde] at g0 g1 ⊢
  have hT0 : 0 ≤ T := by rw [hTe]; exact val_nonneg (by decide) ou
  have hd0 : 0 ≤ d := by rw [hde]; exact Int.ediv_nonneg (Int.ediv_nonneg hT0 (by omega)) (by omega)
  -- T = W^k (d V + r) + t
  have hr := Int.emod_nonneg (T / W ^ k) (show V ≠ 0 by omega)
  have hr' := Int.emod_lt_of_pos (T / W ^ k) hV
  have ht := Int.emod_nonneg T (show W ^ k ≠ 0 by omega)
  have ht' := Int.emod_lt_of_pos T hWk
  have e1 := Int.mul_ediv_add_emod T (W ^ k)
  have e2 := Int.mul_ediv_add_emod (T / W ^ k) V
  rw [← hde] at e2
  obtain ⟨r, hre⟩ : ∃ r, r = T / W ^ k % V := ⟨_, rfl⟩
  rw [← hre] at hr hr' e2
  rw [← e2, Int.mul_add] at e1
  have hrest : T - W ^ k * (d * V) = W ^ k * r + T % W ^ k := by rw [Int.mul_comm d V]; omega
  have hrW : W ^ k * (r + 1) ≤ W ^ k * V := Int.mul_le_mul_of_nonneg_left (by omega) (by omega)
  rw [Int.mul_add, Int.mul_one] at hrW
  have hrn : 0 ≤ W ^ k * r := Int.mul_nonneg (by omega) hr
  have hdW : d < W := by
    rcases Int.lt_or_le d W with h | h
    · exact h
    · exfalso
      have h1 : V * W ≤ V * d := Int.mul_le_mul_of_nonneg_left h (by omega)
      have h2 : W ^ k * (V * W) ≤ W ^ k * (V * d) := Int.mul_le_mul_of_nonneg_left h1 (by omega)
      rw [Int.pow_succ, ← Int.mul_assoc, Int.mul_comm V, Int.mul_assoc] at hT
      omega
  unfold fine at hf hfu
  have hres : T - W ^ k * (d * V) < V * W ^ k := by rw [hrest, Int.mul_comm V]; omega
  have hVW : W ^ k * (d * V) ≤ T := by omega
  -- the steps
  have ez : IntKind.i64.wrap (IntKind.i64.wrap ((k : Int) + (v.length : Int)) + 1) = ((k + v.length + 1 : Nat) : Int) := by
    rw [wi64 (x := (k : Int) + (v.length : Int)) (by omega) (by omega), wi64 (by omega) (by omega)]; omega
  obtain ⟨u1, b, l1, l2, l3, l4, l5⟩ := less_spec (u := u) (v := v) (off := k) (dg := guess) (by unfold fine; omega) ou ov hl (by omega) g2 (len := (((k + v.length + 1 : Nat) : Int).toNat - (k : Int).toNat : Nat)) (by omega)
  rw [← hTe, ← hVe] at l5
  have hlt1 : val W u1 < W ^ (k + v.length + 1) := val_lt_of_zero _ l3 (fun j hj => by rw [l4 j hj]; exact hz j hj)
  have hge1 := val_nonneg (B := W) (by decide) l3
  simp only [contC]
  rw [ez, ct (by omega), ct (by omega), ct (by omega)]
  simp only [Int.toNat_natCast] at l1 ⊢
  rw [l1]
  simp only [Option.bind_some]
  have egd : W ^ k * (guess * V) = W ^ k * (d * V) + (guess - d) * (W ^ k * V) := by
    rw [Int.sub_mul, ← Int.mul_assoc, ← Int.mul_assoc, Int.mul_comm (W ^ k) guess, Int.mul_comm (W ^ k) d, Int.mul_assoc, Int.mul_assoc]; omega
  have hVk : 0 < W ^ k * V := Int.mul_pos hWk hV
  cases b with
  | false =>
    simp only [Bool.false_eq_true, if_false, Int.mul_zero, Int.add_zero] at l5
    have hg : guess = d := by
      rcases (by omega : guess = d ∨ guess = d + 1) with h | h
      · exact h
      · exfalso
        rw [h] at egd l5
        rw [show d + 1 - d = 1 by omega, Int.one_mul] at egd
        rw [Int.mul_comm V] at hres
        omega
    subst hg
    simp only [cond_false]
    rw [ct (by omega), ct (by omega), wu32, Int.emod_eq_of_lt hd0 (by simpa [W] using g2), wi64 (by omega) (by omega)]
    exact ⟨u1, rfl, l2, l3, l5, by rw [l5]; exact hres, hd0, g2⟩
  | true =>
    simp only [if_true, Int.mul_one] at l5
    have hg : guess = d + 1 := by
      rcases (by omega : guess = d ∨ guess = d + 1) with h | h
      · exfalso; subst h; omega
      · exact h
    obtain ⟨u2, c, k1, k2, k3, k4, k5, k6, k7⟩ := back_spec (u := u1) (v := v) (off := k) (by unfold fine; omega) l3 ov (by omega) (len := ((k + v.length + 1 - k : Nat) : Int)) (by omega)
    rw [← hVe] at k7
    have hlt2 : val W u2 < W ^ (k + v.length + 1) := val_lt_of_zero _ k3 (fun j hj => by rw [k4 j hj, l4 j hj]; exact hz j hj)
    rw [hg] at egd l5
    rw [show d + 1 - d = 1 by omega, Int.one_mul] at egd
    have hc : c = 1 := by
      rcases (by omega : c = 0 ∨ c = 1) with h | h
      · exfalso; subst h; omega
      · exact h
    subst hc
    simp only [cond_true]
    rw [ct (by omega), ct (by omega), ct (by omega), k1]
    simp only [Option.bind_some]
    have hu2 : val W u2 = T - W ^ k * (d * V) := by omega
    rw [ct (by omega), ct (by omega), hg, show d + 1 - 1 = d by omega, wu64 hd0 (by simp only [W] at hdW; omega), wu32, Int.emod_eq_of_lt hd0 (by simpa [W] using hdW), wi64 (by omega) (by omega)]
    exact ⟨u2, rfl, by omega, k3, hu2, by rw [hu2]; exact hres, hd0, hdW⟩
end Go.L

/-! LK -/
namespace Go.L
open Go.PM
set_option linter.unusedVariables false
set_option linter.unusedSimpArgs false

/-- A guess that is too great stays no less than the digit. -/
theorem guess_keep {T V V2 H3 Wk E guess : Int} (hT : 0 ≤ T) (hWk : 0 < Wk) (hE : 0 < E) (hV : 0 < V) (hH : H3 = T / (Wk * E)) (hV2 : V2 = V / E) (hg0 : 0 ≤ guess) (h : H3 < guess * V2) : T / Wk / V ≤ guess - 1 := by
  have hp : 0 < Wk * E := Int.mul_pos hWk hE
  have h1 : T < Wk * E * (guess * V2) := by
    have h2 := Int.lt_ediv_add_one_mul_self T hp
    rw [← hH] at h2
    have h3 : (H3 + 1) * (Wk * E) ≤ guess * V2 * (Wk * E) := Int.mul_le_mul_of_nonneg_right (by omega) (by omega)
    rw [Int.mul_comm (Wk * E)]
    omega
  have h4 : E * V2 ≤ V := by rw [hV2]; exact Int.mul_ediv_self_le (by omega)
  have h5 : Wk * E * (guess * V2) ≤ Wk * (guess * V) := by
    have : guess * (E * V2) ≤ guess * V := Int.mul_le_mul_of_nonneg_left h4 hg0
    have := Int.mul_le_mul_of_nonneg_left this (Int.le_of_lt hWk)
    have e : Wk * E * (guess * V2) = Wk * (guess * (E * V2)) := by
      rw [Int.mul_assoc, ← Int.mul_assoc E, Int.mul_comm E guess, Int.mul_assoc guess]
    omega
  have h6 : T / Wk < guess * V := by
    apply Int.ediv_lt_of_lt_mul hWk
    rw [Int.mul_comm]; omega
  have h7 : T / Wk / V < guess := Int.ediv_lt_of_lt_mul hV h6
  omega
/-- A guess that fits is at most one too great. -/
theorem guess_fits {T V V2 H3 Wk E guess : Int} (hWk : 0 < Wk) (hE : 0 < E) (hH : H3 = T / (Wk * E)) (hV2 : V2 = V / E) (hn : 4294967296 ≤ V2) (hg0 : 0 ≤ guess) (hg1 : guess < 4294967296) (h : guess * V2 ≤ H3) : guess ≤ T / Wk / V + 1 := by
  have hp : 0 < Wk * E := Int.mul_pos hWk hE
  have hV : 0 < V := by
    rcases Int.lt_or_le 0 V with h | h
    · exact h
    · have : V / E ≤ 0 := by
        have := Int.ediv_le_ediv hE h
        rwa [Int.zero_ediv] at this
      omega
  have e1 := Int.mul_ediv_add_emod V E
  have e2 := Int.emod_lt_of_pos V hE
  have e3 := Int.emod_nonneg V (show E ≠ 0 by omega)
  rw [← hV2] at e1
  have h1 : guess * V < E * H3 + V := by
    have a1 : guess * V = E * (guess * V2) + guess * (V % E) := by
      rw [← Int.mul_assoc, Int.mul_comm E guess, Int.mul_assoc, ← Int.mul_add, e1]
    have a2 : E * (guess * V2) ≤ E * H3 := Int.mul_le_mul_of_nonneg_left h (by omega)
    have a3 : guess * (V % E) ≤ 4294967295 * E := Int.mul_le_mul (by omega) (by omega) e3 (by decide)
    have a4 : E * 4294967296 ≤ E * V2 := Int.mul_le_mul_of_nonneg_left hn (by omega)
    omega
  have h2 : H3 * (Wk * E) ≤ T := by rw [hH]; exact Int.ediv_mul_le _ (by omega)
  have h3 : (guess - 1) * V * Wk < T + 1 := by
    have a1 : Wk * (guess * V) ≤ Wk * (E * H3 + V) - Wk := by
      have := Int.mul_le_mul_of_nonneg_left (show guess * V ≤ E * H3 + V - 1 by omega) (Int.le_of_lt hWk)
      rw [Int.mul_sub, Int.mul_one] at this
      exact this
    have a2 : (guess - 1) * V * Wk = Wk * (guess * V) - Wk * V := by rw [Int.sub_mul, Int.one_mul, Int.sub_mul, Int.mul_comm Wk, Int.mul_comm Wk]
    have a3 : Wk * (E * H3 + V) = H3 * (Wk * E) + Wk * V := by rw [Int.mul_add, ← Int.mul_assoc, Int.mul_comm H3]
    omega
  have h4 : (guess - 1) * V ≤ T / Wk := (Int.le_ediv_iff_mul_le hWk).2 (by omega)
  have h5 : guess - 1 ≤ T / Wk / V := (Int.le_ediv_iff_mul_le hV).2 h4
  omega
end Go.L

/-! LL -/
namespace Go.L
open Go.PM
set_option linter.unusedVariables false
set_option linter.unusedSimpArgs false

/-- limbs_long: one round of loop 1. -/
def limbs_long_s1 (κ0 : Int → (List Int) → (List Int) → (List Int) → Int → Int → Option ((List Int) × (List Int) × Unit)) (κ1 : Int → (List Int) → (List Int) → (List Int) → Int → Int → Int → Int → Option ((List Int) × (List Int) × Unit)) (shift : Int) (v : List Int) (u : List Int) (q : List Int) (n2 : Int) (k : Int) (guess : Int) (rest : Int) : Option ((List Int) × (List Int) × Unit) :=
  cond (!(decide ((guess.fdiv (2 ^ 32)) = 0)))
   (
   let z28 := IntKind.u64.wrap (guess - 1)
   let z29 := IntKind.i64.wrap (n2 - 1)
   cond (decide (0 ≤ z29))
   (
   cond (decide (z29 < (v.length : Int)))
   (
   let z32 := IntKind.u64.wrap (rest + (IntKind.u64.wrap (v.getD z29.toNat 0)))
   cond (!(decide ((z32.fdiv (2 ^ 32)) = 0)))
   (
   let z35 := IntKind.i64.wrap ((IntKind.i64.wrap (k + n2)) + 1)
   cond (decide (0 ≤ k))
   (
   cond (decide (k ≤ z35))
   (
   cond (decide (z35 ≤ (u.length : Int)))
   (
   (S.limbs_less (u, ((k.toNat : Nat) : Int), ((z35.toNat - k.toNat : Nat) : Int), v, z28, ())).bind fun z36 =>
   cond (z36.2.1)
   (
   let z39 := IntKind.i64.wrap ((IntKind.i64.wrap (k + n2)) + 1)
   cond (decide (0 ≤ k))
   (
   cond (decide (k ≤ z39))
   (
   cond (decide (z39 ≤ (z36.1.length : Int)))
   (
   (S.limbs_back (z36.1, ((k.toNat : Nat) : Int), ((z39.toNat - k.toNat : Nat) : Int), v, ())).bind fun z40 =>
   cond (decide (0 ≤ k))
   (
   cond (decide (k < (q.length : Int)))
   (
   κ0 shift v z40.1 (q.set k.toNat (IntKind.u32.wrap (IntKind.u64.wrap (z28 - 1)))) n2 (IntKind.i64.wrap (k - 1))) none) none) none) none) none)
   (
   cond (decide (0 ≤ k))
   (
   cond (decide (k < (q.length : Int))) (κ0 shift v z36.1 (q.set k.toNat (IntKind.u32.wrap z28)) n2 (IntKind.i64.wrap (k - 1))) none) none)) none) none) none) (κ1 shift v u q n2 k z28 z32)) none) none)
   (
   let z47 := IntKind.i64.wrap (n2 - 2)
   cond (decide (0 ≤ z47))
   (
   cond (decide (z47 < (v.length : Int)))
   (
   let z53 := IntKind.i64.wrap ((IntKind.i64.wrap (k + n2)) - 2)
   cond (decide (0 ≤ z53))
   (
   cond (decide (z53 < (u.length : Int)))
   (
   cond (decide ((ibits .or .u64 (IntKind.u64.wrap (rest * 2 ^ 32)) (IntKind.u64.wrap (u.getD z53.toNat 0))) < (IntKind.u64.wrap (guess * (IntKind.u64.wrap (v.getD z47.toNat 0))))))
   (
   let z57 := IntKind.u64.wrap (guess - 1)
   let z58 := IntKind.i64.wrap (n2 - 1)
   cond (decide (0 ≤ z58))
   (
   cond (decide (z58 < (v.length : Int)))
   (
   let z61 := IntKind.u64.wrap (rest + (IntKind.u64.wrap (v.getD z58.toNat 0)))
   cond (!(decide ((z61.fdiv (2 ^ 32)) = 0)))
   (
   let z64 := IntKind.i64.wrap ((IntKind.i64.wrap (k + n2)) + 1)
   cond (decide (0 ≤ k))
   (
   cond (decide (k ≤ z64))
   (
   cond (decide (z64 ≤ (u.length : Int)))
   (
   (S.limbs_less (u, ((k.toNat : Nat) : Int), ((z64.toNat - k.toNat : Nat) : Int), v, z57, ())).bind fun z65 =>
   cond (z65.2.1)
   (
   let z68 := IntKind.i64.wrap ((IntKind.i64.wrap (k + n2)) + 1)
   cond (decide (0 ≤ k))
   (
   cond (decide (k ≤ z68))
   (
   cond (decide (z68 ≤ (z65.1.length : Int)))
   (
   (S.limbs_back (z65.1, ((k.toNat : Nat) : Int), ((z68.toNat - k.toNat : Nat) : Int), v, ())).bind fun z69 =>
   cond (decide (0 ≤ k))
   (
   cond (decide (k < (q.length : Int)))
   (
   κ0 shift v z69.1 (q.set k.toNat (IntKind.u32.wrap (IntKind.u64.wrap (z57 - 1)))) n2 (IntKind.i64.wrap (k - 1))) none) none) none) none) none)
   (
   cond (decide (0 ≤ k))
   (
   cond (decide (k < (q.length : Int))) (κ0 shift v z65.1 (q.set k.toNat (IntKind.u32.wrap z57)) n2 (IntKind.i64.wrap (k - 1))) none) none)) none) none) none) (κ1 shift v u q n2 k z57 z61)) none) none)
   (
   let z77 := IntKind.i64.wrap ((IntKind.i64.wrap (k + n2)) + 1)
   cond (decide (0 ≤ k))
   (
   cond (decide (k ≤ z77))
   (
   cond (decide (z77 ≤ (u.length : Int)))
   (
   (S.limbs_less (u, ((k.toNat : Nat) : Int), ((z77.toNat - k.toNat : Nat) : Int), v, guess, ())).bind fun z78 =>
   cond (z78.2.1)
   (
   let z81 := IntKind.i64.wrap ((IntKind.i64.wrap (k + n2)) + 1)
   cond (decide (0 ≤ k))
   (
   cond (decide (k ≤ z81))
   (
   cond (decide (z81 ≤ (z78.1.length : Int)))
   (
   (S.limbs_back (z78.1, ((k.toNat : Nat) : Int), ((z81.toNat - k.toNat : Nat) : Int), v, ())).bind fun z82 =>
   cond (decide (0 ≤ k))
   (
   cond (decide (k < (q.length : Int)))
   (
   κ0 shift v z82.1 (q.set k.toNat (IntKind.u32.wrap (IntKind.u64.wrap (guess - 1)))) n2 (IntKind.i64.wrap (k - 1))) none) none) none) none) none)
   (
   cond (decide (0 ≤ k))
   (
   cond (decide (k < (q.length : Int))) (κ0 shift v z78.1 (q.set k.toNat (IntKind.u32.wrap guess)) n2 (IntKind.i64.wrap (k - 1))) none) none)) none) none) none)) none) none) none) none)

def limbs_long_l1 (K : Nat) (κ0 : Int → (List Int) → (List Int) → (List Int) → Int → Int → Option ((List Int) × (List Int) × Unit)) : Nat → Int → (List Int) → (List Int) → (List Int) → Int → Int → Int → Int → Option ((List Int) × (List Int) × Unit)
  | 0, _, _, _, _, _, _, _, _ => none
  | n + 1, shift, v, u, q, n2, k, guess, rest => limbs_long_s1 κ0 (limbs_long_l1 K κ0 n) shift v u q n2 k guess rest

/-- limbs_long: one round of loop 0. -/
def limbs_long_s0 (I1 : Int → (List Int) → (List Int) → (List Int) → Int → Int → Int → Int → Option ((List Int) × (List Int) × Unit)) (κ0 : Int → (List Int) → (List Int) → (List Int) → Int → Int → Option ((List Int) × (List Int) × Unit)) (shift : Int) (v : List Int) (u : List Int) (q : List Int) (n2 : Int) (k : Int) : Option ((List Int) × (List Int) × Unit) :=
  cond (decide (0 ≤ k))
   (
   let z10 := IntKind.i64.wrap (k + n2)
   cond (decide (0 ≤ z10))
   (
   cond (decide (z10 < (u.length : Int)))
   (
   let z15 := IntKind.i64.wrap ((IntKind.i64.wrap (k + n2)) - 1)
   cond (decide (0 ≤ z15))
   (
   cond (decide (z15 < (u.length : Int)))
   (
   let z18 := ibits .or .u64 (IntKind.u64.wrap ((IntKind.u64.wrap (u.getD z10.toNat 0)) * 2 ^ 32)) (IntKind.u64.wrap (u.getD z15.toNat 0))
   let z19 := IntKind.i64.wrap (n2 - 1)
   cond (decide (0 ≤ z19))
   (
   cond (decide (z19 < (v.length : Int)))
   (
   let z21 := IntKind.u64.wrap (v.getD z19.toNat 0)
   cond (decide (z21 = 0)) none
   (
   let z23 := IntKind.i64.wrap (n2 - 1)
   cond (decide (0 ≤ z23))
   (
   cond (decide (z23 < (v.length : Int)))
   (
   let z25 := IntKind.u64.wrap (v.getD z23.toNat 0)
   cond (decide (z25 = 0)) none (I1 shift v u q n2 k (IntKind.u64.wrap (z18.tdiv z21)) (z18.tmod z25))) none) none)) none) none) none) none) none) none)
   (
   (S.limbs_trim (u, ())).bind fun z89 =>
   (S.limbs_Right (z89.1, shift, ())).bind fun z90 =>
   (S.limbs_trim (q, ())).bind fun z91 =>
   some (z91.1, z90.1, ()))

def limbs_long_l0 (K : Nat) : Nat → Int → (List Int) → (List Int) → (List Int) → Int → Int → Option ((List Int) × (List Int) × Unit)
  | 0, _, _, _, _, _, _ => none
  | n + 1, shift, v, u, q, n2, k => limbs_long_s0 (limbs_long_l1 K (limbs_long_l0 K n) K) (limbs_long_l0 K n) shift v u q n2 k

/-- limbs.long -/
def limbs_long_b (I0 : Int → (List Int) → (List Int) → (List Int) → Int → Int → Option ((List Int) × (List Int) × Unit)) (a : List Int) (b : List Int) : Option ((List Int) × (List Int) × Unit) :=
  let z1 := IntKind.i64.wrap ((b.length : Int) - 1)
  cond (decide (0 ≤ z1))
   (
   cond (decide (z1 < (b.length : Int)))
   (
   (S.bits_LeadingZeros32 ((b.getD z1.toNat 0), ())).bind fun z3 =>
   (S.limbs_moved (b, z3.1, ())).bind fun z4 =>
   cond (decide (0 ≤ (b.length : Int)))
   (
   cond (decide ((b.length : Int) ≤ (z4.1.length : Int)))
   (
   (S.limbs_moved (a, z3.1, ())).bind fun z5 =>
   let z7 := IntKind.i64.wrap ((IntKind.i64.wrap ((a.length : Int) - (b.length : Int))) + 1)
   cond (decide (0 ≤ z7))
   (
   cond (decide (z7 * 4 ≤ 140737488351232))
   (
   let z8 := (List.replicate z7.toNat 0 : List Int)
   I0 z3.1 (z4.1.take b.length) z5.1 z8 ((b.length : Nat) : Int) (IntKind.i64.wrap ((z8.length : Int) - 1))) none) none) none) none) none) none

def limbs_long (K : Nat) (a : List Int) (b : List Int) : Option ((List Int) × (List Int) × Unit) := limbs_long_b (limbs_long_l0 K K) a b


theorem or_pair {x y : Int} (hx : 0 ≤ x) (hx' : x < 4294967296) (hy : 0 ≤ y) (hy' : y < 4294967296) : ibits .or .u64 (IntKind.u64.wrap (x * 2 ^ 32)) (IntKind.u64.wrap y) = x * 4294967296 + y := by
  obtain ⟨X, rfl⟩ : ∃ X : Nat, x = X := ⟨x.toNat, by omega⟩
  obtain ⟨Y, rfl⟩ : ∃ Y : Nat, y = Y := ⟨y.toNat, by omega⟩
  rw [wu64 (x := (X : Int) * 2 ^ 32) (by omega) (by omega), wu64 (x := (Y : Int)) (by omega) (by omega)]
  have e : (X : Int) * 2 ^ 32 = ((2 ^ 32 * X : Nat) : Int) := by rw [pow32]; omega
  rw [e, or_u64' (by omega) (by omega)]
  omega

theorem guess_loop (K : Nat) (κ0 : Int → (List Int) → (List Int) → (List Int) → Int → Int → Option ((List Int) × (List Int) × Unit)) (shift : Int) {v u q : List Int} {k m : Nat} {vt vs us H H3 V2 : Int} (hm : v.length = m + 2) (hf : fine v) (hfu : fine u) (ou : ok W u) (ov : ok W v) (hk : k + v.length + 1 ≤ u.length)
    (hvt : vt = v.getD (m + 1) 0) (hvs : vs = v.getD m 0) (hus : us = u.getD (k + m) 0) (ht : 2147483648 ≤ vt) (hV2 : V2 = vt * 4294967296 + vs) (hH3 : H3 = H * 4294967296 + us) (eV2 : V2 = val W v / W ^ m) (eH3 : H3 = val W u / (W ^ k * W ^ m)) (hHlt : H < (vt + 1) * 4294967296) (hV : 0 < val W v)
    (hd : val W u / W ^ k / val W v < 4294967296) (hd0 : 0 ≤ val W u / W ^ k / val W v) :
    ∀ (r n : Nat) (guess rest : Int), r ≤ n → 4294967296 ≤ rest + r * 2147483648 → val W u / W ^ k / val W v ≤ guess → guess ≤ 4294967297 → 0 ≤ rest → rest < 4294967296 → guess * vt + rest = H →
      ∃ g, val W u / W ^ k / val W v ≤ g ∧ g ≤ val W u / W ^ k / val W v + 1 ∧ g < 4294967296 ∧ limbs_long_l1 K κ0 n shift v u q (v.length : Int) (k : Int) guess rest = contC κ0 shift v u q (v.length : Int) (k : Int) g := by
  have hgv := getD_ok (B := W) (by decide) ov (m + 1)
  have hgs := getD_ok (B := W) (by decide) ov m
  have hgu := getD_ok (B := W) (by decide) ou (k + m)
  rw [← hvt] at hgv
  rw [← hvs] at hgs
  rw [← hus] at hgu
  simp only [W] at hgv hgs hgu
  unfold fine at hf hfu
  have hT0 := val_nonneg (B := W) (by decide) ou
  have eW : W ^ k * W ^ m = W ^ k * W ^ m := rfl
  intro r
  induction r with
  | zero => intro n guess rest hn h1 _ _ h2 h3 _; exfalso; omega
  | succ r ih =>
    intro n guess rest hn h1 hg hg' hr0 hr1 hH
    obtain ⟨n, rfl⟩ : ∃ n', n = n' + 1 := ⟨n - 1, by omega⟩
    have w1 : IntKind.i64.wrap ((v.length : Int) - 1) = ((m + 1 : Nat) : Int) := by rw [wi64 (by omega) (by omega)]; omega
    have w2 : IntKind.i64.wrap ((v.length : Int) - 2) = (m : Int) := by rw [wi64 (by omega) (by omega)]; omega
    have w3 : IntKind.i64.wrap (IntKind.i64.wrap ((k : Int) + (v.length : Int)) - 2) = ((k + m : Nat) : Int) := by rw [wi64 (x := (k : Int) + (v.length : Int)) (by omega) (by omega), wi64 (by omega) (by omega)]; omega
    have hge : 0 ≤ guess := by omega
    -- what happens when the guess is made less by one
    have dec1 : val W u / W ^ k / val W v ≤ guess - 1 → ∃ g, val W u / W ^ k / val W v ≤ g ∧ g ≤ val W u / W ^ k / val W v + 1 ∧ g < 4294967296 ∧
        cond (!(decide ((rest + vt).fdiv (2 ^ 32) = 0))) (contC κ0 shift v u q (v.length : Int) (k : Int) (guess - 1)) (limbs_long_l1 K κ0 n shift v u q (v.length : Int) (k : Int) (guess - 1) (rest + vt)) = contC κ0 shift v u q (v.length : Int) (k : Int) g := by
      intro hlow
      have hmul : (guess - 1) * vt + (rest + vt) = H := by rw [Int.sub_mul, Int.one_mul]; omega
      rw [pow32, Int.fdiv_eq_ediv_of_nonneg _ (by decide)]
      by_cases hbr : rest + vt < 4294967296
      · have e0 : (rest + vt) / 4294967296 = 0 := by omega
        rw [decide_eq_true e0]
        simp only [Bool.not_true, cond_false]
        exact ih n (guess - 1) (rest + vt) (by omega) (by omega) hlow (by omega) (by omega) hbr hmul
      · have e0 : ¬ (rest + vt) / 4294967296 = 0 := by omega
        rw [decide_eq_false e0]
        simp only [Bool.not_false, cond_true]
        have a1 : (guess - 1) * vt ≤ H - 4294967296 := by omega
        have a2 : guess - 1 < 4294967296 := by
          rcases Int.lt_or_le (guess - 1) 4294967296 with h | h
          · exact h
          · exfalso
            have : 4294967296 * vt ≤ (guess - 1) * vt := Int.mul_le_mul_of_nonneg_right h (by omega)
            omega
        refine ⟨guess - 1, hlow, ?_, a2, rfl⟩
        have a3 : (guess - 1) * vs ≤ 4294967295 * 4294967295 := Int.mul_le_mul (by omega) (by omega) hgs.1 (by decide)
        have a4 : (guess - 1) * V2 ≤ H3 := by
          rw [hV2, Int.mul_add, ← Int.mul_assoc, hH3]
          omega
        exact guess_fits (Wpos k) (Wpos m) eH3 eV2 (by rw [hV2]; omega) (by omega) a2 a4
    simp only [limbs_long_l1, limbs_long_s1]
    rw [w1, w2, w3, pow32, Int.fdiv_eq_ediv_of_nonneg guess (by decide)]
    by_cases hbig : guess < 4294967296
    · have e0 : guess / 4294967296 = 0 := by omega
      rw [decide_eq_true e0]
      simp only [Bool.not_true, cond_false]
      rw [ct (by omega), ct (by omega), ct (by omega), ct (by omega)]
      rw [Int.toNat_natCast m, Int.toNat_natCast (k + m), ← hvs, ← hus]
      rw [← pow32, or_pair hr0 hr1 hgu.1 hgu.2, wu64 (x := vs) (by omega) (by omega)]
      have hprod := mul_in hge hbig hgs.1 hgs.2
      rw [wu64 (x := guess * vs) hprod.1 (by omega)]
      have hlink : rest * 4294967296 + us < guess * vs ↔ H3 < guess * V2 := by
        rw [hV2, hH3, Int.mul_add, ← Int.mul_assoc]
        omega
      by_cases htest : rest * 4294967296 + us < guess * vs
      · rw [ct htest]
        have hlow := guess_keep hT0 (Wpos k) (Wpos m) hV eH3 eV2 hge (hlink.1 htest)
        have hg1 : 0 ≤ guess - 1 := by omega
        rw [ct (by omega), ct (by omega), wu64 (x := guess - 1) hg1 (by omega), Int.toNat_natCast (m + 1), ← hvt, wu64 (x := vt) (by omega) (by omega), wu64 (x := rest + vt) (by omega) (by omega)]
        exact dec1 hlow
      · rw [cf htest]
        refine ⟨guess, hg, guess_fits (Wpos k) (Wpos m) eH3 eV2 (by rw [hV2]; omega) hge hbig (by omega), hbig, rfl⟩
    · have e0 : ¬ guess / 4294967296 = 0 := by omega
      rw [decide_eq_false e0]
      simp only [Bool.not_false, cond_true]
      have hlow : val W u / W ^ k / val W v ≤ guess - 1 := by omega
      rw [ct (by omega), ct (by omega), wu64 (x := guess - 1) (by omega) (by omega), Int.toNat_natCast (m + 1), ← hvt, wu64 (x := vt) (by omega) (by omega), wu64 (x := rest + vt) (by omega) (by omega), ← pow32]
      exact dec1 hlow
end Go.L

/-! LM -/
namespace Go.L
open Go.PM
set_option linter.unusedVariables false
set_option linter.unusedSimpArgs false

theorem div_pow_succ (T : Int) (j : Nat) : T / W ^ (j + 1) = T / W ^ j / W := by
  have e := Int.ediv_ediv (x := T) (y := W ^ j) (z := W)
  rw [if_neg (fun h => absurd h.1 (by have := Wpos j; omega)), Int.sub_zero] at e
  rw [Int.pow_succ, e]
theorem two_digits {a : List Int} (h : ok W a) (j : Nat) : val W a / W ^ j = val W a / W ^ (j + 1) * 4294967296 + a.getD j 0 := by
  rw [getD_eq j h, div_pow_succ]
  simp only [W]; omega
theorem top_digit {a : List Int} (h : ok W a) (j : Nat) (hv : val W a < W ^ (j + 1)) : a.getD j 0 = val W a / W ^ j := by
  rw [getD_eq j h]
  refine Int.emod_eq_of_lt (Int.ediv_nonneg (val_nonneg (by decide) h) (Int.le_of_lt (Wpos j))) ?_
  apply Int.ediv_lt_of_lt_mul (Wpos j)
  rw [Int.mul_comm, ← Int.pow_succ]; exact hv

theorem long_loop (K : Nat) (hK : 2 ≤ K) {s m : Nat} (hs : s < 32) {v : List Int} (hm : v.length = m + 2) (hf : fine v) (ov : ok W v) (ht : 2147483648 ≤ v.getD (m + 1) 0) (T0 : Int) (L qn : Nat) (hL : L ≤ 1099511627776) (hqn : qn ≤ 1099511627776) (hlen : (dig 4294967296 (T0 % val W v / 2 ^ s).toNat).length ≤ 512) :
    ∀ (c n : Nat) (u q : List Int), c < n → u.length = L → q.length = qn → c ≤ qn → c + v.length ≤ L → ok W u → ok W q → (∀ j, j < c → q.getD j 0 = 0) → val W u + val W v * val W q = T0 → val W u < val W v * W ^ c →
      limbs_long_l0 K n (s : Int) v u q (v.length : Int) ((c : Int) - 1) = some (dig 4294967296 (T0 / val W v).toNat, dig 4294967296 (T0 % val W v / 2 ^ s).toNat, ()) := by
  have hf0 := hf
  unfold fine at hf
  have hgv := getD_ok (B := W) (by decide) ov (m + 1)
  have hgs := getD_ok (B := W) (by decide) ov m
  simp only [W] at hgv hgs
  have hVlt : val W v < W ^ (m + 2) := by rw [← hm]; exact val_lt (by decide) ov
  have hvt := top_digit ov (m + 1) hVlt
  have hV2 : val W v / W ^ m = v.getD (m + 1) 0 * 4294967296 + v.getD m 0 := by rw [two_digits ov m, hvt]
  have hV : 0 < val W v := by
    rcases Int.lt_or_le 0 (val W v) with h | h
    · exact h
    · have := Int.ediv_le_ediv (Wpos (m + 1)) h
      rw [Int.zero_ediv] at this
      omega
  intro c
  induction c with
  | zero =>
    intro n u q hn hl hlq hc hcl ou oq hz hsum hlt
    obtain ⟨n, rfl⟩ : ∃ n', n = n' + 1 := ⟨n - 1, by omega⟩
    have hT0 := val_nonneg (B := W) (by decide) ou
    have hQ0 := val_nonneg (B := W) (by decide) oq
    rw [Int.pow_zero, Int.mul_one] at hlt
    have eq : T0 / val W v = val W q := by
      rw [← hsum, Int.add_mul_ediv_left _ _ (by omega), Int.ediv_eq_zero_of_lt hT0 hlt, Int.zero_add]
    have er : T0 % val W v = val W u := by
      rw [← hsum, Int.add_mul_emod_self_left, Int.emod_eq_of_lt hT0 hlt]
    simp only [limbs_long_l0, limbs_long_s0]
    rw [cf (by omega)]
    simp only [S.limbs_trim]
    rw [if_pos (show fine u by unfold fine; omega), if_pos (show fine q by unfold fine; omega)]
    simp only [Option.bind_some, S.limbs_Right]
    have hl' := trimL_length (a := u)
    rw [if_pos ⟨show fine (trimL u) by unfold fine; omega, trimL_ok ou, by omega⟩, if_neg (by omega)]
    simp only [Option.bind_some]
    have tu := trimL_eq_dig (B := 4294967296) (by decide) ou
    have tq := trimL_eq_dig (B := 4294967296) (by decide) oq
    rw [eq, er]
    have e1 : trimL q = dig 4294967296 (val W q).toNat := tq
    rw [e1]
    congr 2
    by_cases hem : ((trimL u).length : Int) ≤ (s : Int) / 32
    · rw [if_pos hem]
      have h0 : trimL u = [] := List.eq_nil_of_length_eq_zero (by omega)
      have hv0 : val W u = 0 := by rw [← trimL_val, h0]; rfl
      rw [hv0]; simp; rfl
    · rw [if_neg hem, Int.toNat_natCast, trimL_val]
      unfold res
      rw [er] at hlen
      rw [if_pos hlen]
  | succ c ih =>
    intro n u q hn hl hlq hc hcl ou oq hz hsum hlt
    obtain ⟨n, rfl⟩ : ∃ n', n = n' + 1 := ⟨n - 1, by omega⟩
    have hT0 := val_nonneg (B := W) (by decide) ou
    have hu1 := getD_ok (B := W) (by decide) ou (c + m + 2)
    have hu2 := getD_ok (B := W) (by decide) ou (c + m + 1)
    simp only [W] at hu1 hu2
    have hTW : val W u < W ^ (c + m + 3) := by
      have h1 : val W v * W ^ (c + 1) ≤ W ^ (m + 2) * W ^ (c + 1) := Int.mul_le_mul_of_nonneg_right (by omega) (Int.le_of_lt (Wpos _))
      rw [← Int.pow_add, show m + 2 + (c + 1) = c + m + 3 by omega] at h1
      omega
    have hzero : ∀ j, c + v.length + 1 ≤ j → u.getD j 0 = 0 := fun j hj => zero_of_lt ou hTW (by omega)
    -- the two highest digits, and the third
    obtain ⟨H, hH⟩ : ∃ H, H = u.getD (c + m + 2) 0 * 4294967296 + u.getD (c + m + 1) 0 := ⟨_, rfl⟩
    have eH : H = val W u / W ^ (c + m + 1) := by
      rw [hH, two_digits ou (c + m + 1), top_digit ou (c + m + 2) hTW]
    have eH3 : H * 4294967296 + u.getD (c + m) 0 = val W u / (W ^ c * W ^ m) := by
      rw [← Int.pow_add, two_digits ou (c + m), eH]
    have hHlt : H < (v.getD (m + 1) 0 + 1) * 4294967296 := by
      rw [eH]
      apply Int.ediv_lt_of_lt_mul (Wpos _)
      have h1 : val W v < (v.getD (m + 1) 0 + 1) * W ^ (m + 1) := by rw [hvt]; exact Int.lt_ediv_add_one_mul_self _ (Wpos _)
      have h2 : val W v * W ^ (c + 1) ≤ (v.getD (m + 1) 0 + 1) * W ^ (m + 1) * W ^ (c + 1) := Int.mul_le_mul_of_nonneg_right (by omega) (Int.le_of_lt (Wpos _))
      have h3 : (v.getD (m + 1) 0 + 1) * W ^ (m + 1) * W ^ (c + 1) = (v.getD (m + 1) 0 + 1) * 4294967296 * W ^ (c + m + 1) := by
        rw [Int.mul_assoc, Int.mul_assoc, ← Int.pow_add, show m + 1 + (c + 1) = c + m + 1 + 1 by omega, Int.pow_succ, Int.mul_comm (W ^ (c + m + 1))]
      omega
    obtain ⟨d, hd⟩ : ∃ d, d = val W u / W ^ c / val W v := ⟨_, rfl⟩
    have hd0 : 0 ≤ d := by rw [hd]; exact Int.ediv_nonneg (Int.ediv_nonneg hT0 (Int.le_of_lt (Wpos c))) (by omega)
    have hdW : d < 4294967296 := by
      rw [hd]
      apply Int.ediv_lt_of_lt_mul hV
      apply Int.ediv_lt_of_lt_mul (Wpos c)
      rw [Int.pow_succ] at hlt
      have : val W v * (W ^ c * W) = 4294967296 * val W v * W ^ c := by simp only [W]; rw [Int.mul_comm 4294967296, Int.mul_assoc, Int.mul_comm 4294967296]
      omega
    have hdH : d ≤ H / v.getD (m + 1) 0 := by
      apply (Int.le_ediv_iff_mul_le (by omega)).2
      rw [eH]
      apply (Int.le_ediv_iff_mul_le (Wpos _)).2
      have h1 : d * val W v ≤ val W u / W ^ c := by rw [hd]; exact Int.ediv_mul_le _ (by omega)
      have h2 : val W u / W ^ c * W ^ c ≤ val W u := Int.ediv_mul_le _ (by have := Wpos c; omega)
      have h3 : v.getD (m + 1) 0 * W ^ (m + 1) ≤ val W v := by rw [hvt]; exact Int.ediv_mul_le _ (by have := Wpos (m + 1); omega)
      have h4 : d * (v.getD (m + 1) 0 * W ^ (m + 1)) ≤ d * val W v := Int.mul_le_mul_of_nonneg_left h3 hd0
      have h5 : d * (v.getD (m + 1) 0 * W ^ (m + 1)) * W ^ c ≤ val W u / W ^ c * W ^ c := Int.mul_le_mul_of_nonneg_right (by omega) (Int.le_of_lt (Wpos c))
      have h6 : d * v.getD (m + 1) 0 * W ^ (c + m + 1) = d * (v.getD (m + 1) 0 * W ^ (m + 1)) * W ^ c := by
        rw [show c + m + 1 = m + 1 + c by omega, Int.pow_add, Int.mul_assoc, Int.mul_assoc, Int.mul_assoc]
      omega
    have hgW : H / v.getD (m + 1) 0 ≤ 4294967297 := by
      have : H / v.getD (m + 1) 0 < 4294967298 := by
        apply Int.ediv_lt_of_lt_mul (by omega)
        omega
      omega
    have hH0 : 0 ≤ H := by omega
    have hrem := Int.emod_nonneg H (show v.getD (m + 1) 0 ≠ 0 by omega)
    have hrem' := Int.emod_lt_of_pos H (show 0 < v.getD (m + 1) 0 by omega)
    have hdm := Int.mul_ediv_add_emod H (v.getD (m + 1) 0)
    simp only [limbs_long_l0, limbs_long_s0]
    have w0 : (((c + 1 : Nat) : Int) - 1) = (c : Int) := by omega
    have w1 : IntKind.i64.wrap ((c : Int) + (v.length : Int)) = ((c + m + 2 : Nat) : Int) := by rw [wi64 (by omega) (by omega)]; omega
    have w2 : IntKind.i64.wrap (((c + m + 2 : Nat) : Int) - 1) = ((c + m + 1 : Nat) : Int) := by rw [wi64 (by omega) (by omega)]; omega
    have w3 : IntKind.i64.wrap ((v.length : Int) - 1) = ((m + 1 : Nat) : Int) := by rw [wi64 (by omega) (by omega)]; omega
    rw [w0, w1, w2, w3]
    rw [Int.toNat_natCast (c + m + 2), Int.toNat_natCast (c + m + 1), Int.toNat_natCast (m + 1)]
    rw [ct (by omega), ct (by omega), ct (by omega), ct (by omega), ct (by omega), ct (by omega), ct (by omega)]
    rw [wu64 (x := u.getD (c + m + 2) 0) hu1.1 (by omega), or_pair hu1.1 hu1.2 hu2.1 hu2.2, ← hH, wu64 (x := v.getD (m + 1) 0) (by omega) (by omega)]
    rw [cf (by omega), ct (by omega), ct (by omega), cf (by omega), Int.tdiv_eq_ediv_of_nonneg hH0, Int.tmod_eq_emod_of_nonneg hH0]
    rw [wu64 (x := H / v.getD (m + 1) 0) (by omega) (by omega)]
    obtain ⟨g, g1, g2, g3, g4⟩ := guess_loop K (limbs_long_l0 K n) (s : Int) (q := q) (k := c) hm hf0 (by unfold fine; omega) ou ov (by omega) rfl rfl rfl ht rfl rfl hV2.symm eH3 hHlt hV (by rw [← hd]; exact hdW) (by rw [← hd]; exact hd0) 2 K (H / v.getD (m + 1) 0) (H % v.getD (m + 1) 0) hK (by omega) (by rw [← hd]; exact hdH) hgW hrem (by omega) (by rw [Int.mul_comm]; exact hdm)
    rw [g4]
    obtain ⟨u', k1, k2, k3, k4, k5, _, _⟩ := cont_ok (limbs_long_l0 K n) (s : Int) (q := q) (k := c) (guess := g) hf0 (by unfold fine; omega) ou ov (by omega) (by omega) hzero hV hlt g1 g2 (by simpa [W] using g3)
    rw [k1]
    rw [← hd] at k4 ⊢
    refine ih n u' (q.set c d) (by omega) (by omega) (by simpa using hlq) (by omega) (by omega) k3 (ok_set oq hd0 (by simpa [W] using hdW)) (fun j hj => by rw [getD_set_ne (by omega)]; exact hz j (by omega)) ?_ k5
    rw [k4, val_set _ _ _ (by omega), hz c (by omega), Int.sub_zero, Int.mul_add]
    have : W ^ c * (d * val W v) = val W v * (W ^ c * d) := by rw [← Int.mul_assoc, Int.mul_comm]
    omega
end Go.L

/-! LN -/
namespace Go.L
open Go.PM
set_option linter.unusedVariables false
set_option linter.unusedSimpArgs false

theorem dig_length {x n : Nat} (h : (x : Int) < W ^ n) : (dig 4294967296 x).length ≤ n := by
  rcases Nat.lt_or_ge n (dig 4294967296 x).length with h1 | h1
  · exfalso
    have h2 := can_low (can_dig x) (by intro e; rw [e] at h1; simp at h1)
    rw [val_dig] at h2
    obtain ⟨e, he⟩ : ∃ e, (dig 4294967296 x).length - 1 = n + e := ⟨(dig 4294967296 x).length - 1 - n, by omega⟩
    rw [he, Int.pow_add] at h2
    have h4 := Wpos n
    have h5 := Wpos e
    have := Int.mul_le_mul_of_nonneg_left (show 1 ≤ W ^ e by omega) (Int.le_of_lt h4)
    omega
  · exact h1
theorem blen_bounds {x : Int} (h : 0 < x) : ∃ k : Nat, blen x = (k : Int) + 1 ∧ 2 ^ k ≤ x ∧ x < 2 ^ (k + 1) := by
  obtain ⟨n, rfl⟩ : ∃ n : Nat, x = n := ⟨x.toNat, by omega⟩
  have h1 := (Nat.log2_eq_iff (n := n) (by omega) (k := n.log2)).1 rfl
  refine ⟨n.log2, ?_, ?_, ?_⟩
  · unfold blen; rw [if_neg (by omega), Int.toNat_natCast]
  · have : ((2 ^ n.log2 : Nat) : Int) = (2 : Int) ^ n.log2 := by simp
    omega
  · have : ((2 ^ (n.log2 + 1) : Nat) : Int) = (2 : Int) ^ (n.log2 + 1) := by simp
    omega

def S.limbs_long (x : List Int × List Int × Unit) : Option (List Int × List Int × Unit) :=
  if x.1.length ≤ 1099511627000 ∧ can x.1 ∧ can x.2.1 ∧ 2 ≤ x.2.1.length ∧ x.2.1.length ≤ x.1.length ∧ x.2.1.length ≤ 512 then
   some (dig 4294967296 (val W x.1 / val W x.2.1).toNat, dig 4294967296 (val W x.1 % val W x.2.1).toNat, ()) else none
theorem limbs_long_ok (x : List Int × List Int × Unit) (y : List Int × List Int × Unit) (h : S.limbs_long x = some y) : ∃ K, limbs_long K x.1 x.2.1 = some y := by
  unfold S.limbs_long at h
  split at h <;> cases h
  rename_i hh
  obtain ⟨a, b, _⟩ := x
  obtain ⟨ha, ca, cb, h2, hab, h5⟩ := hh
  simp only at ha ca cb h2 hab h5 ⊢
  refine ⟨a.length + 3, ?_⟩
  have hb0 : b ≠ [] := by intro e; subst e; simp at h2
  have fa : fine a := by unfold fine; omega
  have fb : fine b := by unfold fine; omega
  have gtop := getD_ok (B := W) (by decide) cb.1 (b.length - 1)
  simp only [W] at gtop
  have hbpos := trimL_pos (B := W) (by decide) cb.1 cb.2 hb0
  have hbl := can_blen cb hb0
  have htop0 : 0 < b.getD (b.length - 1) 0 := by
    rcases (by omega : b.getD (b.length - 1) 0 = 0 ∨ 0 < b.getD (b.length - 1) 0) with h | h
    · exfalso
      have h1 := zero_of_lt (a := b) (m := b.length) (j := b.length) cb.1 (val_lt (by decide) cb.1) (Nat.le_refl _)
      have h3 : val W b < W ^ (b.length - 1) := val_lt_of_zero _ cb.1 (fun j hj => by
        rcases (by omega : j = b.length - 1 ∨ b.length ≤ j) with e | e
        · rw [e]; exact h
        · exact zero_of_lt cb.1 (val_lt (by decide) cb.1) e)
      have := can_low cb hb0
      omega
    · exact h
  obtain ⟨kt, t1, t2, t3⟩ := blen_bounds htop0
  have hkt : kt < 32 := by
    have := blen_le (k := 32) gtop.1 (by simpa using gtop.2)
    omega
  obtain ⟨s, hs⟩ : ∃ s : Nat, s = 31 - kt := ⟨_, rfl⟩
  have hs' : s < 32 := by omega
  obtain ⟨v5, v1, v2, v3, v4⟩ := moved_spec (a := b) (s := (s : Int)) fb cb.1 (by omega) (by omega)
  obtain ⟨u, u1, u2, u3, u4⟩ := moved_spec (a := a) (s := (s : Int)) fa ca.1 (by omega) (by omega)
  rw [Int.toNat_natCast] at v4 u4
  obtain ⟨kb, b1, b2, b3⟩ := blen_bounds hbpos
  have hkb : kb + s + 1 = 32 * b.length := by omega
  have hWn : W ^ b.length = 2 ^ (32 * b.length) := by
    have : W = 2 ^ 32 := by decide
    rw [this, ← Int.pow_mul]
  have hP : (0 : Int) < 2 ^ s := Int.pow_pos (by decide)
  have hVlt : 2 ^ s * val W b < W ^ b.length := by
    rw [hWn, ← hkb, show kb + s + 1 = s + (kb + 1) by omega, Int.pow_add]
    exact Int.mul_lt_mul_of_pos_left b3 hP
  have hVge : 2147483648 * W ^ (b.length - 1) ≤ 2 ^ s * val W b := by
    have e1 : 2147483648 * W ^ (b.length - 1) = 2 ^ s * 2 ^ kb := by
      have : W = 2 ^ 32 := by decide
      rw [← Int.pow_add, show s + kb = 31 + 32 * (b.length - 1) by omega, Int.pow_add, this, ← Int.pow_mul]
      rfl
    rw [e1]
    exact Int.mul_le_mul_of_nonneg_left b2 (by omega)
  -- the divisor
  have hv5top : v5.getD b.length 0 = 0 := zero_of_lt v3 (by rw [v4]; exact hVlt) (Nat.le_refl _)
  have hvv : val W (v5.take b.length) = 2 ^ s * val W b := by
    have := val_take_succ (B := W) v5 b.length
    rw [List.take_of_length_le (by omega), hv5top, Int.mul_zero, Int.add_zero] at this
    rw [← this, v4]
  have ov : ok W (v5.take b.length) := fun x hx => v3 x (List.mem_of_mem_take hx)
  have hvl : (v5.take b.length).length = b.length := by rw [List.length_take]; omega
  obtain ⟨m, hm⟩ : ∃ m, b.length = m + 2 := ⟨b.length - 2, by omega⟩
  have hvtop : 2147483648 ≤ (v5.take b.length).getD (m + 1) 0 := by
    rw [top_digit ov (m + 1) (by rw [hvv, show m + 1 + 1 = b.length by omega]; exact hVlt), hvv]
    apply (Int.le_ediv_iff_mul_le (Wpos _)).2
    rw [show m + 1 = b.length - 1 by omega]; exact hVge
  have ha0 := val_nonneg (B := W) (by decide) ca.1
  have ediv : 2 ^ s * val W a / (2 ^ s * val W b) = val W a / val W b := Int.mul_ediv_mul_of_pos _ _ hP
  have emod : 2 ^ s * val W a % (2 ^ s * val W b) / 2 ^ s = val W a % val W b := by
    rw [Int.mul_emod_mul_of_pos _ _ hP, Int.mul_ediv_cancel_left _ (by omega)]
  have hmodlt := Int.emod_lt_of_pos (val W a) hbpos
  have hmod0 := Int.emod_nonneg (val W a) (show val W b ≠ 0 by omega)
  have hblt := val_lt (B := W) (by decide) cb.1
  have hdl : (dig 4294967296 (val W a % val W b).toNat).length ≤ 512 := by
    have := dig_length (x := (val W a % val W b).toNat) (n := b.length) (by rw [Int.toNat_of_nonneg hmod0]; omega)
    omega
  have hstart : 2 ^ s * val W a < 2 ^ s * val W b * W ^ (a.length - b.length + 1) := by
    have h1 := val_lt (B := W) (by decide) ca.1
    have h3 : (2 : Int) ^ s ≤ 2147483648 := by
      have e : (2147483648 : Int) = 2 ^ (s + (31 - s)) := by rw [show s + (31 - s) = 31 by omega]; rfl
      rw [e, Int.pow_add]
      have h4 : (0 : Int) < 2 ^ (31 - s) := Int.pow_pos (by decide)
      have := Int.mul_le_mul_of_nonneg_left (show 1 ≤ (2 : Int) ^ (31 - s) by omega) (Int.le_of_lt hP)
      omega
    have h4 : 2 ^ s * val W a < 2 ^ s * W ^ a.length := Int.mul_lt_mul_of_pos_left h1 hP
    have h5' : 2 ^ s * W ^ a.length ≤ 2147483648 * W ^ a.length := Int.mul_le_mul_of_nonneg_right h3 (Int.le_of_lt (Wpos _))
    have h6 : 2147483648 * W ^ (b.length - 1) * W ^ (a.length - b.length + 1) ≤ 2 ^ s * val W b * W ^ (a.length - b.length + 1) := Int.mul_le_mul_of_nonneg_right hVge (Int.le_of_lt (Wpos _))
    rw [Int.mul_assoc, ← Int.pow_add, show b.length - 1 + (a.length - b.length + 1) = a.length by omega] at h6
    omega
  simp only [limbs_long, limbs_long_b]
  rw [wi64 (x := (b.length : Int) - 1) (by omega) (by omega), ct (by omega), ct (by omega), show ((b.length : Int) - 1).toNat = b.length - 1 by omega, LeadingZeros32_eq gtop.1 gtop.2]
  simp only [Option.bind_some]
  rw [show 32 - blen (b.getD (b.length - 1) 0) = (s : Int) by omega, v1]
  simp only [Option.bind_some]
  rw [ct (by omega), ct (by omega), u1]
  simp only [Option.bind_some]
  have hw : IntKind.i64.wrap (IntKind.i64.wrap ((a.length : Int) - (b.length : Int)) + 1) = ((a.length - b.length + 1 : Nat) : Int) := by
    rw [wi64 (x := (a.length : Int) - (b.length : Int)) (by omega) (by omega), wi64 (by omega) (by omega)]; omega
  rw [hw, ct (by omega), ct (by omega), Int.toNat_natCast, List.length_replicate, wi64 (by omega) (by omega)]
  have hz : ∀ j, (List.replicate (a.length - b.length + 1) (0 : Int)).getD j 0 = 0 := fun j => by simp [List.getD, List.getElem?_replicate]; split <;> rfl
  have := long_loop (a.length + 3) (by omega) (s := s) (m := m) hs' (v := v5.take b.length) (by omega) (by unfold fine; omega) ov hvtop (2 ^ s * val W a) u.length (a.length - b.length + 1) (by omega) (by omega) (by rw [hvv, emod]; exact hdl)
    (a.length - b.length + 1) (a.length + 3) u (List.replicate (a.length - b.length + 1) 0) (by omega) rfl (by simp) (Nat.le_refl _) (by omega) u3 (ok_zeros (by decide) _) (fun j _ => hz j) (by rw [val_zeros, u4]; omega) (by rw [u4, hvv]; exact hstart)
  rw [hvv, ediv, emod, hvl] at this
  exact this
end Go.L

/-! LO -/
namespace Go.L
open Go.PM
set_option linter.unusedVariables false
set_option linter.unusedSimpArgs false

def S.slices_Clone_api_Nat_uint32 (x : List Int × Unit) : Option (List Int × Unit) := if fine x.1 then some (x.1, ()) else none
def S.limbs_short (x : List Int × Int × Unit) : Option (List Int × Int × Unit) :=
  if fine x.1 ∧ ok W x.1 ∧ 0 < x.2.1 ∧ x.2.1 < W then some (dig 4294967296 (val W x.1 / x.2.1).toNat, val W x.1 % x.2.1, ()) else none

/-- limbs.Div -/
def limbs_Div (a : List Int) (b : List Int) : Option ((List Int) × (List Int) × Int × Unit) :=
  cond (decide ((b.length : Int) = 0)) (some ([], [], 10, ()))
   (
   (S.limbs_Compare (a, b, ())).bind fun z1 =>
   cond (decide (z1.1 < 0))
   (
   (S.slices_Clone_api_Nat_uint32 (a, ())).bind fun z2 =>
   some ([], z2.1, 0, ()))
   (
   cond (decide ((b.length : Int) = 1))
   (
   cond (decide (0 < (b.length : Int)))
   (
   (S.limbs_short (a, (b.getD 0 0), ())).bind fun z4 =>
   (S.limbs_Of ((IntKind.u64.wrap z4.2.1), ())).bind fun z6 =>
   some (z4.1, z6.1, 0, ())) none)
   (
   (S.limbs_long (a, b, ())).bind fun z7 =>
   some (z7.1, z7.2.1, 0, ()))))

def S.limbs_Div (x : List Int × List Int × Unit) : Option (List Int × List Int × Int × Unit) := L.limbs_Div x.1 x.2.1
theorem Div_eq {a b : List Int} (ha : a.length ≤ 1099511627000) (ca : can a) (cb : can b) (hb : b ≠ []) (h5 : b.length ≤ 512) :
    S.limbs_Div (a, b, ()) = some (dig 4294967296 (val W a / val W b).toNat, dig 4294967296 (val W a % val W b).toNat, 0, ()) := by
  have fa : fine a := by unfold fine; omega
  have fb : fine b := by unfold fine; omega
  have ha0 := val_nonneg (B := W) (by decide) ca.1
  have hb0 := trimL_pos (B := W) (by decide) cb.1 cb.2 hb
  have hl : b.length ≠ 0 := by intro e; exact hb (List.eq_nil_of_length_eq_zero e)
  simp only [S.limbs_Div, L.limbs_Div, S.limbs_Compare]
  rw [cf (by omega), if_pos ⟨fa, fb⟩]
  simp only [Option.bind_some]
  have ge_case : cmpL a b = 0 ∨ cmpL a b = 1 → val W b ≤ val W a → cond (decide (cmpL a b < 0)) ((S.slices_Clone_api_Nat_uint32 (a, ())).bind fun z2 => some ([], z2.1, (0 : Int), ()))
        (cond (decide ((b.length : Int) = 1)) (cond (decide (0 < (b.length : Int))) ((S.limbs_short (a, (b.getD 0 0), ())).bind fun z4 => (S.limbs_Of ((IntKind.u64.wrap z4.2.1), ())).bind fun z6 => some (z4.1, z6.1, (0 : Int), ())) none)
          ((S.limbs_long (a, b, ())).bind fun z7 => some (z7.1, z7.2.1, (0 : Int), ()))) = some (dig 4294967296 (val W a / val W b).toNat, dig 4294967296 (val W a % val W b).toNat, 0, ()) := by
    intro hc hle
    rw [cf (by omega)]
    have hab : b.length ≤ a.length := by
      rcases Nat.lt_or_ge a.length b.length with h | h
      · have := can_length_lt ca cb h; omega
      · exact h
    by_cases h1 : (b.length : Int) = 1
    · rw [ct h1, ct (by omega)]
      match b, h1 with
      | [d], _ =>
        have hd := (ok_cons.1 cb.1).1
        simp only [val_cons, val_nil, Int.mul_zero, Int.add_zero] at hb0 ⊢
        simp only [List.getD_cons_zero, S.limbs_short]
        rw [if_pos ⟨fa, ca.1, hb0, hd.2⟩]
        simp only [Option.bind_some]
        simp only [W] at hd
        have hm1 := Int.emod_nonneg (val W a) (show d ≠ 0 by omega)
        have hm2 := Int.emod_lt_of_pos (val W a) hb0
        rw [wu64 hm1 (by omega), Of_eq hm1 (by omega)]
        rfl
    · rw [cf h1]
      simp only [S.limbs_long]
      rw [if_pos ⟨ha, ca, cb, by omega, hab, h5⟩]
      rfl
  rcases cmpL_spec ca cb with ⟨h1, h2⟩ | ⟨h1, h2⟩ | ⟨h1, h2⟩
  · rw [h1, ct (by decide)]
    simp only [S.slices_Clone_api_Nat_uint32]
    rw [if_pos fa]
    simp only [Option.bind_some]
    rw [Int.ediv_eq_zero_of_lt ha0 h2, Int.emod_eq_of_lt ha0 h2, ← can_eq ca]
    rfl
  · exact ge_case (.inl h1) (by omega)
  · exact ge_case (.inr h1) (by omega)

theorem Check_eq {a : List Int} (ha : fine a) : S.limbs_Check (a, ()) = some (if 512 < a.length then 11 else if a ≠ [] ∧ a.getD (a.length - 1) 0 = 0 then 2 else 0, ()) := by
  unfold fine at ha
  simp only [S.limbs_Check, L.limbs_Check]
  by_cases h : 512 < a.length
  · rw [ct (by omega), if_pos h]
  rw [cf (by omega), if_neg h]
  by_cases h0 : a = []
  · subst h0; rw [cf (by simp), if_neg (by simp)]
  have hl : a.length ≠ 0 := by intro e; exact h0 (List.eq_nil_of_length_eq_zero e)
  rw [ct (by omega), wi64 (by omega) (by omega), ct (by omega), ct (by omega), show ((a.length : Int) - 1).toNat = a.length - 1 by omega]
  by_cases hz : a.getD (a.length - 1) 0 = 0
  · rw [ct hz, if_pos ⟨h0, hz⟩]
  · rw [cf hz, if_neg (fun h => hz h.2)]
theorem can_of_top {a : List Int} (ho : ok W a) (h : a = [] ∨ a.getD (a.length - 1) 0 ≠ 0) : can a := by
  refine ⟨ho, ?_⟩
  rcases h with h | h
  · subst h; rfl
  · rcases List.eq_nil_or_concat a with h0 | ⟨l, x, rfl⟩
    · subst h0; rfl
    · rw [List.concat_eq_append] at h ⊢
      apply trimL_snoc
      intro hx
      apply h
      subst hx
      simp [List.getD]
theorem top_of_can {a : List Int} (h : can a) (h0 : a ≠ []) : a.getD (a.length - 1) 0 ≠ 0 := by
  intro hz
  have h3 : val W a < W ^ (a.length - 1) := val_lt_of_zero _ h.1 (fun j hj => by
    rcases (by omega : j = a.length - 1 ∨ a.length ≤ j) with e | e
    · rw [e]; exact hz
    · exact zero_of_lt h.1 (val_lt (by decide) h.1) e)
  have := can_low h h0
  omega
theorem Check_can {a : List Int} (h : can a) (hl : a.length ≤ 512) : S.limbs_Check (a, ()) = some (0, ()) := by
  rw [Check_eq (by unfold fine; omega), if_neg (by omega), if_neg (fun hh => top_of_can h hh.1 hh.2)]

/-- Numbers with which a law is tried. -/
def fits1 (a : List Int) : Prop := a.length ≤ 40 ∧ (a = [] ∨ a.getD (a.length - 1) 0 ≠ 0)
instance (a : List Int) : Decidable (fits1 a) := inferInstanceAs (Decidable (_ ∧ _))
end Go.L
