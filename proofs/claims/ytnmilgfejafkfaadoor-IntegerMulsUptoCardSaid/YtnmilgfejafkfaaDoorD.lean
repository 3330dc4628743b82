/-
  the reference numbers: digits to the base 256. the reference numbers: sums, differences. the reference numbers: order, powers of 2. the reference numbers: powers of 2. the reference numbers: back to limbs. the reference numbers: products. the reference numbers: quotients (under way). the laws' own helpers: is and reckons. what the functions answer at numbers of the right form. the laws of sums, products, quotients and rings. the laws of shifts and orders. the laws of small numbers and of bounds.
  No condition beyond those that each theorem names.
-/
import Derived.Test.YtnmilgfejafkfaaDoorC

/-! RA -/
namespace Go.L
open Go.PM
set_option linter.unusedVariables false
set_option linter.unusedSimpArgs false

/-- The base of the reference. -/
abbrev V8 : Int := 256
/-- A reference number as it should be. -/
def can8 (a : List Int) : Prop := ok V8 a ∧ trimL a = a
instance (a : List Int) : Decidable (can8 a) := inferInstanceAs (Decidable (_ ∧ _))
theorem can8_dig (n : Nat) : can8 (dig 256 n) := ⟨(dig_spec (B := 256) (by decide) n).1, (dig_spec (B := 256) (by decide) n).2.1⟩
theorem val8_dig (n : Nat) : val V8 (dig 256 n) = n := (dig_spec (B := 256) (by decide) n).2.2
theorem trim8 {a : List Int} (h : ok V8 a) : trimL a = dig 256 (val V8 a).toNat := trimL_eq_dig (B := 256) (by decide) h
theorem can8_eq {a : List Int} (h : can8 a) : a = dig 256 (val V8 a).toNat := by
  have := trim8 h.1
  rw [h.2] at this
  exact this

/-- ref_Cut: one round of loop 0. -/
def ref_Cut_s0 (κ0 : (List Int) → Int → Option ((List Int) × Unit)) (a : List Int) (n2 : Int) : Option ((List Int) × Unit) :=
  cond (decide (0 < n2))
    (
      let z1 := IntKind.i64.wrap (n2 - 1)
      cond (decide (0 ≤ z1))
        (
          cond (decide (z1 < (a.length : Int)))
            (
              cond (decide ((a.getD z1.toNat 0) = 0)) (κ0 a (IntKind.i64.wrap (n2 - 1)))
                (
                  cond (decide (0 ≤ n2))
                    (
                      cond (decide (n2 ≤ (a.length : Int))) (some ((a.take n2.toNat), ())) none) none)) none) none)
    (
      cond (decide (0 ≤ n2))
        (
          cond (decide (n2 ≤ (a.length : Int))) (some ((a.take n2.toNat), ())) none) none)

def ref_Cut_l0 (K : Nat) : Nat → (List Int) → Int → Option ((List Int) × Unit)
  | 0, _, _ => none
  | n + 1, a, n2 => ref_Cut_s0 (ref_Cut_l0 K n) a n2

/-- girdleref01.Cut -/
def ref_Cut_b (I0 : (List Int) → Int → Option ((List Int) × Unit)) (a : List Int) : Option ((List Int) × Unit) :=
  I0 a (a.length : Int)

def ref_Cut (K : Nat) (a : List Int) : Option ((List Int) × Unit) := ref_Cut_b (ref_Cut_l0 K K) a

def S.ref_Cut (x : List Int × Unit) : Option (List Int × Unit) := if fine x.1 then some (trimL x.1, ()) else none
theorem cut_loop (K : Nat) (a : List Int) (ha : fine a) : ∀ (k n : Nat), k < n → k ≤ a.length → ref_Cut_l0 K n a (k : Int) = some (trimL (a.take k), ()) := by
  intro k
  unfold fine at ha
  induction k with
  | zero =>
    intro n hn hk
    obtain ⟨n, rfl⟩ : ∃ m, n = m + 1 := ⟨n - 1, by omega⟩
    simp [ref_Cut_l0, ref_Cut_s0, trimL]
  | succ k ih =>
    intro n hn hk
    obtain ⟨n, rfl⟩ : ∃ m, n = m + 1 := ⟨n - 1, by omega⟩
    have e : ((k + 1 : Nat) : Int) - 1 = (k : Int) := by omega
    have htake : a.take (k + 1) = a.take k ++ [a.getD k 0] := by
      rw [List.take_add_one]
      simp [List.getD, List.getElem?_eq_getElem (show k < a.length by omega)]
    simp only [ref_Cut_l0, ref_Cut_s0, e]
    rw [wi64 (by omega) (by omega), ct (by omega), ct (by omega), ct (by omega), Int.toNat_natCast]
    by_cases h0 : a.getD k 0 = 0
    · rw [ct h0, ih n (by omega) (by omega), htake, h0, trimL_snoc_zero]
    · rw [cf h0, ct (by omega), ct (by omega), Int.toNat_natCast, htake, trimL_snoc h0]
theorem ref_Cut_ok (x : List Int × Unit) (y : List Int × Unit) (h : S.ref_Cut x = some y) : ∃ K, ref_Cut K x.1 = some y := by
  unfold S.ref_Cut at h
  split at h <;> cases h
  rename_i hf
  refine ⟨x.1.length + 1, ?_⟩
  simp only [ref_Cut, ref_Cut_b]
  rw [cut_loop _ _ hf _ _ (by omega) (Nat.le_refl _), List.take_length]

/-- ref_Of: one round of loop 1. -/
def ref_Of_s1 (κ0 : (List Int) → (List Int) → Int → Option ((List Int) × Unit)) (κ1 : (List Int) → (List Int) → Int → Int → Int → Option ((List Int) × Unit)) (a : List Int) (out : List Int) (i : Int) (n2 : Int) (k : Int) : Option ((List Int) × Unit) :=
  cond (decide (k < 4))
    (
      cond (decide ((out.length + ([(n2.tmod 256)]).length) * 8 ≤ 140737488351232))
        (
          κ1 a (out ++ ([(n2.tmod 256)])) i (IntKind.i64.wrap (n2.tdiv 256)) (IntKind.i64.wrap (k + 1))) none) (κ0 a out (IntKind.i64.wrap (i + 1)))

def ref_Of_l1 (K : Nat) (κ0 : (List Int) → (List Int) → Int → Option ((List Int) × Unit)) : Nat → (List Int) → (List Int) → Int → Int → Int → Option ((List Int) × Unit)
  | 0, _, _, _, _, _ => none
  | n + 1, a, out, i, n2, k => ref_Of_s1 κ0 (ref_Of_l1 K κ0 n) a out i n2 k

/-- ref_Of: one round of loop 0. -/
def ref_Of_s0 (I1 : (List Int) → (List Int) → Int → Int → Int → Option ((List Int) × Unit)) (κ0 : (List Int) → (List Int) → Int → Option ((List Int) × Unit)) (a : List Int) (out : List Int) (i : Int) : Option ((List Int) × Unit) :=
  cond (decide (i < (a.length : Int)))
    (
      cond (decide (0 ≤ i))
        (
          cond (decide (i < (a.length : Int))) (I1 a out i (IntKind.i64.wrap (a.getD i.toNat 0)) 0) none) none)
    (
      (S.ref_Cut (out, ())).bind fun z8 =>
      some (z8.1, ()))

def ref_Of_l0 (K : Nat) : Nat → (List Int) → (List Int) → Int → Option ((List Int) × Unit)
  | 0, _, _, _ => none
  | n + 1, a, out, i => ref_Of_s0 (ref_Of_l1 K (ref_Of_l0 K n) K) (ref_Of_l0 K n) a out i

/-- girdleref01.Of -/
def ref_Of_b (I0 : (List Int) → (List Int) → Int → Option ((List Int) × Unit)) (a : List Int) : Option ((List Int) × Unit) :=
  I0 a [] 0

def ref_Of (K : Nat) (a : List Int) : Option ((List Int) × Unit) := ref_Of_b (ref_Of_l0 K K) a

def S.ref_Of (x : List Int × Unit) : Option (List Int × Unit) := if x.1.length ≤ 1000000 ∧ ok W x.1 then some (dig 256 (val W x.1).toNat, ()) else none
theorem of_inner (K : Nat) (κ0 : (List Int) → (List Int) → Int → Option ((List Int) × Unit)) (a out : List Int) (i : Nat) (x : Int) (n : Nat) (hn : 5 ≤ n) (hl : out.length ≤ 4000000) (hx : 0 ≤ x) (hx' : x < 4294967296) (hi : i ≤ 1000000) :
    ref_Of_l1 K κ0 n a out (i : Int) x 0 = κ0 a (out ++ [x % 256, x / 256 % 256, x / 65536 % 256, x / 16777216]) ((i : Int) + 1) := by
  obtain ⟨n, rfl⟩ : ∃ m, n = m + 5 := ⟨n - 5, by omega⟩
  have td : ∀ y : Int, 0 ≤ y → y.tdiv 256 = y / 256 := fun y h => Int.tdiv_eq_ediv_of_nonneg h
  have tm : ∀ y : Int, 0 ≤ y → y.tmod 256 = y % 256 := fun y h => Int.tmod_eq_emod_of_nonneg h
  have step : ∀ (n : Nat) (out : List Int) (y : Int) (k : Int), out.length ≤ 4000004 → 0 ≤ y → y < 4294967296 → 0 ≤ k → k < 4 → ref_Of_l1 K κ0 (n + 1) a out (i : Int) y k = ref_Of_l1 K κ0 n a (out ++ [y % 256]) (i : Int) (y / 256) (k + 1) := by
    intro n out y k ho h0 h1 k0 k4
    simp only [ref_Of_l1, ref_Of_s1]
    rw [ct k4, ct (by simp; omega), td y h0, tm y h0, wi64 (x := y / 256) (by omega) (by omega), wi64 (by omega) (by omega)]
  rw [step (n + 4) _ _ _ (by omega) hx hx' (by decide) (by decide), step (n + 3) _ _ _ (by simp; omega) (by omega) (by omega) (by decide) (by decide), step (n + 2) _ _ _ (by simp; omega) (by omega) (by omega) (by decide) (by decide), step (n + 1) _ _ _ (by simp; omega) (by omega) (by omega) (by decide) (by decide)]
  simp only [ref_Of_l1, ref_Of_s1]
  rw [cf (by decide), wi64 (by omega) (by omega)]
  have e1 : x / 256 / 256 % 256 = x / 65536 % 256 := by omega
  have e2 : x / 256 / 256 / 256 % 256 = x / 16777216 := by omega
  rw [e1, e2]
  simp only [List.append_assoc, List.cons_append, List.nil_append]
theorem of_loop (K : Nat) (hK : 5 ≤ K) (a : List Int) (ha : a.length ≤ 1000000) (oa : ok W a) : ∀ (r i n : Nat) (out : List Int), i + r = a.length → r < n → out.length = 4 * i → ok V8 out → val V8 out = val W (a.take i) → ref_Of_l0 K n a out (i : Int) = some (dig 256 (val W a).toNat, ()) := by
  intro r
  induction r with
  | zero =>
    intro i n out hi hn hl ho hv
    obtain ⟨n, rfl⟩ : ∃ m, n = m + 1 := ⟨n - 1, by omega⟩
    simp only [ref_Of_l0, ref_Of_s0, S.ref_Cut]
    rw [cf (by omega), if_pos (show fine out by unfold fine; omega)]
    simp only [Option.bind_some]
    rw [trim8 ho, hv, List.take_of_length_le (by omega)]
  | succ r ih =>
    intro i n out hi hn hl ho hv
    obtain ⟨n, rfl⟩ : ∃ m, n = m + 1 := ⟨n - 1, by omega⟩
    have ga := getD_ok (B := W) (by decide) oa i
    simp only [W] at ga
    simp only [ref_Of_l0, ref_Of_s0, Int.toNat_natCast]
    rw [ct (by omega), ct (by omega), ct (by omega), wi64 (by omega) (by omega), of_inner K _ a out i _ K hK (by omega) ga.1 ga.2 (by omega), show ((i : Int) + 1) = ((i + 1 : Nat) : Int) by omega]
    refine ih (i + 1) n _ (by omega) (by omega) (by simp; omega) ?_ ?_
    · refine ok_append.2 ⟨ho, ?_⟩
      intro y hy
      simp only [List.mem_cons, List.not_mem_nil, or_false] at hy
      rcases hy with rfl | rfl | rfl | rfl <;> simp only [V8] <;> omega
    · rw [val_append, hv, val_take_succ, hl]
      have e : V8 ^ (4 * i) = W ^ i := by rw [Int.pow_mul]; rfl
      rw [e]
      congr 2
      simp only [val_cons, val_nil, V8]
      omega
theorem ref_Of_ok (x : List Int × Unit) (y : List Int × Unit) (h : S.ref_Of x = some y) : ∃ K, ref_Of K x.1 = some y := by
  unfold S.ref_Of at h
  split at h <;> cases h
  rename_i hh
  exact ⟨x.1.length + 5, by simp only [ref_Of, ref_Of_b]; exact of_loop _ (by omega) x.1 hh.1 hh.2 x.1.length 0 _ [] (by omega) (by omega) rfl ok_nil rfl⟩
end Go.L

/-! RB -/
namespace Go.L
open Go.PM
set_option linter.unusedVariables false
set_option linter.unusedSimpArgs false

theorem td256 {y : Int} (h : 0 ≤ y) : y.tdiv 256 = y / 256 := Int.tdiv_eq_ediv_of_nonneg h
theorem tm256 {y : Int} (h : 0 ≤ y) : y.tmod 256 = y % 256 := Int.tmod_eq_emod_of_nonneg h
theorem getD_past {a : List Int} {i : Nat} (h : ¬ (i : Int) < (a.length : Int)) : a.getD i 0 = 0 := by simp [List.getD, List.getElem?_eq_none (show a.length ≤ i by omega)]

/-- ref_Add: one round of loop 0. -/
def ref_Add_s0 (κ0 : (List Int) → (List Int) → (List Int) → Int → Int → Option ((List Int) × Unit)) (a : List Int) (b : List Int) (out : List Int) (carry : Int) (i : Int) : Option ((List Int) × Unit) :=
  cond (decide (i < (a.length : Int)))
    (
      cond (decide (i < (a.length : Int)))
        (
          cond (decide (0 ≤ i))
            (
              cond (decide (i < (a.length : Int)))
                (
                  let z2 := IntKind.i64.wrap (carry + (a.getD i.toNat 0))
                  cond (decide (i < (b.length : Int)))
                    (
                      cond (decide (0 ≤ i))
                        (
                          cond (decide (i < (b.length : Int)))
                            (
                              let z4 := IntKind.i64.wrap (z2 + (b.getD i.toNat 0))
                              cond (decide ((out.length + ([(z4.tmod 256)]).length) * 8 ≤ 140737488351232))
                                (
                                  κ0 a b (out ++ ([(z4.tmod 256)])) (IntKind.i64.wrap (z4.tdiv 256)) (IntKind.i64.wrap (i + 1))) none) none) none)
                    (
                      cond (decide ((out.length + ([(z2.tmod 256)]).length) * 8 ≤ 140737488351232))
                        (
                          κ0 a b (out ++ ([(z2.tmod 256)])) (IntKind.i64.wrap (z2.tdiv 256)) (IntKind.i64.wrap (i + 1))) none)) none) none)
        (
          cond (decide (i < (b.length : Int)))
            (
              cond (decide (0 ≤ i))
                (
                  cond (decide (i < (b.length : Int)))
                    (
                      let z14 := IntKind.i64.wrap (carry + (b.getD i.toNat 0))
                      cond (decide ((out.length + ([(z14.tmod 256)]).length) * 8 ≤ 140737488351232))
                        (
                          κ0 a b (out ++ ([(z14.tmod 256)])) (IntKind.i64.wrap (z14.tdiv 256)) (IntKind.i64.wrap (i + 1))) none) none) none)
            (
              cond (decide ((out.length + ([(carry.tmod 256)]).length) * 8 ≤ 140737488351232))
                (
                  κ0 a b (out ++ ([(carry.tmod 256)])) (IntKind.i64.wrap (carry.tdiv 256)) (IntKind.i64.wrap (i + 1))) none)))
    (
      cond (decide (i < (b.length : Int)))
        (
          cond (decide (i < (a.length : Int)))
            (
              cond (decide (0 ≤ i))
                (
                  cond (decide (i < (a.length : Int)))
                    (
                      let z24 := IntKind.i64.wrap (carry + (a.getD i.toNat 0))
                      cond (decide (i < (b.length : Int)))
                        (
                          cond (decide (0 ≤ i))
                            (
                              cond (decide (i < (b.length : Int)))
                                (
                                  let z26 := IntKind.i64.wrap (z24 + (b.getD i.toNat 0))
                                  cond (decide ((out.length + ([(z26.tmod 256)]).length) * 8 ≤ 140737488351232))
                                    (
                                      κ0 a b (out ++ ([(z26.tmod 256)])) (IntKind.i64.wrap (z26.tdiv 256)) (IntKind.i64.wrap (i + 1))) none) none) none)
                        (
                          cond (decide ((out.length + ([(z24.tmod 256)]).length) * 8 ≤ 140737488351232))
                            (
                              κ0 a b (out ++ ([(z24.tmod 256)])) (IntKind.i64.wrap (z24.tdiv 256)) (IntKind.i64.wrap (i + 1))) none)) none) none)
            (
              cond (decide (i < (b.length : Int)))
                (
                  cond (decide (0 ≤ i))
                    (
                      cond (decide (i < (b.length : Int)))
                        (
                          let z36 := IntKind.i64.wrap (carry + (b.getD i.toNat 0))
                          cond (decide ((out.length + ([(z36.tmod 256)]).length) * 8 ≤ 140737488351232))
                            (
                              κ0 a b (out ++ ([(z36.tmod 256)])) (IntKind.i64.wrap (z36.tdiv 256)) (IntKind.i64.wrap (i + 1))) none) none) none)
                (
                  cond (decide ((out.length + ([(carry.tmod 256)]).length) * 8 ≤ 140737488351232))
                    (
                      κ0 a b (out ++ ([(carry.tmod 256)])) (IntKind.i64.wrap (carry.tdiv 256)) (IntKind.i64.wrap (i + 1))) none)))
        (
          cond (decide (0 < carry))
            (
              cond (decide (i < (a.length : Int)))
                (
                  cond (decide (0 ≤ i))
                    (
                      cond (decide (i < (a.length : Int)))
                        (
                          let z46 := IntKind.i64.wrap (carry + (a.getD i.toNat 0))
                          cond (decide (i < (b.length : Int)))
                            (
                              cond (decide (0 ≤ i))
                                (
                                  cond (decide (i < (b.length : Int)))
                                    (
                                      let z48 := IntKind.i64.wrap (z46 + (b.getD i.toNat 0))
                                      cond (decide ((out.length + ([(z48.tmod 256)]).length) * 8 ≤ 140737488351232))
                                        (
                                          κ0 a b (out ++ ([(z48.tmod 256)])) (IntKind.i64.wrap (z48.tdiv 256)) (IntKind.i64.wrap (i + 1))) none) none) none)
                            (
                              cond (decide ((out.length + ([(z46.tmod 256)]).length) * 8 ≤ 140737488351232))
                                (
                                  κ0 a b (out ++ ([(z46.tmod 256)])) (IntKind.i64.wrap (z46.tdiv 256)) (IntKind.i64.wrap (i + 1))) none)) none) none)
                (
                  cond (decide (i < (b.length : Int)))
                    (
                      cond (decide (0 ≤ i))
                        (
                          cond (decide (i < (b.length : Int)))
                            (
                              let z58 := IntKind.i64.wrap (carry + (b.getD i.toNat 0))
                              cond (decide ((out.length + ([(z58.tmod 256)]).length) * 8 ≤ 140737488351232))
                                (
                                  κ0 a b (out ++ ([(z58.tmod 256)])) (IntKind.i64.wrap (z58.tdiv 256)) (IntKind.i64.wrap (i + 1))) none) none) none)
                    (
                      cond (decide ((out.length + ([(carry.tmod 256)]).length) * 8 ≤ 140737488351232))
                        (
                          κ0 a b (out ++ ([(carry.tmod 256)])) (IntKind.i64.wrap (carry.tdiv 256)) (IntKind.i64.wrap (i + 1))) none)))
            (
              (S.ref_Cut (out, ())).bind fun z67 =>
              some (z67.1, ()))))

def ref_Add_l0 (K : Nat) : Nat → (List Int) → (List Int) → (List Int) → Int → Int → Option ((List Int) × Unit)
  | 0, _, _, _, _, _ => none
  | n + 1, a, b, out, carry, i => ref_Add_s0 (ref_Add_l0 K n) a b out carry i

/-- girdleref01.Add -/
def ref_Add_b (I0 : (List Int) → (List Int) → (List Int) → Int → Int → Option ((List Int) × Unit)) (a : List Int) (b : List Int) : Option ((List Int) × Unit) :=
  I0 a b [] 0 0

def ref_Add (K : Nat) (a : List Int) (b : List Int) : Option ((List Int) × Unit) := ref_Add_b (ref_Add_l0 K K) a b

def S.ref_Add (x : List Int × List Int × Unit) : Option (List Int × Unit) := if x.1.length ≤ 1000000 ∧ x.2.1.length ≤ 1000000 ∧ ok V8 x.1 ∧ ok V8 x.2.1 then some (dig 256 (val V8 x.1 + val V8 x.2.1).toNat, ()) else none
theorem ref_add_step (K n : Nat) {a b out : List Int} {i : Nat} {carry : Int} (oa : ok V8 a) (ob : ok V8 b) (hi : i ≤ 2000000) (hl : out.length = i) (c0 : 0 ≤ carry) (c1 : carry ≤ 1) (h : (i : Int) < (a.length : Int) ∨ (i : Int) < (b.length : Int) ∨ 0 < carry) :
    ref_Add_l0 K (n + 1) a b out carry (i : Int) = ref_Add_l0 K n a b (out ++ [(carry + a.getD i 0 + b.getD i 0) % 256]) ((carry + a.getD i 0 + b.getD i 0) / 256) ((i + 1 : Nat) : Int) := by
  have ga := getD_ok (B := V8) (by decide) oa i
  have gb := getD_ok (B := V8) (by decide) ob i
  simp only [V8] at ga gb
  have hfit : ∀ y : Int, (out.length + [y].length) * 8 ≤ 140737488351232 := fun y => by simp; omega
  have ei : IntKind.i64.wrap ((i : Int) + 1) = ((i + 1 : Nat) : Int) := by rw [wi64 (by omega) (by omega)]; omega
  simp only [ref_Add_l0, ref_Add_s0, Int.toNat_natCast]
  by_cases ha : (i : Int) < (a.length : Int)
  · rw [ct ha, ct ha, ct (by omega), ct ha]
    by_cases hb : (i : Int) < (b.length : Int)
    · rw [ct hb, ct (by omega), ct hb, ct (hfit _), wi64 (x := carry + a.getD i 0) (by omega) (by omega), wi64 (x := carry + a.getD i 0 + b.getD i 0) (by omega) (by omega), tm256 (by omega), td256 (by omega), wi64 (x := (carry + a.getD i 0 + b.getD i 0) / 256) (by omega) (by omega), ei]
    · have e := getD_past hb
      rw [cf hb, ct (hfit _), wi64 (x := carry + a.getD i 0) (by omega) (by omega), tm256 (by omega), td256 (by omega), wi64 (x := (carry + a.getD i 0) / 256) (by omega) (by omega), ei, e, Int.add_zero]
  · have e := getD_past ha
    rw [cf ha]
    by_cases hb : (i : Int) < (b.length : Int)
    · rw [ct hb, cf ha, ct hb, ct (by omega), ct hb, ct (hfit _), wi64 (x := carry + b.getD i 0) (by omega) (by omega), tm256 (by omega), td256 (by omega), wi64 (x := (carry + b.getD i 0) / 256) (by omega) (by omega), ei, e, Int.add_zero]
    · have e' := getD_past hb
      rw [cf hb, ct (by omega), cf ha, cf hb, ct (hfit _), tm256 c0, td256 c0, wi64 (x := carry / 256) (by omega) (by omega), ei, e, e', Int.add_zero, Int.add_zero]
theorem ref_add_loop (K : Nat) (a b : List Int) (ha : a.length ≤ 1000000) (hb : b.length ≤ 1000000) (oa : ok V8 a) (ob : ok V8 b) : ∀ (r i n : Nat) (out : List Int) (carry : Int), max a.length b.length + 1 ≤ i + r → i ≤ max a.length b.length + 1 → r < n → out.length = i → ok V8 out → 0 ≤ carry → carry ≤ 1 → (max a.length b.length < i → carry = 0) →
    val V8 out + V8 ^ i * carry = val V8 (a.take i) + val V8 (b.take i) → ref_Add_l0 K n a b out carry (i : Int) = some (dig 256 (val V8 a + val V8 b).toNat, ()) := by
  intro r
  induction r with
  | zero =>
    intro i n out carry hi hi' hn hl ho c0 c1 hc hv
    obtain ⟨n, rfl⟩ : ∃ m, n = m + 1 := ⟨n - 1, by omega⟩
    have hc0 := hc (by omega)
    subst hc0
    simp only [ref_Add_l0, ref_Add_s0, S.ref_Cut]
    rw [cf (by omega), cf (by omega), cf (by decide), if_pos (show fine out by unfold fine; omega)]
    simp only [Option.bind_some]
    rw [Int.mul_zero, Int.add_zero, List.take_of_length_le (by omega), List.take_of_length_le (by omega)] at hv
    rw [trim8 ho, hv]
  | succ r ih =>
    intro i n out carry hi hi' hn hl ho c0 c1 hc hv
    obtain ⟨n, rfl⟩ : ∃ m, n = m + 1 := ⟨n - 1, by omega⟩
    by_cases h : (i : Int) < (a.length : Int) ∨ (i : Int) < (b.length : Int) ∨ 0 < carry
    · have hlt : i ≤ max a.length b.length := by
        rcases h with h | h | h
        · omega
        · omega
        · rcases Nat.lt_or_ge (max a.length b.length) i with h2 | h2
          · have := hc h2; omega
          · exact h2
      have ga := getD_ok (B := V8) (by decide) oa i
      have gb := getD_ok (B := V8) (by decide) ob i
      simp only [V8] at ga gb
      rw [ref_add_step K n oa ob (by omega) hl c0 c1 h]
      refine ih (i + 1) n _ _ (by omega) (by omega) (by omega) (by simp [hl]) (ok_append.2 ⟨ho, ok_cons.2 ⟨⟨by omega, by simp only [V8]; omega⟩, ok_nil⟩⟩) (by omega) (by omega) (fun h2 => ?_) ?_
      · have e1 : a.getD i 0 = 0 := getD_past (by omega)
        have e2 : b.getD i 0 = 0 := getD_past (by omega)
        omega
      · rw [val_append, val_take_succ, val_take_succ, hl, Int.pow_succ]
        simp only [val_cons, val_nil, Int.mul_zero, Int.add_zero]
        obtain ⟨z, hz⟩ : ∃ z, z = carry + a.getD i 0 + b.getD i 0 := ⟨_, rfl⟩
        rw [← hz]
        have e1 : V8 ^ i * (z % 256) + V8 ^ i * V8 * (z / 256) = V8 ^ i * z := by
          rw [Int.mul_assoc, ← Int.mul_add]; congr 1; simp only [V8]; omega
        have e2 : V8 ^ i * z = V8 ^ i * carry + V8 ^ i * a.getD i 0 + V8 ^ i * b.getD i 0 := by rw [hz, Int.mul_add, Int.mul_add]
        omega
    · have hc0 : carry = 0 := by omega
      subst hc0
      simp only [ref_Add_l0, ref_Add_s0, S.ref_Cut]
      rw [cf (fun h2 => h (.inl h2)), cf (fun h2 => h (.inr (.inl h2))), cf (by decide), if_pos (show fine out by unfold fine; omega)]
      simp only [Option.bind_some]
      rw [Int.mul_zero, Int.add_zero, List.take_of_length_le (by omega), List.take_of_length_le (by omega)] at hv
      rw [trim8 ho, hv]
theorem ref_Add_ok (x : List Int × List Int × Unit) (y : List Int × Unit) (h : S.ref_Add x = some y) : ∃ K, ref_Add K x.1 x.2.1 = some y := by
  unfold S.ref_Add at h
  split at h <;> cases h
  rename_i hh
  obtain ⟨a, b, _⟩ := x
  obtain ⟨ha, hb, oa, ob⟩ := hh
  simp only at ha hb oa ob ⊢
  exact ⟨max a.length b.length + 2, by simp only [ref_Add, ref_Add_b]; exact ref_add_loop _ a b ha hb oa ob (max a.length b.length + 1) 0 _ [] 0 (by omega) (by omega) (by omega) rfl ok_nil (by decide) (by decide) (fun _ => rfl) (by simp)⟩

/-- ref_Sub: one round of loop 0. -/
def ref_Sub_s0 (κ0 : (List Int) → (List Int) → (List Int) → Int → Int → Option ((List Int) × Unit)) (a : List Int) (b : List Int) (out : List Int) (owed : Int) (i : Int) : Option ((List Int) × Unit) :=
  cond (decide (i < (a.length : Int)))
    (
      cond (decide (0 ≤ i))
        (
          cond (decide (i < (a.length : Int)))
            (
              let z2 := IntKind.i64.wrap ((a.getD i.toNat 0) - owed)
              cond (decide (i < (b.length : Int)))
                (
                  cond (decide (0 ≤ i))
                    (
                      cond (decide (i < (b.length : Int)))
                        (
                          let z4 := IntKind.i64.wrap (z2 - (b.getD i.toNat 0))
                          cond (decide (z4 < 0))
                            (
                              let z5 := IntKind.i64.wrap (z4 + 256)
                              cond (decide ((out.length + ([z5]).length) * 8 ≤ 140737488351232)) (κ0 a b (out ++ ([z5])) 1 (IntKind.i64.wrap (i + 1))) none)
                            (
                              cond (decide ((out.length + ([z4]).length) * 8 ≤ 140737488351232)) (κ0 a b (out ++ ([z4])) 0 (IntKind.i64.wrap (i + 1))) none)) none) none)
                (
                  cond (decide (z2 < 0))
                    (
                      let z10 := IntKind.i64.wrap (z2 + 256)
                      cond (decide ((out.length + ([z10]).length) * 8 ≤ 140737488351232)) (κ0 a b (out ++ ([z10])) 1 (IntKind.i64.wrap (i + 1))) none)
                    (
                      cond (decide ((out.length + ([z2]).length) * 8 ≤ 140737488351232)) (κ0 a b (out ++ ([z2])) 0 (IntKind.i64.wrap (i + 1))) none))) none) none)
    (
      (S.ref_Cut (out, ())).bind fun z15 =>
      some (z15.1, ()))

def ref_Sub_l0 (K : Nat) : Nat → (List Int) → (List Int) → (List Int) → Int → Int → Option ((List Int) × Unit)
  | 0, _, _, _, _, _ => none
  | n + 1, a, b, out, owed, i => ref_Sub_s0 (ref_Sub_l0 K n) a b out owed i

/-- girdleref01.Sub -/
def ref_Sub_b (I0 : (List Int) → (List Int) → (List Int) → Int → Int → Option ((List Int) × Unit)) (a : List Int) (b : List Int) : Option ((List Int) × Unit) :=
  I0 a b [] 0 0

def ref_Sub (K : Nat) (a : List Int) (b : List Int) : Option ((List Int) × Unit) := ref_Sub_b (ref_Sub_l0 K K) a b

def S.ref_Sub (x : List Int × List Int × Unit) : Option (List Int × Unit) := if x.1.length ≤ 1000000 ∧ can8 x.1 ∧ can8 x.2.1 ∧ x.2.1.length ≤ x.1.length ∧ val V8 x.2.1 ≤ val V8 x.1 then some (dig 256 (val V8 x.1 - val V8 x.2.1).toNat, ()) else none
theorem ref_sub_loop (K : Nat) (a b : List Int) (ha : a.length ≤ 1000000) (oa : ok V8 a) (ob : ok V8 b) (hab : b.length ≤ a.length) (hle : val V8 b ≤ val V8 a) : ∀ (r i n : Nat) (out : List Int) (owed : Int), i + r = a.length → r < n → out.length = i → ok V8 out → 0 ≤ owed → owed ≤ 1 →
    val V8 out - V8 ^ i * owed = val V8 (a.take i) - val V8 (b.take i) → ref_Sub_l0 K n a b out owed (i : Int) = some (dig 256 (val V8 a - val V8 b).toNat, ()) := by
  intro r
  induction r with
  | zero =>
    intro i n out owed hi hn hl ho c0 c1 hv
    obtain ⟨n, rfl⟩ : ∃ m, n = m + 1 := ⟨n - 1, by omega⟩
    simp only [ref_Sub_l0, ref_Sub_s0, S.ref_Cut]
    rw [cf (by omega), if_pos (show fine out by unfold fine; omega)]
    simp only [Option.bind_some]
    rw [List.take_of_length_le (by omega), List.take_of_length_le (by omega)] at hv
    have hlt := val_lt (B := V8) (by decide) ho
    rw [hl] at hlt
    have h0 : owed = 0 := by
      rcases (by omega : owed = 0 ∨ owed = 1) with h | h
      · exact h
      · subst h; omega
    subst h0
    rw [Int.mul_zero, Int.sub_zero] at hv
    rw [trim8 ho, hv]
  | succ r ih =>
    intro i n out owed hi hn hl ho c0 c1 hv
    obtain ⟨n, rfl⟩ : ∃ m, n = m + 1 := ⟨n - 1, by omega⟩
    have ga := getD_ok (B := V8) (by decide) oa i
    have gb := getD_ok (B := V8) (by decide) ob i
    simp only [V8] at ga gb
    have hfit : ∀ y : Int, (out.length + [y].length) * 8 ≤ 140737488351232 := fun y => by simp; omega
    have ei : IntKind.i64.wrap ((i : Int) + 1) = ((i + 1 : Nat) : Int) := by rw [wi64 (by omega) (by omega)]; omega
    obtain ⟨z, hz⟩ : ∃ z, z = a.getD i 0 - owed - b.getD i 0 := ⟨_, rfl⟩
    have next : ∀ w : Int, 0 ≤ w → w < 256 → ∀ o : Int, 0 ≤ o → o ≤ 1 → w - 256 * o = z → ref_Sub_l0 K n a b (out ++ [w]) o ((i + 1 : Nat) : Int) = some (dig 256 (val V8 a - val V8 b).toNat, ()) := by
      intro w w0 w1 o o0 o1 hw
      refine ih (i + 1) n _ _ (by omega) (by omega) (by simp [hl]) (ok_append.2 ⟨ho, ok_cons.2 ⟨⟨w0, by simp only [V8]; omega⟩, ok_nil⟩⟩) o0 o1 ?_
      rw [val_append, val_take_succ, val_take_succ, hl, Int.pow_succ]
      simp only [val_cons, val_nil, Int.mul_zero, Int.add_zero]
      have e1 : V8 ^ i * w - V8 ^ i * V8 * o = V8 ^ i * z := by rw [Int.mul_assoc, ← Int.mul_sub]; congr 1
      have e2 : V8 ^ i * z = V8 ^ i * a.getD i 0 - V8 ^ i * owed - V8 ^ i * b.getD i 0 := by rw [hz, Int.mul_sub, Int.mul_sub]
      omega
    simp only [ref_Sub_l0, ref_Sub_s0, Int.toNat_natCast]
    have w1 := wi64 (x := a.getD i 0 - owed) (by omega) (by omega)
    have w2 := wi64 (x := a.getD i 0 - owed - b.getD i 0) (by omega) (by omega)
    simp only [w1, w2]
    rw [ct (by omega), ct (by omega), ct (by omega)]
    have fin : cond (decide (z < 0)) (cond (decide ((out.length + [IntKind.i64.wrap (z + 256)].length) * 8 ≤ 140737488351232)) (ref_Sub_l0 K n a b (out ++ [IntKind.i64.wrap (z + 256)]) 1 (IntKind.i64.wrap ((i : Int) + 1))) none)
        (cond (decide ((out.length + [z].length) * 8 ≤ 140737488351232)) (ref_Sub_l0 K n a b (out ++ [z]) 0 (IntKind.i64.wrap ((i : Int) + 1))) none) = some (dig 256 (val V8 a - val V8 b).toNat, ()) := by
      by_cases hneg : z < 0
      · rw [ct hneg, ct (hfit _), ei, wi64 (x := z + 256) (by omega) (by omega)]
        exact next (z + 256) (by omega) (by omega) 1 (by decide) (by decide) (by omega)
      · rw [cf hneg, ct (hfit _), ei]
        exact next z (by omega) (by omega) 0 (by decide) (by decide) (by omega)
    by_cases hb : (i : Int) < (b.length : Int)
    · rw [ct hb, ct (by omega), ct hb]
      simp only [← hz]
      exact fin
    · have e := getD_past hb
      rw [cf hb]
      simp only [show a.getD i 0 - owed = z by omega]
      exact fin
theorem ref_Sub_ok (x : List Int × List Int × Unit) (y : List Int × Unit) (h : S.ref_Sub x = some y) : ∃ K, ref_Sub K x.1 x.2.1 = some y := by
  unfold S.ref_Sub at h
  split at h <;> cases h
  rename_i hh
  obtain ⟨a, b, _⟩ := x
  obtain ⟨ha, ca, cb, hab, hle⟩ := hh
  simp only at ha ca cb hab hle ⊢
  exact ⟨a.length + 1, by simp only [ref_Sub, ref_Sub_b]; exact ref_sub_loop _ a b ha ca.1 cb.1 hab hle a.length 0 _ [] 0 (by omega) (by omega) rfl ok_nil (by decide) (by decide) (by simp)⟩
end Go.L

/-! RC -/
namespace Go.L
open Go.PM
set_option linter.unusedVariables false
set_option linter.unusedSimpArgs false

/-- ref_Compare: one round of loop 0. -/
def ref_Compare_s0 (κ0 : (List Int) → (List Int) → Int → Option (Int × Unit)) (a : List Int) (b : List Int) (i : Int) : Option (Int × Unit) :=
  cond (decide (0 ≤ i))
    (
      cond (decide (i < (a.length : Int)))
        (
          cond (decide (0 ≤ i))
            (
              cond (decide (i < (a.length : Int)))
                (
                  let z3 := a.getD i.toNat 0
                  cond (decide (i < (b.length : Int)))
                    (
                      cond (decide (0 ≤ i))
                        (
                          cond (decide (i < (b.length : Int)))
                            (
                              let z4 := b.getD i.toNat 0
                              cond (decide (z3 < z4)) (some ((-1 : Int), ()))
                                (
                                  cond (decide (z4 < z3)) (some (1, ())) (κ0 a b (IntKind.i64.wrap (i - 1))))) none) none)
                    (
                      cond (decide (z3 < 0)) (some ((-1 : Int), ()))
                        (
                          cond (decide (0 < z3)) (some (1, ())) (κ0 a b (IntKind.i64.wrap (i - 1)))))) none) none)
        (
          cond (decide (i < (b.length : Int)))
            (
              cond (decide (0 ≤ i))
                (
                  cond (decide (i < (b.length : Int)))
                    (
                      let z7 := b.getD i.toNat 0
                      cond (decide (0 < z7)) (some ((-1 : Int), ()))
                        (
                          cond (decide (z7 < 0)) (some (1, ())) (κ0 a b (IntKind.i64.wrap (i - 1))))) none) none) (κ0 a b (IntKind.i64.wrap (i - 1))))) (some (0, ()))

def ref_Compare_l0 (K : Nat) : Nat → (List Int) → (List Int) → Int → Option (Int × Unit)
  | 0, _, _, _ => none
  | n + 1, a, b, i => ref_Compare_s0 (ref_Compare_l0 K n) a b i

/-- girdleref01.Compare -/
def ref_Compare_b (I0 : (List Int) → (List Int) → Int → Option (Int × Unit)) (a : List Int) (b : List Int) : Option (Int × Unit) :=
  I0 a b (IntKind.i64.wrap ((max (a.length : Int) (b.length : Int)) - 1))

def ref_Compare (K : Nat) (a : List Int) (b : List Int) : Option (Int × Unit) := ref_Compare_b (ref_Compare_l0 K K) a b

def sgn (a b : Int) : Int := if a < b then -1 else if b < a then 1 else 0
def S.ref_Compare (x : List Int × List Int × Unit) : Option (Int × Unit) := if x.1.length ≤ 1000000 ∧ x.2.1.length ≤ 1000000 ∧ ok V8 x.1 ∧ ok V8 x.2.1 then some (sgn (val V8 x.1) (val V8 x.2.1), ()) else none
theorem take_lt {a : List Int} (h : ok V8 a) (i : Nat) : 0 ≤ val V8 (a.take i) ∧ val V8 (a.take i) < V8 ^ i := by
  have h1 : ok V8 (a.take i) := fun x hx => h x (List.mem_of_mem_take hx)
  refine ⟨val_nonneg (by decide) h1, val_lt_zero8 i h1 ?_⟩
  rw [List.length_take]; omega
where
  val_lt_zero8 {l : List Int} (i : Nat) (h : ok V8 l) (hl : l.length ≤ i) : val V8 l < V8 ^ i := by
    have h1 := val_lt (B := V8) (by decide) h
    obtain ⟨d, rfl⟩ : ∃ d, i = l.length + d := ⟨i - l.length, by omega⟩
    rw [Int.pow_add]
    have h4 : (0 : Int) < V8 ^ l.length := Int.pow_pos (by decide)
    have h5 : (0 : Int) < V8 ^ d := Int.pow_pos (by decide)
    have := Int.mul_le_mul_of_nonneg_left (show 1 ≤ V8 ^ d by omega) (Int.le_of_lt h4)
    omega
theorem ref_cmp_loop (K : Nat) (a b : List Int) (ha : a.length ≤ 1000000) (hb : b.length ≤ 1000000) (oa : ok V8 a) (ob : ok V8 b) : ∀ (c n : Nat), c < n → c ≤ 1000000 → val V8 a - val V8 b = val V8 (a.take c) - val V8 (b.take c) → ref_Compare_l0 K n a b ((c : Int) - 1) = some (sgn (val V8 a) (val V8 b), ()) := by
  intro c
  induction c with
  | zero =>
    intro n hn _ hv
    obtain ⟨n, rfl⟩ : ∃ m, n = m + 1 := ⟨n - 1, by omega⟩
    simp only [List.take_zero, val_nil, Int.sub_self] at hv
    simp only [ref_Compare_l0, ref_Compare_s0]
    rw [cf (by omega)]
    unfold sgn
    rw [if_neg (by omega), if_neg (by omega)]
  | succ c ih =>
    intro n hn hc hv
    obtain ⟨n, rfl⟩ : ∃ m, n = m + 1 := ⟨n - 1, by omega⟩
    have ga := getD_ok (B := V8) (by decide) oa c
    have gb := getD_ok (B := V8) (by decide) ob c
    have ta := take_lt oa c
    have tb := take_lt ob c
    have hp : (0 : Int) < V8 ^ c := Int.pow_pos (by decide)
    rw [val_take_succ, val_take_succ] at hv
    have less : a.getD c 0 < b.getD c 0 → sgn (val V8 a) (val V8 b) = -1 := by
      intro h
      have : V8 ^ c * (a.getD c 0 + 1) ≤ V8 ^ c * b.getD c 0 := Int.mul_le_mul_of_nonneg_left (by omega) (by omega)
      rw [Int.mul_add, Int.mul_one] at this
      unfold sgn; rw [if_pos (by omega)]
    have more : b.getD c 0 < a.getD c 0 → sgn (val V8 a) (val V8 b) = 1 := by
      intro h
      have : V8 ^ c * (b.getD c 0 + 1) ≤ V8 ^ c * a.getD c 0 := Int.mul_le_mul_of_nonneg_left (by omega) (by omega)
      rw [Int.mul_add, Int.mul_one] at this
      unfold sgn; rw [if_neg (by omega), if_pos (by omega)]
    have same : a.getD c 0 = b.getD c 0 → ref_Compare_l0 K n a b ((c : Int) - 1) = some (sgn (val V8 a) (val V8 b), ()) := by
      intro h
      rw [h] at hv
      exact ih n (by omega) (by omega) (by omega)
    have e0 : (((c + 1 : Nat) : Int) - 1) = (c : Int) := by omega
    have w1 : IntKind.i64.wrap ((c : Int) - 1) = (c : Int) - 1 := wi64 (by omega) (by omega)
    simp only [ref_Compare_l0, ref_Compare_s0, e0, w1, Int.toNat_natCast]
    rw [ct (by omega)]
    by_cases h1 : (c : Int) < (a.length : Int)
    · rw [ct h1, ct (by omega), ct h1]
      by_cases h2 : (c : Int) < (b.length : Int)
      · rw [ct h2, ct (by omega), ct h2]
        by_cases h3 : a.getD c 0 < b.getD c 0
        · rw [ct h3, less h3]
        · rw [cf h3]
          by_cases h4 : b.getD c 0 < a.getD c 0
          · rw [ct h4, more h4]
          · rw [cf h4]; exact same (by omega)
      · have e := getD_past h2
        rw [e] at less more same
        rw [cf h2]
        by_cases h3 : a.getD c 0 < 0
        · rw [ct h3, less h3]
        · rw [cf h3]
          by_cases h4 : 0 < a.getD c 0
          · rw [ct h4, more h4]
          · rw [cf h4]; exact same (by omega)
    · have e := getD_past h1
      rw [e] at less more same
      rw [cf h1]
      by_cases h2 : (c : Int) < (b.length : Int)
      · rw [ct h2, ct (by omega), ct h2]
        by_cases h3 : 0 < b.getD c 0
        · rw [ct h3, less h3]
        · rw [cf h3]
          by_cases h4 : b.getD c 0 < 0
          · rw [ct h4, more h4]
          · rw [cf h4]; exact same (by omega)
      · rw [cf h2]; exact same (getD_past h2).symm
theorem ref_Compare_ok (x : List Int × List Int × Unit) (y : Int × Unit) (h : S.ref_Compare x = some y) : ∃ K, ref_Compare K x.1 x.2.1 = some y := by
  unfold S.ref_Compare at h
  split at h <;> cases h
  rename_i hh
  obtain ⟨a, b, _⟩ := x
  obtain ⟨ha, hb, oa, ob⟩ := hh
  simp only at ha hb oa ob ⊢
  refine ⟨max a.length b.length + 1, ?_⟩
  simp only [ref_Compare, ref_Compare_b]
  rw [wi64 (by omega) (by omega), show max (a.length : Int) (b.length : Int) - 1 = ((max a.length b.length : Nat) : Int) - 1 by omega]
  exact ref_cmp_loop _ a b ha hb oa ob (max a.length b.length) _ (by omega) (by omega) (by rw [List.take_of_length_le (by omega), List.take_of_length_le (by omega)])
end Go.L

/-! RD -/
namespace Go.L
open Go.PM
set_option linter.unusedVariables false
set_option linter.unusedSimpArgs false

/-- ref_Power: one round of loop 0. -/
def ref_Power_s0 (κ0 : Int → (List Int) → Int → Option ((List Int) × Unit)) (n2 : Int) (out : List Int) (i : Int) : Option ((List Int) × Unit) :=
  cond (decide (i < (n2.tmod 8)))
    (
      let z7 := IntKind.i64.wrap (n2.tdiv 8)
      cond (decide (0 ≤ z7))
        (
          cond (decide (z7 < (out.length : Int)))
            (
              cond (decide (0 ≤ z7))
                (
                  cond (decide (z7 < (out.length : Int)))
                    (
                      κ0 n2 (out.set z7.toNat (IntKind.i64.wrap ((out.getD z7.toNat 0) * 2))) (IntKind.i64.wrap (i + 1))) none) none) none) none) (some (out, ()))

def ref_Power_l0 (K : Nat) : Nat → Int → (List Int) → Int → Option ((List Int) × Unit)
  | 0, _, _, _ => none
  | n + 1, n2, out, i => ref_Power_s0 (ref_Power_l0 K n) n2 out i

/-- girdleref01.Power -/
def ref_Power_b (I0 : Int → (List Int) → Int → Option ((List Int) × Unit)) (n : Int) : Option ((List Int) × Unit) :=
  let z2 := IntKind.i64.wrap ((IntKind.i64.wrap (n.tdiv 8)) + 1)
  cond (decide (0 ≤ z2))
    (
      cond (decide (z2 * 8 ≤ 140737488351232))
        (
          let z3 := (List.replicate z2.toNat 0 : List Int)
          let z4 := IntKind.i64.wrap (n.tdiv 8)
          cond (decide (0 ≤ z4))
            (
              cond (decide (z4 < (z3.length : Int))) (I0 n (z3.set z4.toNat 1) 0) none) none) none) none

def ref_Power (K : Nat) (n : Int) : Option ((List Int) × Unit) := ref_Power_b (ref_Power_l0 K K) n

def S.ref_Power (x : Int × Unit) : Option (List Int × Unit) := if 0 ≤ x.1 ∧ x.1 ≤ 100000 then some (dig 256 (2 ^ x.1.toNat), ()) else none
theorem pow_loop (K N : Nat) (hN : N ≤ 100000) : ∀ (r i n : Nat), i + r = N % 8 → r < n → ref_Power_l0 K n (N : Int) (List.replicate (N / 8) 0 ++ [2 ^ i]) (i : Int) = some (dig 256 (2 ^ N), ()) := by
  have em : ((N : Int).tmod 8) = ((N % 8 : Nat) : Int) := by rw [Int.tmod_eq_emod_of_nonneg (by omega)]; omega
  have ed : IntKind.i64.wrap ((N : Int).tdiv 8) = ((N / 8 : Nat) : Int) := by rw [Int.tdiv_eq_ediv_of_nonneg (by omega), wi64 (by omega) (by omega)]; omega
  intro r
  induction r with
  | zero =>
    intro i n hi hn
    obtain ⟨n, rfl⟩ : ∃ m, n = m + 1 := ⟨n - 1, by omega⟩
    simp only [ref_Power_l0, ref_Power_s0]
    rw [em, cf (by omega)]
    congr 2
    have hi' : i = N % 8 := by omega
    have hi8 : i < 8 := by omega
    have hp : (0 : Int) < 2 ^ i ∧ (2 : Int) ^ i < 256 := by
      have : i = 0 ∨ i = 1 ∨ i = 2 ∨ i = 3 ∨ i = 4 ∨ i = 5 ∨ i = 6 ∨ i = 7 := by omega
      rcases this with h | h | h | h | h | h | h | h <;> subst h <;> decide
    have ho : ok V8 (List.replicate (N / 8) 0 ++ [2 ^ i]) := ok_append.2 ⟨ok_zeros (by decide) _, ok_cons.2 ⟨⟨by omega, hp.2⟩, ok_nil⟩⟩
    have hc : can8 (List.replicate (N / 8) 0 ++ [2 ^ i]) := ⟨ho, trimL_snoc (by omega)⟩
    have hv : val V8 (List.replicate (N / 8) 0 ++ [2 ^ i]) = ((2 ^ N : Nat) : Int) := by
      rw [val_append, val_zeros, List.length_replicate]
      simp only [val_cons, val_nil, Int.mul_zero, Int.add_zero, Int.zero_add]
      have e : V8 = 2 ^ 8 := rfl
      rw [e, ← Int.pow_mul, ← Int.pow_add, show 8 * (N / 8) + i = N by omega]
      simp
    have := can8_eq hc
    rw [hv, Int.toNat_natCast] at this
    exact this
  | succ r ih =>
    intro i n hi hn
    obtain ⟨n, rfl⟩ : ∃ m, n = m + 1 := ⟨n - 1, by omega⟩
    have hi8 : i < 7 := by omega
    have hp : (0 : Int) < 2 ^ i ∧ (2 : Int) ^ i < 256 := by
      have : i = 0 ∨ i = 1 ∨ i = 2 ∨ i = 3 ∨ i = 4 ∨ i = 5 ∨ i = 6 := by omega
      rcases this with h | h | h | h | h | h | h <;> subst h <;> decide
    have hlen : (List.replicate (N / 8) (0 : Int) ++ [2 ^ i]).length = N / 8 + 1 := by simp
    have hget : (List.replicate (N / 8) (0 : Int) ++ [2 ^ i]).getD (N / 8) 0 = 2 ^ i := by simp [List.getD]
    have hset : ∀ x : Int, (List.replicate (N / 8) (0 : Int) ++ [2 ^ i]).set (N / 8) x = List.replicate (N / 8) 0 ++ [x] := fun x => by
      rw [List.set_append_right _ _ (by simp)]; simp
    simp only [ref_Power_l0, ref_Power_s0]
    rw [em, ed, ct (by omega), ct (by omega), ct (by omega), ct (by omega), ct (by omega), Int.toNat_natCast, hget, hset, wi64 (by omega) (by omega), wi64 (x := (i : Int) + 1) (by omega) (by omega), show ((i : Int) + 1) = ((i + 1 : Nat) : Int) by omega, ← Int.pow_succ]
    exact ih (i + 1) n (by omega) (by omega)
theorem ref_Power_ok (x : Int × Unit) (y : List Int × Unit) (h : S.ref_Power x = some y) : ∃ K, ref_Power K x.1 = some y := by
  unfold S.ref_Power at h
  split at h <;> cases h
  rename_i hh
  obtain ⟨n, _⟩ := x
  obtain ⟨h0, h1⟩ := hh
  simp only at h0 h1 ⊢
  obtain ⟨N, rfl⟩ : ∃ N : Nat, n = N := ⟨n.toNat, by omega⟩
  refine ⟨N % 8 + 1, ?_⟩
  have ed : IntKind.i64.wrap ((N : Int).tdiv 8) = ((N / 8 : Nat) : Int) := by rw [Int.tdiv_eq_ediv_of_nonneg (by omega), wi64 (by omega) (by omega)]; omega
  simp only [ref_Power, ref_Power_b]
  have e1 : IntKind.i64.wrap (((N / 8 : Nat) : Int) + 1) = ((N / 8 + 1 : Nat) : Int) := by rw [wi64 (by omega) (by omega)]; omega
  have hset : (List.replicate (N / 8 + 1) (0 : Int)).set (N / 8) 1 = List.replicate (N / 8) 0 ++ [2 ^ 0] := by
    rw [show List.replicate (N / 8 + 1) (0 : Int) = List.replicate (N / 8) 0 ++ [0] from List.replicate_succ', List.set_append_right _ _ (by simp)]; simp
  rw [ed, e1, ct (by omega), ct (by omega), ct (by omega), Int.toNat_natCast, Int.toNat_natCast, ct (by simp; omega), hset]
  exact pow_loop _ N (by omega) (N % 8) 0 _ (by omega) (by omega)
end Go.L

/-! RE -/
namespace Go.L
open Go.PM
set_option linter.unusedVariables false
set_option linter.unusedSimpArgs false

theorem can8_low {a : List Int} (h : can8 a) (hne : a ≠ []) : V8 ^ (a.length - 1) ≤ val V8 a := by
  have aux : ∀ (n : Nat) (a : List Int), a.length = n + 1 → ok V8 a → trimL a = a → V8 ^ n ≤ val V8 a := by
    intro n
    induction n with
    | zero =>
      intro a hl ho ht
      have := trimL_pos (B := V8) (by decide) ho ht (by intro e; subst e; simp at hl)
      simp; omega
    | succ n ih =>
      intro a hl ho ht
      match a, hl with
      | x :: a, hl =>
        rw [ok_cons] at ho
        simp only [trimL] at ht
        have hta : trimL a = a := by
          split at ht
          · split at ht
            · cases ht
            · have := (List.cons.inj ht).2; subst this; simp at hl
          · rename_i hq; rw [hq]; exact (List.cons.inj ht).2
        have := ih a (by simpa using hl) ho.2 hta
        have h2 : V8 * V8 ^ n ≤ V8 * val V8 a := Int.mul_le_mul_of_nonneg_left this (by decide)
        rw [Int.pow_succ, val_cons, Int.mul_comm]
        omega
  refine aux (a.length - 1) a ?_ h.1 h.2
  have : a.length ≠ 0 := by intro e; exact hne (List.eq_nil_of_length_eq_zero e)
  omega

/-- ref_Back: one round of loop 1. -/
def ref_Back_s1 (κ0 : (List Int) → (List Int) → Int → Option ((List Int) × Unit)) (κ1 : (List Int) → (List Int) → Int → Int → Int → Option ((List Int) × Unit)) (a : List Int) (out : List Int) (i : Int) (n2 : Int) (k : Int) : Option ((List Int) × Unit) :=
  cond (decide (0 ≤ k))
    (
      let z1 := IntKind.i64.wrap (n2 * 256)
      cond (decide ((IntKind.i64.wrap (i + k)) < (a.length : Int)))
        (
          let z3 := IntKind.i64.wrap (i + k)
          cond (decide (0 ≤ z3))
            (
              cond (decide (z3 < (a.length : Int))) (κ1 a out i (IntKind.i64.wrap (z1 + (a.getD z3.toNat 0))) (IntKind.i64.wrap (k - 1))) none) none) (κ1 a out i z1 (IntKind.i64.wrap (k - 1))))
    (
      let z8 := IntKind.u32.wrap n2
      cond (decide ((out.length + ([z8]).length) * 4 ≤ 140737488351232)) (κ0 a (out ++ ([z8])) (IntKind.i64.wrap (i + 4))) none)

def ref_Back_l1 (K : Nat) (κ0 : (List Int) → (List Int) → Int → Option ((List Int) × Unit)) : Nat → (List Int) → (List Int) → Int → Int → Int → Option ((List Int) × Unit)
  | 0, _, _, _, _, _ => none
  | n + 1, a, out, i, n2, k => ref_Back_s1 κ0 (ref_Back_l1 K κ0 n) a out i n2 k

/-- ref_Back: one round of loop 0. -/
def ref_Back_s0 (I1 : (List Int) → (List Int) → Int → Int → Int → Option ((List Int) × Unit)) (κ0 : (List Int) → (List Int) → Int → Option ((List Int) × Unit)) (a : List Int) (out : List Int) (i : Int) : Option ((List Int) × Unit) :=
  cond (decide (i < (a.length : Int))) (I1 a out i 0 3) (some (out, ()))

def ref_Back_l0 (K : Nat) : Nat → (List Int) → (List Int) → Int → Option ((List Int) × Unit)
  | 0, _, _, _ => none
  | n + 1, a, out, i => ref_Back_s0 (ref_Back_l1 K (ref_Back_l0 K n) K) (ref_Back_l0 K n) a out i

/-- girdleref01.Back -/
def ref_Back_b (I0 : (List Int) → (List Int) → Int → Option ((List Int) × Unit)) (a : List Int) : Option ((List Int) × Unit) :=
  I0 a [] 0

def ref_Back (K : Nat) (a : List Int) : Option ((List Int) × Unit) := ref_Back_b (ref_Back_l0 K K) a

def S.ref_Back (x : List Int × Unit) : Option (List Int × Unit) := if x.1.length ≤ 1000000 ∧ can8 x.1 then some (dig 4294967296 (val V8 x.1).toNat, ()) else none
theorem back_inner (K : Nat) (κ0 : (List Int) → (List Int) → Int → Option ((List Int) × Unit)) (a out : List Int) (i : Nat) (n : Nat) (hn : 5 ≤ n) (oa : ok V8 a) (hl : out.length ≤ 4000000) (hi : i ≤ 1000004) (ha : a.length ≤ 1000000) :
    ref_Back_l1 K κ0 n a out (i : Int) 0 3 = κ0 a (out ++ [((a.getD (i + 3) 0 * 256 + a.getD (i + 2) 0) * 256 + a.getD (i + 1) 0) * 256 + a.getD i 0]) ((i : Int) + 4) := by
  obtain ⟨n, rfl⟩ : ∃ m, n = m + 5 := ⟨n - 5, by omega⟩
  have step : ∀ (n k : Nat) (y : Int), 0 ≤ y → y < 16777216 → k ≤ 3 → ref_Back_l1 K κ0 (n + 1) a out (i : Int) y (k : Int) = ref_Back_l1 K κ0 n a out (i : Int) (y * 256 + a.getD (i + k) 0) ((k : Int) - 1) := by
    intro n k y h0 h1 hk
    have ga := getD_ok (B := V8) (by decide) oa (i + k)
    simp only [V8] at ga
    have w1 : IntKind.i64.wrap ((i : Int) + (k : Int)) = ((i + k : Nat) : Int) := by rw [wi64 (by omega) (by omega)]; omega
    have w2 : IntKind.i64.wrap (y * 256) = y * 256 := wi64 (by omega) (by omega)
    have w3 : IntKind.i64.wrap ((k : Int) - 1) = (k : Int) - 1 := wi64 (by omega) (by omega)
    simp only [ref_Back_l1, ref_Back_s1, w1, w2, w3, Int.toNat_natCast]
    rw [ct (by omega)]
    by_cases h : ((i + k : Nat) : Int) < (a.length : Int)
    · rw [ct h, ct (by omega), ct h, wi64 (by omega) (by omega)]
    · rw [cf h, getD_past h, Int.add_zero]
  have g0 := getD_ok (B := V8) (by decide) oa i
  have g1 := getD_ok (B := V8) (by decide) oa (i + 1)
  have g2 := getD_ok (B := V8) (by decide) oa (i + 2)
  have g3 := getD_ok (B := V8) (by decide) oa (i + 3)
  simp only [V8] at g0 g1 g2 g3
  have s3 := step (n + 4) 3 0 (by decide) (by decide) (by decide)
  have s2 := step (n + 3) 2 (a.getD (i + 3) 0) (by omega) (by omega) (by decide)
  have s1 := step (n + 2) 1 (a.getD (i + 3) 0 * 256 + a.getD (i + 2) 0) (by omega) (by omega) (by decide)
  have s0 := step (n + 1) 0 ((a.getD (i + 3) 0 * 256 + a.getD (i + 2) 0) * 256 + a.getD (i + 1) 0) (by omega) (by omega) (by decide)
  simp only [Int.zero_mul, Int.zero_add] at s3
  have e3 : ((3 : Nat) : Int) = 3 := rfl
  have e32 : ((3 : Nat) : Int) - 1 = ((2 : Nat) : Int) := rfl
  have e21 : ((2 : Nat) : Int) - 1 = ((1 : Nat) : Int) := rfl
  have e10 : ((1 : Nat) : Int) - 1 = ((0 : Nat) : Int) := rfl
  rw [e32] at s3
  rw [e21] at s2
  rw [e10] at s1
  rw [← e3, s3, s2, s1, s0]
  simp only [Nat.add_zero]
  simp only [ref_Back_l1, ref_Back_s1]
  rw [cf (by decide), ct (by simp; omega), wu32, Int.emod_eq_of_lt (by omega) (by omega), wi64 (by omega) (by omega)]
theorem back_ring (p v q0 q1 q2 q3 : Int) : v + p * (((q3 * 256 + q2) * 256 + q1) * 256 + q0) = v + p * q0 + p * V8 * q1 + p * V8 * V8 * q2 + p * V8 * V8 * V8 * q3 := by
  simp only [V8, Int.mul_add, Int.add_mul, Int.mul_assoc, Int.mul_comm, Int.mul_left_comm, Int.reduceMul]
  omega
theorem back_loop8 (K : Nat) (hK : 5 ≤ K) (a : List Int) (ha : a.length ≤ 1000000) (ca : can8 a) : ∀ (r c n : Nat) (out : List Int), a.length ≤ 4 * (c + r) → 4 * c < a.length + 4 → r < n → out.length = c → ok W out → val W out = val V8 (a.take (4 * c)) → ref_Back_l0 K n a out ((4 * c : Nat) : Int) = some (dig 4294967296 (val V8 a).toNat, ()) := by
  have fin : ∀ (c n : Nat) (out : List Int), a.length ≤ 4 * c → 4 * c < a.length + 4 → out.length = c → ok W out → val W out = val V8 (a.take (4 * c)) → ref_Back_l0 K (n + 1) a out ((4 * c : Nat) : Int) = some (dig 4294967296 (val V8 a).toNat, ()) := by
    intro c n out h1 h2 hl ho hv
    simp only [ref_Back_l0, ref_Back_s0]
    rw [cf (by omega)]
    rw [List.take_of_length_le h1] at hv
    have hc : can out := by
      refine can_of_top ho ?_
      by_cases h0 : out = []
      · exact .inl h0
      · refine .inr fun hz => ?_
        have hlen : out.length ≠ 0 := by intro e; exact h0 (List.eq_nil_of_length_eq_zero e)
        have h3 : val W out < W ^ (out.length - 1) := val_lt_of_zero _ ho (fun j hj => by
          rcases (by omega : j = out.length - 1 ∨ out.length ≤ j) with e | e
          · rw [e]; exact hz
          · exact zero_of_lt ho (val_lt (by decide) ho) e)
        have hane : a ≠ [] := by intro e; subst e; simp at h2; omega
        have h4 := can8_low ca hane
        have h5 : V8 ^ (a.length - 1) = W ^ (out.length - 1) * V8 ^ (a.length - 1 - 4 * (out.length - 1)) := by
          have e : W = V8 ^ 4 := rfl
          rw [e, ← Int.pow_mul, ← Int.pow_add]
          congr 1; omega
        have h6 : (0 : Int) < V8 ^ (a.length - 1 - 4 * (out.length - 1)) := Int.pow_pos (by decide)
        have := Int.mul_le_mul_of_nonneg_left (show 1 ≤ V8 ^ (a.length - 1 - 4 * (out.length - 1)) by omega) (Int.le_of_lt (Wpos (out.length - 1)))
        omega
    have := can_eq hc
    rw [hv] at this
    rw [← this]
  intro r
  induction r with
  | zero =>
    intro c n out h1 h2 hn hl ho hv
    obtain ⟨n, rfl⟩ : ∃ m, n = m + 1 := ⟨n - 1, by omega⟩
    exact fin c n out (by omega) h2 hl ho hv
  | succ r ih =>
    intro c n out h1 h2 hn hl ho hv
    obtain ⟨n, rfl⟩ : ∃ m, n = m + 1 := ⟨n - 1, by omega⟩
    by_cases hlt : 4 * c < a.length
    · have g0 := getD_ok (B := V8) (by decide) ca.1 (4 * c)
      have g1 := getD_ok (B := V8) (by decide) ca.1 (4 * c + 1)
      have g2 := getD_ok (B := V8) (by decide) ca.1 (4 * c + 2)
      have g3 := getD_ok (B := V8) (by decide) ca.1 (4 * c + 3)
      simp only [V8] at g0 g1 g2 g3
      simp only [ref_Back_l0, ref_Back_s0]
      rw [ct (by omega), back_inner K _ a out (4 * c) K hK ca.1 (by omega) (by omega) ha, show (((4 * c : Nat) : Int) + 4) = ((4 * (c + 1) : Nat) : Int) by omega]
      refine ih (c + 1) n _ (by omega) (by omega) (by omega) (by simp [hl]) (ok_append.2 ⟨ho, ok_cons.2 ⟨⟨by omega, by simp only [W]; omega⟩, ok_nil⟩⟩) ?_
      rw [val_append, hv, hl, show 4 * (c + 1) = 4 * c + 1 + 1 + 1 + 1 by omega, val_take_succ, val_take_succ, val_take_succ, val_take_succ]
      have e : W ^ c = V8 ^ (4 * c) := by rw [Int.pow_mul]; rfl
      rw [e, Int.pow_succ V8 (4 * c + 1 + 1), Int.pow_succ V8 (4 * c + 1), Int.pow_succ V8 (4 * c)]
      simp only [val_cons, val_nil, Int.mul_zero, Int.add_zero]
      generalize V8 ^ (4 * c) = p
      exact back_ring p _ _ _ _ _
    · exact fin c n out (by omega) h2 hl ho hv
theorem ref_Back_ok (x : List Int × Unit) (y : List Int × Unit) (h : S.ref_Back x = some y) : ∃ K, ref_Back K x.1 = some y := by
  unfold S.ref_Back at h
  split at h <;> cases h
  rename_i hh
  exact ⟨x.1.length + 5, by simp only [ref_Back, ref_Back_b]; exact back_loop8 _ (by omega) x.1 hh.1 hh.2 x.1.length 0 _ [] (by omega) (by omega) (by omega) rfl ok_nil rfl⟩
end Go.L

/-! RF -/
namespace Go.L
open Go.PM
set_option linter.unusedVariables false
set_option linter.unusedSimpArgs false

/-- ref_Mul: one round of loop 2. -/
def ref_Mul_s2 (κ0 : (List Int) → (List Int) → (List Int) → Int → Option ((List Int) × Unit)) (κ1 : (List Int) → (List Int) → (List Int) → Int → Int → Option ((List Int) × Unit)) (κ2 : (List Int) → (List Int) → (List Int) → Int → Int → Option ((List Int) × Unit)) (a : List Int) (b : List Int) (out : List Int) (i : Int) (k : Int) : Option ((List Int) × Unit) :=
  cond (decide ((IntKind.i64.wrap (k + 1)) < (out.length : Int)))
    (
      let z13 := IntKind.i64.wrap (k + 1)
      cond (decide (0 ≤ z13))
        (
          cond (decide (z13 < (out.length : Int)))
            (
              cond (decide (0 ≤ k))
                (
                  cond (decide (k < (out.length : Int)))
                    (
                      cond (decide (0 ≤ z13))
                        (
                          cond (decide (z13 < (out.length : Int)))
                            (
                              let z18 := out.set z13.toNat (IntKind.i64.wrap ((out.getD z13.toNat 0) + (IntKind.i64.wrap ((out.getD k.toNat 0).tdiv 256))))
                              cond (decide (0 ≤ k))
                                (
                                  cond (decide (k < (z18.length : Int)))
                                    (
                                      cond (decide (0 ≤ k))
                                        (
                                          cond (decide (k < (z18.length : Int))) (κ2 a b (z18.set k.toNat ((z18.getD k.toNat 0).tmod 256)) i (IntKind.i64.wrap (k + 1))) none) none) none) none) none) none) none) none) none) none) (κ0 a b out (IntKind.i64.wrap (i + 1)))

def ref_Mul_l2 (K : Nat) (κ0 : (List Int) → (List Int) → (List Int) → Int → Option ((List Int) × Unit)) (κ1 : (List Int) → (List Int) → (List Int) → Int → Int → Option ((List Int) × Unit)) : Nat → (List Int) → (List Int) → (List Int) → Int → Int → Option ((List Int) × Unit)
  | 0, _, _, _, _, _ => none
  | n + 1, a, b, out, i, k => ref_Mul_s2 κ0 κ1 (ref_Mul_l2 K κ0 κ1 n) a b out i k

/-- ref_Mul: one round of loop 1. -/
def ref_Mul_s1 (I2 : (List Int) → (List Int) → (List Int) → Int → Int → Option ((List Int) × Unit)) (κ0 : (List Int) → (List Int) → (List Int) → Int → Option ((List Int) × Unit)) (κ1 : (List Int) → (List Int) → (List Int) → Int → Int → Option ((List Int) × Unit)) (a : List Int) (b : List Int) (out : List Int) (i : Int) (k : Int) : Option ((List Int) × Unit) :=
  cond (decide (k < (b.length : Int)))
    (
      let z4 := IntKind.i64.wrap (i + k)
      cond (decide (0 ≤ z4))
        (
          cond (decide (z4 < (out.length : Int)))
            (
              cond (decide (0 ≤ i))
                (
                  cond (decide (i < (a.length : Int)))
                    (
                      cond (decide (0 ≤ k))
                        (
                          cond (decide (k < (b.length : Int)))
                            (
                              cond (decide (0 ≤ z4))
                                (
                                  cond (decide (z4 < (out.length : Int)))
                                    (
                                      κ1 a b (out.set z4.toNat (IntKind.i64.wrap ((out.getD z4.toNat 0) + (IntKind.i64.wrap ((a.getD i.toNat 0) * (b.getD k.toNat 0)))))) i (IntKind.i64.wrap (k + 1))) none) none) none) none) none) none) none) none) (I2 a b out i 0)

def ref_Mul_l1 (K : Nat) (κ0 : (List Int) → (List Int) → (List Int) → Int → Option ((List Int) × Unit)) : Nat → (List Int) → (List Int) → (List Int) → Int → Int → Option ((List Int) × Unit)
  | 0, _, _, _, _, _ => none
  | n + 1, a, b, out, i, k => ref_Mul_s1 (ref_Mul_l2 K κ0 (ref_Mul_l1 K κ0 n) K) κ0 (ref_Mul_l1 K κ0 n) a b out i k

/-- ref_Mul: one round of loop 0. -/
def ref_Mul_s0 (I1 : (List Int) → (List Int) → (List Int) → Int → Int → Option ((List Int) × Unit)) (κ0 : (List Int) → (List Int) → (List Int) → Int → Option ((List Int) × Unit)) (a : List Int) (b : List Int) (out : List Int) (i : Int) : Option ((List Int) × Unit) :=
  cond (decide (i < (a.length : Int))) (I1 a b out i 0)
    (
      (S.ref_Cut (out, ())).bind fun z24 =>
      some (z24.1, ()))

def ref_Mul_l0 (K : Nat) : Nat → (List Int) → (List Int) → (List Int) → Int → Option ((List Int) × Unit)
  | 0, _, _, _, _ => none
  | n + 1, a, b, out, i => ref_Mul_s0 (ref_Mul_l1 K (ref_Mul_l0 K n) K) (ref_Mul_l0 K n) a b out i

/-- girdleref01.Mul -/
def ref_Mul_b (I0 : (List Int) → (List Int) → (List Int) → Int → Option ((List Int) × Unit)) (a : List Int) (b : List Int) : Option ((List Int) × Unit) :=
  let z2 := IntKind.i64.wrap ((IntKind.i64.wrap ((a.length : Int) + (b.length : Int))) + 1)
  cond (decide (0 ≤ z2))
    (
      cond (decide (z2 * 8 ≤ 140737488351232)) (I0 a b (List.replicate z2.toNat 0 : List Int) 0) none) none

def ref_Mul (K : Nat) (a : List Int) (b : List Int) : Option ((List Int) × Unit) := ref_Mul_b (ref_Mul_l0 K K) a b


def S.ref_Mul (x : List Int × List Int × Unit) : Option (List Int × Unit) := if x.1.length ≤ 1000000 ∧ x.2.1.length ≤ 1000000 ∧ ok V8 x.1 ∧ ok V8 x.2.1 then some (dig 256 (val V8 x.1 * val V8 x.2.1).toNat, ()) else none

theorem ok_of_getD {B : Int} {a : List Int} (h : ∀ j, j < a.length → 0 ≤ a.getD j 0 ∧ a.getD j 0 < B) : ok B a := by
  intro x hx
  obtain ⟨j, hj, rfl⟩ := List.mem_iff_getElem.1 hx
  have := h j hj
  simpa [List.getD, hj] using this

theorem ref_mul_carry (K : Nat) (κ0 : (List Int) → (List Int) → (List Int) → Int → Option ((List Int) × Unit)) (κ1 : (List Int) → (List Int) → (List Int) → Int → Int → Option ((List Int) × Unit)) (a b : List Int) (i : Nat) (hi : i ≤ 2000000) :
    ∀ (r k n : Nat) (out : List Int), k + r + 1 = out.length → r < n → out.length ≤ 3000000 → (∀ j, 0 ≤ out.getD j 0) → (∀ j, j < k → out.getD j 0 < 256) → (∀ j, k < j → out.getD j 0 ≤ 70000) → out.getD k 0 ≤ 71000 → val V8 out < V8 ^ out.length →
    ∃ out', ref_Mul_l2 K κ0 κ1 n a b out (i : Int) (k : Int) = κ0 a b out' ((i + 1 : Nat) : Int) ∧ out'.length = out.length ∧ ok V8 out' ∧ val V8 out' = val V8 out := by
  intro r
  induction r with
  | zero =>
    intro k n out hk hn hl h0 hlo hhi hc hv
    obtain ⟨n, rfl⟩ : ∃ m, n = m + 1 := ⟨n - 1, by omega⟩
    simp only [ref_Mul_l2, ref_Mul_s2]
    rw [wi64 (by omega) (by omega), cf (by omega), wi64 (by omega) (by omega), show ((i : Int) + 1) = ((i + 1 : Nat) : Int) by omega]
    refine ⟨out, rfl, rfl, ok_of_getD fun j hj => ⟨h0 j, ?_⟩, rfl⟩
    by_cases hjk : j < k
    · exact hlo j hjk
    · have e : j = k := by omega
      subst e
      have h1 := val_take_succ (B := V8) out j
      rw [List.take_of_length_le (by omega)] at h1
      have h2 : 0 ≤ val V8 (out.take j) := val_nonneg (by decide) (ok_of_getD (B := V8) fun m hm => by
        have hm' : m < j := by simp at hm; omega
        have : (out.take j).getD m 0 = out.getD m 0 := by simp [List.getD, List.getElem?_take, hm']
        rw [this]; exact ⟨h0 m, hlo m hm'⟩)
      rw [← hk, Nat.add_zero, Int.pow_succ] at hv
      have h3 : (0 : Int) < V8 ^ j := Int.pow_pos (by decide)
      refine Int.lt_of_mul_lt_mul_left (a := V8 ^ j) ?_ (Int.le_of_lt h3)
      show V8 ^ j * out.getD j 0 < V8 ^ j * V8
      omega
  | succ r ih =>
    intro k n out hk hn hl h0 hlo hhi hc hv
    obtain ⟨n, rfl⟩ : ∃ m, n = m + 1 := ⟨n - 1, by omega⟩
    have g0 := h0 k
    have g1 := h0 (k + 1)
    have g2 := hhi (k + 1) (by omega)
    simp only [ref_Mul_l2, ref_Mul_s2, Int.toNat_natCast]
    have ek : IntKind.i64.wrap ((k : Int) + 1) = ((k + 1 : Nat) : Int) := by rw [wi64 (by omega) (by omega)]; omega
    rw [ek]
    simp only [Int.toNat_natCast, List.length_set]
    rw [ct (by omega), ct (by omega), ct (by omega), ct (by omega), ct (by omega), ct (by omega), ct (by omega), ct (by omega), ct (by omega), ct (by omega), ct (by omega)]
    rw [getD_set_ne (by omega), td256 g0, tm256 g0, wi64 (show -9223372036854775808 ≤ out.getD k 0 / 256 by omega) (by omega), wi64 (show -9223372036854775808 ≤ out.getD (k + 1) 0 + out.getD k 0 / 256 by omega) (by omega)]
    obtain ⟨o2, ho2⟩ : ∃ o2, o2 = (out.set (k + 1) (out.getD (k + 1) 0 + out.getD k 0 / 256)).set k (out.getD k 0 % 256) := ⟨_, rfl⟩
    have hv2 : val V8 o2 = val V8 out := by
      rw [ho2, val_set _ _ _ (by simp; omega), val_set _ _ _ (by omega), getD_set_ne (by omega), Int.pow_succ]
      have : V8 ^ k * V8 * (out.getD (k + 1) 0 + out.getD k 0 / 256 - out.getD (k + 1) 0) + V8 ^ k * (out.getD k 0 % 256 - out.getD k 0) = 0 := by
        rw [Int.mul_assoc, ← Int.mul_add]
        rw [show V8 * (out.getD (k + 1) 0 + out.getD k 0 / 256 - out.getD (k + 1) 0) + (out.getD k 0 % 256 - out.getD k 0) = 0 by simp only [V8]; omega, Int.mul_zero]
      omega
    have hl2 : o2.length = out.length := by rw [ho2]; simp
    have e1 : o2.getD k 0 = out.getD k 0 % 256 := by rw [ho2, getD_set_same (by simp; omega)]
    have e2 : o2.getD (k + 1) 0 = out.getD (k + 1) 0 + out.getD k 0 / 256 := by rw [ho2, getD_set_ne (by omega), getD_set_same (by omega)]
    have e3 : ∀ j, j ≠ k → j ≠ k + 1 → o2.getD j 0 = out.getD j 0 := fun j h1 h2 => by rw [ho2, getD_set_ne (by omega), getD_set_ne (by omega)]
    rw [← ho2]
    obtain ⟨out', q1, q2, q3, q4⟩ := ih (k + 1) n o2 (by omega) (by omega) (by omega)
      (fun j => by
        by_cases h1 : j = k
        · subst h1; omega
        · by_cases h2 : j = k + 1
          · subst h2; omega
          · rw [e3 j h1 h2]; exact h0 j)
      (fun j hj => by
        by_cases h1 : j = k
        · subst h1; omega
        · rw [e3 j h1 (by omega)]; exact hlo j (by omega))
      (fun j hj => by rw [e3 j (by omega) (by omega)]; exact hhi j (by omega))
      (by omega) (by rw [hv2, hl2]; exact hv)
    exact ⟨out', q1, q2.trans hl2, q3, q4.trans hv2⟩

theorem mul8_in {x y : Int} (hx : 0 ≤ x) (hx' : x < 256) (hy : 0 ≤ y) (hy' : y < 256) : 0 ≤ x * y ∧ x * y ≤ 65025 := by
  refine ⟨Int.mul_nonneg hx hy, ?_⟩
  have := Int.mul_le_mul (show x ≤ 255 by omega) (show y ≤ 255 by omega) hy (by decide)
  omega

theorem ref_mul_in (K : Nat) (κ0 : (List Int) → (List Int) → (List Int) → Int → Option ((List Int) × Unit)) (a b : List Int) (ha : a.length ≤ 1000000) (hb : b.length ≤ 1000000) (oa : ok V8 a) (ob : ok V8 b) (i : Nat) (hi : i < a.length) (hK : a.length + b.length + 1 < K) (out0 : List Int) (hb0 : val V8 out0 + V8 ^ i * (a.getD i 0 * val V8 b) < V8 ^ (a.length + b.length + 1)) :
    ∀ (r k n : Nat) (out : List Int), k + r = b.length → r < n → out.length = a.length + b.length + 1 → (∀ j, 0 ≤ out.getD j 0) → (∀ j, out.getD j 0 ≤ 65535) → (∀ j, i + k ≤ j → out.getD j 0 < 256) →
    val V8 out = val V8 out0 + V8 ^ i * (a.getD i 0 * val V8 (b.take k)) →
    ∃ out', ref_Mul_l1 K κ0 n a b out (i : Int) (k : Int) = κ0 a b out' ((i + 1 : Nat) : Int) ∧ out'.length = a.length + b.length + 1 ∧ ok V8 out' ∧ val V8 out' = val V8 out0 + V8 ^ i * (a.getD i 0 * val V8 b) := by
  intro r
  induction r with
  | zero =>
    intro k n out hk hn hl h0 h1 h2 hv
    obtain ⟨n, rfl⟩ : ∃ m, n = m + 1 := ⟨n - 1, by omega⟩
    rw [List.take_of_length_le (by omega)] at hv
    simp only [ref_Mul_l1, ref_Mul_s1]
    rw [cf (by omega)]
    have hc := h1 0
    obtain ⟨out', q1, q2, q3, q4⟩ := ref_mul_carry K κ0 (ref_Mul_l1 K κ0 n) a b i (by omega) (a.length + b.length) 0 K out (by omega) (by omega) (by omega) h0 (fun j hj => by omega) (fun j _ => by have := h1 j; omega) (by omega) (by rw [hl, hv]; exact hb0)
    exact ⟨out', q1, q2.trans hl, q3, q4.trans hv⟩
  | succ r ih =>
    intro k n out hk hn hl h0 h1 h2 hv
    obtain ⟨n, rfl⟩ : ∃ m, n = m + 1 := ⟨n - 1, by omega⟩
    have ga := getD_ok (B := V8) (by decide) oa i
    have gb := getD_ok (B := V8) (by decide) ob k
    simp only [V8] at ga gb
    have hm := mul8_in ga.1 ga.2 gb.1 gb.2
    have g0 := h0 (i + k)
    have g2 := h2 (i + k) (Nat.le_refl _)
    simp only [ref_Mul_l1, ref_Mul_s1, Int.toNat_natCast]
    have eik : IntKind.i64.wrap ((i : Int) + (k : Int)) = ((i + k : Nat) : Int) := by rw [wi64 (by omega) (by omega)]; omega
    rw [eik]
    simp only [Int.toNat_natCast]
    rw [ct (by omega), ct (by omega), ct (by omega), ct (by omega), ct (by omega), ct (by omega), ct (by omega), ct (by omega), ct (by omega)]
    rw [wi64 (show -9223372036854775808 ≤ a.getD i 0 * b.getD k 0 by omega) (by omega), wi64 (show -9223372036854775808 ≤ out.getD (i + k) 0 + a.getD i 0 * b.getD k 0 by omega) (by omega), wi64 (show -9223372036854775808 ≤ (k : Int) + 1 by omega) (by omega), show ((k : Int) + 1) = ((k + 1 : Nat) : Int) by omega]
    refine ih (k + 1) n _ (by omega) (by omega) (by simpa using hl) (fun j => ?_) (fun j => ?_) (fun j hj => ?_) ?_
    · by_cases e : i + k = j
      · subst e; rw [getD_set_same (by omega)]; omega
      · rw [getD_set_ne e]; exact h0 j
    · by_cases e : i + k = j
      · subst e; rw [getD_set_same (by omega)]; omega
      · rw [getD_set_ne e]; exact h1 j
    · rw [getD_set_ne (by omega)]; exact h2 j (by omega)
    · rw [val_set _ _ _ (by omega), hv, val_take_succ]
      have e2 : V8 ^ (i + k) * (out.getD (i + k) 0 + a.getD i 0 * b.getD k 0 - out.getD (i + k) 0) = V8 ^ i * (a.getD i 0 * (V8 ^ k * b.getD k 0)) := by
        rw [show out.getD (i + k) 0 + a.getD i 0 * b.getD k 0 - out.getD (i + k) 0 = a.getD i 0 * b.getD k 0 by omega, Int.pow_add, Int.mul_assoc, ← Int.mul_assoc (V8 ^ k), Int.mul_comm (V8 ^ k), Int.mul_assoc (a.getD i 0)]
      rw [e2, Int.mul_add, Int.mul_add]
      omega

theorem ok_take {B : Int} {a : List Int} (h : ok B a) (n : Nat) : ok B (a.take n) := fun x hx => h x (List.mem_of_mem_take hx)
theorem ok_drop {B : Int} {a : List Int} (h : ok B a) (n : Nat) : ok B (a.drop n) := fun x hx => h x (List.mem_of_mem_drop hx)

theorem mul8_bound {a b : List Int} (oa : ok V8 a) (ob : ok V8 b) (i : Nat) : val V8 (a.take i) * val V8 b < V8 ^ (a.length + b.length + 1) := by
  have h1 : val V8 (a.take i) ≤ val V8 a := by
    have := val_append (B := V8) (a := a.take i) (b := a.drop i)
    rw [List.take_append_drop] at this
    have h2 : 0 ≤ val V8 (a.drop i) := val_nonneg (by decide) (ok_drop oa i)
    have h3 : (0 : Int) ≤ V8 ^ (a.take i).length := Int.le_of_lt (Int.pow_pos (by decide))
    have := Int.mul_nonneg h3 h2
    omega
  have la : val V8 a < V8 ^ a.length := val_lt (by decide) oa
  have lb : val V8 b < V8 ^ b.length := val_lt (by decide) ob
  have pa : (0 : Int) < V8 ^ a.length := Int.pow_pos (by decide)
  have pb : (0 : Int) < V8 ^ b.length := Int.pow_pos (by decide)
  have h := Int.mul_le_mul (show val V8 (a.take i) ≤ V8 ^ a.length by omega) (Int.le_of_lt lb) (val_nonneg (by decide) ob) (Int.le_of_lt pa)
  have hp := Int.mul_pos pa pb
  rw [Int.pow_succ, Int.pow_add]
  generalize V8 ^ a.length * V8 ^ b.length = p at *
  show _ < p * 256
  omega

theorem ref_mul_loop (K : Nat) (a b : List Int) (ha : a.length ≤ 1000000) (hb : b.length ≤ 1000000) (oa : ok V8 a) (ob : ok V8 b) (hK : a.length + b.length + 1 < K) : ∀ (r i n : Nat) (out : List Int), i + r = a.length → r < n → out.length = a.length + b.length + 1 → ok V8 out → val V8 out = val V8 (a.take i) * val V8 b →
    ref_Mul_l0 K n a b out (i : Int) = some (dig 256 (val V8 a * val V8 b).toNat, ()) := by
  intro r
  induction r with
  | zero =>
    intro i n out hi hn hl ho hv
    obtain ⟨n, rfl⟩ : ∃ m, n = m + 1 := ⟨n - 1, by omega⟩
    simp only [ref_Mul_l0, ref_Mul_s0, S.ref_Cut]
    rw [cf (by omega), if_pos (show fine out by unfold fine; omega)]
    simp only [Option.bind_some]
    rw [trim8 ho, hv, List.take_of_length_le (by omega)]
  | succ r ih =>
    intro i n out hi hn hl ho hv
    obtain ⟨n, rfl⟩ : ∃ m, n = m + 1 := ⟨n - 1, by omega⟩
    simp only [ref_Mul_l0, ref_Mul_s0]
    rw [ct (by omega)]
    have ht : val V8 out + V8 ^ i * (a.getD i 0 * val V8 b) = val V8 (a.take (i + 1)) * val V8 b := by
      rw [hv, val_take_succ, Int.add_mul, Int.mul_assoc]
    have g : ∀ j, 0 ≤ out.getD j 0 ∧ out.getD j 0 < 256 := fun j => getD_ok (B := V8) (by decide) ho j
    obtain ⟨out', q1, q2, q3, q4⟩ := ref_mul_in K (ref_Mul_l0 K n) a b ha hb oa ob i (by omega) hK out (by rw [ht]; exact mul8_bound oa ob _) b.length 0 K out (by omega) (by omega) hl (fun j => (g j).1) (fun j => by have := (g j).2; omega) (fun j _ => (g j).2) (by simp)
    have q1' : ref_Mul_l1 K (ref_Mul_l0 K n) K a b out (i : Int) 0 = _ := q1
    rw [q1']
    exact ih (i + 1) n out' (by omega) (by omega) q2 q3 (by rw [q4, ht])

theorem ref_Mul_ok (x : List Int × List Int × Unit) (y : List Int × Unit) (h : S.ref_Mul x = some y) : ∃ K, ref_Mul K x.1 x.2.1 = some y := by
  unfold S.ref_Mul at h
  split at h <;> cases h
  rename_i hh
  refine ⟨x.1.length + x.2.1.length + 2, ?_⟩
  simp only [ref_Mul, ref_Mul_b]
  obtain ⟨h1, h2, h3, h4⟩ := hh
  rw [wi64 (show -9223372036854775808 ≤ (x.1.length : Int) + (x.2.1.length : Int) by omega) (by omega), wi64 (by omega) (by omega), ct (by omega), ct (by omega)]
  rw [show ((x.1.length : Int) + (x.2.1.length : Int) + 1).toNat = x.1.length + x.2.1.length + 1 by omega]
  exact ref_mul_loop _ x.1 x.2.1 h1 h2 h3 h4 (by omega) x.1.length 0 _ _ (by omega) (by omega) (by simp) (ok_zeros (by decide) _) (by simp [val_zeros])
end Go.L

/-! RG -/
namespace Go.L
open Go.PM
set_option linter.unusedVariables false
set_option linter.unusedSimpArgs false

/-- ref_Div: one round of loop 1. -/
def ref_Div_s1 (κ0 : (List Int) → (List Int) → (List Int) → (List Int) → Int → Option ((List Int) × (List Int) × Unit)) (κ1 : (List Int) → (List Int) → (List Int) → (List Int) → Int → Option ((List Int) × (List Int) × Unit)) (a : List Int) (b : List Int) (q : List Int) (r : List Int) (i : Int) : Option ((List Int) × (List Int) × Unit) :=
  (S.ref_Compare (r, b, ())).bind fun z6 =>
  cond (decide (0 ≤ z6.1))
    (
      (S.ref_Sub (r, b, ())).bind fun z7 =>
      cond (decide (0 ≤ i))
        (
          cond (decide (i < (q.length : Int)))
            (
              cond (decide (0 ≤ i))
                (
                  cond (decide (i < (q.length : Int))) (κ1 a b (q.set i.toNat (IntKind.i64.wrap ((q.getD i.toNat 0) + 1))) z7.1 i) none) none) none) none) (κ0 a b q r (IntKind.i64.wrap (i - 1)))

def ref_Div_l1 (K : Nat) (κ0 : (List Int) → (List Int) → (List Int) → (List Int) → Int → Option ((List Int) × (List Int) × Unit)) : Nat → (List Int) → (List Int) → (List Int) → (List Int) → Int → Option ((List Int) × (List Int) × Unit)
  | 0, _, _, _, _, _ => none
  | n + 1, a, b, q, r, i => ref_Div_s1 κ0 (ref_Div_l1 K κ0 n) a b q r i

/-- ref_Div: one round of loop 0. -/
def ref_Div_s0 (I1 : (List Int) → (List Int) → (List Int) → (List Int) → Int → Option ((List Int) × (List Int) × Unit)) (κ0 : (List Int) → (List Int) → (List Int) → (List Int) → Int → Option ((List Int) × (List Int) × Unit)) (a : List Int) (b : List Int) (q : List Int) (r : List Int) (i : Int) : Option ((List Int) × (List Int) × Unit) :=
  cond (decide (0 ≤ i))
    (
      cond (decide (0 ≤ i))
        (
          cond (decide (i < (a.length : Int)))
            (
              let z3 := a.getD i.toNat 0
              cond (decide ((([z3]).length + r.length) * 8 ≤ 140737488351232))
                (
                  (S.ref_Cut ((([z3]) ++ r), ())).bind fun z5 =>
                  I1 a b q z5.1 i) none) none) none)
    (
      (S.ref_Cut (q, ())).bind fun z12 =>
      some (z12.1, r, ()))

def ref_Div_l0 (K : Nat) : Nat → (List Int) → (List Int) → (List Int) → (List Int) → Int → Option ((List Int) × (List Int) × Unit)
  | 0, _, _, _, _, _ => none
  | n + 1, a, b, q, r, i => ref_Div_s0 (ref_Div_l1 K (ref_Div_l0 K n) K) (ref_Div_l0 K n) a b q r i

/-- girdleref01.Div -/
def ref_Div_b (I0 : (List Int) → (List Int) → (List Int) → (List Int) → Int → Option ((List Int) × (List Int) × Unit)) (a : List Int) (b : List Int) : Option ((List Int) × (List Int) × Unit) :=
  cond (decide (0 ≤ (a.length : Int)))
    (
      cond (decide ((a.length : Int) * 8 ≤ 140737488351232))
        (
          I0 a b (List.replicate a.length 0 : List Int) [] (IntKind.i64.wrap ((a.length : Int) - 1))) none) none

def ref_Div (K : Nat) (a : List Int) (b : List Int) : Option ((List Int) × (List Int) × Unit) := ref_Div_b (ref_Div_l0 K K) a b


def S.ref_Div (x : List Int × List Int × Unit) : Option (List Int × List Int × Unit) := if x.1.length ≤ 900000 ∧ x.2.1.length ≤ 900000 ∧ can8 x.1 ∧ can8 x.2.1 ∧ 0 < val V8 x.2.1 then some (dig 256 (val V8 x.1 / val V8 x.2.1).toNat, dig 256 (val V8 x.1 % val V8 x.2.1).toNat, ()) else none

theorem can8_len {a : List Int} (h : can8 a) {n : Nat} (hv : val V8 a < V8 ^ n) : a.length ≤ n := by
  by_cases hne : a = []
  · subst hne; simp
  have h1 := can8_low h hne
  by_cases hl : a.length ≤ n
  · exact hl
  exfalso
  have h2 : a.length - 1 = n + (a.length - 1 - n) := by omega
  rw [h2, Int.pow_add] at h1
  have h3 : (0 : Int) < V8 ^ (a.length - 1 - n) := Int.pow_pos (by decide)
  have h4 : (0 : Int) < V8 ^ n := Int.pow_pos (by decide)
  have := Int.mul_le_mul_of_nonneg_left (show 1 ≤ V8 ^ (a.length - 1 - n) by omega) (Int.le_of_lt h4)
  omega

theorem can8_le {a b : List Int} (ha : can8 a) (hb : can8 b) (h : val V8 a ≤ val V8 b) : a.length ≤ b.length :=
  can8_len ha (by have := val_lt (B := V8) (by decide) hb.1; omega)

theorem set_self {q : List Int} {i : Nat} (h : i < q.length) : q.set i (q.getD i 0) = q := by
  simp [List.getD, h]

theorem ref_div_in (K : Nat) (κ0 : (List Int) → (List Int) → (List Int) → (List Int) → Int → Option ((List Int) × (List Int) × Unit)) (a b : List Int) (cb : can8 b) (lb : b.length ≤ 1000000) (hy : 0 < val V8 b) (i : Nat) (hi : i ≤ 1000000) :
    ∀ (t n : Nat) (q : List Int) (R : Nat), (R : Int) / val V8 b = t → t < n → i < q.length → 0 ≤ q.getD i 0 → q.getD i 0 + t ≤ 100000 → (dig 256 R).length ≤ 1000000 →
    ref_Div_l1 K κ0 n a b q (dig 256 R) (i : Int) = κ0 a b (q.set i (q.getD i 0 + t)) (dig 256 ((R : Int) % val V8 b).toNat) ((i : Int) - 1) := by
  intro t
  induction t with
  | zero =>
    intro n q R ht hn hq h0 h1 hl
    obtain ⟨n, rfl⟩ : ∃ m, n = m + 1 := ⟨n - 1, by omega⟩
    have hlt : (R : Int) < val V8 b := by
      have := Int.lt_ediv_add_one_mul_self (R : Int) hy
      rw [ht] at this; simpa using this
    simp only [ref_Div_l1, ref_Div_s1, S.ref_Compare]
    rw [if_pos ⟨hl, lb, (can8_dig R).1, cb.1⟩]
    simp only [Option.bind_some, val8_dig, sgn]
    rw [if_pos hlt, cf (by decide), wi64 (by omega) (by omega), Int.emod_eq_of_lt (by omega) hlt]
    simp only [Int.toNat_natCast, Int.natCast_zero, Int.add_zero, set_self hq]
    try rfl
  | succ t ih =>
    intro n q R ht hn hq h0 h1 hl
    obtain ⟨n, rfl⟩ : ∃ m, n = m + 1 := ⟨n - 1, by omega⟩
    have hge : val V8 b ≤ (R : Int) := by
      by_cases h : val V8 b ≤ (R : Int)
      · exact h
      · rw [Int.ediv_eq_zero_of_lt (by omega) (by omega)] at ht; omega
    have hlen : b.length ≤ (dig 256 R).length := can8_le cb (can8_dig R) (by rw [val8_dig]; exact hge)
    simp only [ref_Div_l1, ref_Div_s1, S.ref_Compare, S.ref_Sub]
    rw [if_pos ⟨hl, lb, (can8_dig R).1, cb.1⟩, if_pos ⟨hl, can8_dig R, cb, hlen, by rw [val8_dig]; exact hge⟩]
    simp only [Option.bind_some, val8_dig, sgn, Int.toNat_natCast]
    have hs : (0 : Int) ≤ (if (R : Int) < val V8 b then -1 else if val V8 b < (R : Int) then 1 else 0) := by
      rw [if_neg (by omega)]; split <;> decide
    rw [ct hs, ct (by omega), ct (by omega), ct (by omega), ct (by omega), wi64 (by omega) (by omega)]
    have hR : (((R : Int) - val V8 b).toNat : Int) = (R : Int) - val V8 b := by omega
    have hlen2 : (dig 256 ((R : Int) - val V8 b).toNat).length ≤ (dig 256 R).length := can8_le (can8_dig _) (can8_dig R) (by rw [val8_dig, val8_dig, hR]; omega)
    have hd : ((R : Int) - val V8 b) / val V8 b = (t : Int) := by
      have := Int.sub_mul_ediv_right (R : Int) 1 (show val V8 b ≠ 0 by omega)
      rw [Int.one_mul] at this
      rw [this, ht]; omega
    rw [ih n _ ((R : Int) - val V8 b).toNat (by rw [hR]; exact hd) (by omega) (by simpa using hq) (by rw [getD_set_same hq]; omega) (by rw [getD_set_same hq]; omega) (by omega)]
    rw [hR, getD_set_same hq, List.set_set, Int.sub_emod_right]
    congr 2
    omega

theorem drop_cons {B : Int} {a : List Int} {i : Nat} (h : i < a.length) : val B (a.drop i) = a.getD i 0 + B * val B (a.drop (i + 1)) := by
  rw [List.drop_eq_getElem_cons h, val_cons]; simp [List.getD, h]

theorem ref_div_loop (K : Nat) (hK : 300 < K) (a b : List Int) (ha : a.length ≤ 900000) (oa : ok V8 a) (cb : can8 b) (lb : b.length ≤ 900000) (hy : 0 < val V8 b) :
    ∀ (k n : Nat) (q : List Int) (R : Nat), k ≤ a.length → k < n → q.length = a.length → ok V8 q → (∀ j, j < k → q.getD j 0 = 0) → (R : Int) = val V8 (a.drop k) % val V8 b → val V8 q = V8 ^ k * (val V8 (a.drop k) / val V8 b) →
    ref_Div_l0 K n a b q (dig 256 R) ((k : Int) - 1) = some (dig 256 (val V8 a / val V8 b).toNat, dig 256 (val V8 a % val V8 b).toNat, ()) := by
  intro k
  induction k with
  | zero =>
    intro n q R hk hn hl ho hz hR hv
    obtain ⟨n, rfl⟩ : ∃ m, n = m + 1 := ⟨n - 1, by omega⟩
    simp only [ref_Div_l0, ref_Div_s0, S.ref_Cut]
    rw [cf (by omega), if_pos (show fine q by unfold fine; omega)]
    simp only [Option.bind_some]
    rw [trim8 ho, hv]
    simp only [List.drop_zero, Int.pow_zero, Int.one_mul] at *
    rw [← hR, Int.toNat_natCast]
  | succ k ih =>
    intro n q R hk hn hl ho hz hR hv
    obtain ⟨n, rfl⟩ : ∃ m, n = m + 1 := ⟨n - 1, by omega⟩
    have ga := getD_ok (B := V8) (by decide) oa k
    have hRy : (R : Int) < val V8 b := by rw [hR]; exact Int.emod_lt_of_pos _ hy
    have hrl : (dig 256 R).length ≤ b.length := can8_le (can8_dig R) cb (by rw [val8_dig]; omega)
    have hok : ok V8 ([a.getD k 0] ++ dig 256 R) := ok_append.2 ⟨ok_cons.2 ⟨ga, ok_nil⟩, (can8_dig R).1⟩
    have hval : val V8 ([a.getD k 0] ++ dig 256 R) = a.getD k 0 + V8 * R := by
      show a.getD k 0 + V8 * val V8 (dig 256 R) = _
      rw [val8_dig]
    simp only [ref_Div_l0, ref_Div_s0, S.ref_Cut, Int.toNat_natCast]
    rw [show ((k + 1 : Nat) : Int) - 1 = (k : Int) by omega, ct (by omega), ct (by omega), ct (by omega), ct (by simp only [List.length_cons, List.length_nil]; omega)]
    simp only [Int.toNat_natCast]
    rw [if_pos (show fine ([a.getD k 0] ++ dig 256 R) by unfold fine; simp only [List.length_append, List.length_cons, List.length_nil]; omega)]
    simp only [Option.bind_some]
    rw [trim8 hok, hval]
    simp only [V8] at ga
    obtain ⟨R', hR'⟩ : ∃ R' : Nat, (R' : Int) = a.getD k 0 + V8 * R := ⟨(a.getD k 0 + V8 * R).toNat, by simp only [V8]; omega⟩
    obtain ⟨t, ht⟩ : ∃ t : Nat, (R' : Int) / val V8 b = t := ⟨((R' : Int) / val V8 b).toNat, by have := Int.ediv_nonneg (show (0:Int) ≤ R' by omega) (Int.le_of_lt hy); omega⟩
    have h9 : (R' : Int) = a.getD k 0 + 256 * R := hR'
    have ht2 : t < 256 := by
      have : (R' : Int) / val V8 b < 256 := Int.ediv_lt_of_lt_mul hy (by omega)
      omega
    have hq0 := hz k (by omega)
    have hl2 : (dig 256 R').length ≤ 1000000 := by
      have hn2 : (dig 256 R').length ≤ (trimL ([a.getD k 0] ++ dig 256 R)).length := by
        rw [trim8 hok, hval, ← hR', Int.toNat_natCast]; exact Nat.le_refl _
      have := trimL_length (a := [a.getD k 0] ++ dig 256 R)
      simp only [List.length_append, List.length_cons, List.length_nil] at this
      omega
    rw [← hR', Int.toNat_natCast, ref_div_in K _ a b cb (by omega) hy k (by omega) t K q R' ht (by omega) (by omega) (by omega) (by omega) hl2]
    rw [hq0, Int.zero_add]
    have hdc := drop_cons (B := V8) (a := a) (i := k) (by omega)
    have hdm := Int.mul_ediv_add_emod (val V8 (a.drop (k + 1))) (val V8 b)
    rw [← hR] at hdm
    have hsum : val V8 (a.drop k) = R' + 256 * (val V8 (a.drop (k + 1)) / val V8 b) * val V8 b := by
      rw [hdc, h9, Int.mul_assoc, Int.mul_comm _ (val V8 b)]
      show _ + 256 * _ = _
      omega
    have e1 : val V8 (a.drop k) / val V8 b = t + 256 * (val V8 (a.drop (k + 1)) / val V8 b) := by
      rw [hsum, Int.add_mul_ediv_right _ _ (by omega), ht]
    have e2 : val V8 (a.drop k) % val V8 b = R' % val V8 b := by
      rw [hsum, Int.add_mul_emod_self_right]
    refine ih n _ _ (by omega) (by omega) (by simpa using hl) (ok_set ho (by omega) (by simp only [V8]; omega)) (fun j hj => by rw [getD_set_ne (by omega)]; exact hz j (by omega)) ?_ ?_
    · rw [e2, Int.toNat_of_nonneg (Int.emod_nonneg _ (by omega))]
    · rw [val_set _ _ _ (by omega), hv, hq0, e1, Int.pow_succ, Int.mul_assoc, ← Int.mul_add]
      congr 1
      show 256 * _ + _ = _
      omega

theorem ref_Div_ok (x : List Int × List Int × Unit) (y : List Int × List Int × Unit) (h : S.ref_Div x = some y) : ∃ K, ref_Div K x.1 x.2.1 = some y := by
  unfold S.ref_Div at h
  split at h <;> cases h
  rename_i hh
  obtain ⟨h1, h2, h3, h4, h5⟩ := hh
  refine ⟨x.1.length + 301, ?_⟩
  simp only [ref_Div, ref_Div_b]
  rw [ct (by omega), ct (by omega), wi64 (by omega) (by omega)]
  have hd : x.1.drop x.1.length = [] := List.drop_eq_nil_of_le (Nat.le_refl _)
  have := ref_div_loop (x.1.length + 301) (by omega) x.1 x.2.1 h1 h3.1 h4 h2 h5 x.1.length (x.1.length + 301) (List.replicate x.1.length 0) 0 (Nat.le_refl _) (by omega) (by simp) (ok_zeros (by decide) _) (fun j hj => by simp [List.getD, hj]) (by rw [hd]; simp) (by rw [hd, val_zeros]; simp)
  exact this
end Go.L

/-! LP -/
namespace Go.L
open Go.PM
set_option linter.unusedVariables false
set_option linter.unusedSimpArgs false

/-- girdlelaw01.is -/
def law_is (a : List Int) (d : List Int) : Option (Bool × Unit) :=
  (S.ref_Back (d, ())).bind fun z1 =>
  (S.slices_Equal_s_uint32_uint32 (a, z1.1, ())).bind fun z2 =>
  cond (z2.1)
    (
      (S.limbs_Check (a, ())).bind fun z3 =>
      some (decide (z3.1 = 0), ())) (some (false, ()))

def S.law_is (x : List Int × List Int × Unit) : Option (Bool × Unit) := L.law_is x.1 x.2.1
theorem law_is_ok (x : List Int × List Int × Unit) (y : Bool × Unit) (h : S.law_is x = some y) : ∃ K : Nat, law_is x.1 x.2.1 = some y := ⟨0, h⟩
/-- girdlelaw01.reckons -/
def law_reckons  : Option (Bool × Unit) :=
  (S.limbs_Of (4294967295, ())).bind fun z1 =>
  (S.limbs_Of (1, ())).bind fun z2 =>
  (S.limbs_Add (z1.1, z2.1, ())).bind fun z3 =>
  (S.limbs_Mul (z3.1, z3.1, ())).bind fun z4 =>
  (S.limbs_Of (7, ())).bind fun z5 =>
  (S.limbs_Div (z4.1, z5.1, ())).bind fun z6 =>
  (S.limbs_Of (1, ())).bind fun z7 =>
  (S.limbs_Sub (z3.1, z7.1, ())).bind fun z8 =>
  (S.limbs_Small (z8.1, ())).bind fun z9 =>
  (S.limbs_Div (z3.1, [], ())).bind fun z10 =>
  (S.limbs_Sub ([], z3.1, ())).bind fun z11 =>
  (S.limbs_Left (z3.1, 5, ())).bind fun z12 =>
  (S.limbs_Right (z12.1, 37, ())).bind fun z13 =>
  cond (decide ((IntKind.i64.wrap ((IntKind.i64.wrap ((IntKind.i64.wrap ((IntKind.i64.wrap ((IntKind.i64.wrap ((IntKind.i64.wrap (z3.2.1 + z4.2.1)) + z6.2.2.1)) + z8.2.1)) + z9.2.1)) + z12.2.1)) + z13.2.1)) = 0))
    (
      cond (decide ((z3.1.length : Int) = 2))
        (
          cond (decide (1 < (z3.1.length : Int)))
            (
              cond (decide ((z3.1.getD 1 0) = 1))
                (
                  cond (decide ((z4.1.length : Int) = 3))
                    (
                      cond (decide (z9.1 = 4294967295))
                        (
                          cond (decide ((z6.2.1.length : Int) = 1))
                            (
                              cond (decide (0 < (z6.2.1.length : Int)))
                                (
                                  cond (decide ((z6.2.1.getD 0 0) = 2))
                                    (
                                      cond (decide ((z6.1.length : Int) = 2))
                                        (
                                          cond (decide (z10.2.2.1 = 10))
                                            (
                                              cond (decide (z11.2.1 = 12))
                                                (
                                                  (S.limbs_Bits (z4.1, ())).bind fun z22 =>
                                                  cond (decide (z22.1 = 65))
                                                    (
                                                      (S.limbs_Tail (z4.1, ())).bind fun z23 =>
                                                      cond (decide (z23.1 = 64))
                                                        (
                                                          (S.limbs_Of (1, ())).bind fun z24 =>
                                                          (S.slices_Equal_api_Nat_uint32 (z13.1, z24.1, ())).bind fun z25 =>
                                                          cond (z25.1)
                                                            (
                                                              (S.limbs_Compare (z3.1, z4.1, ())).bind fun z26 =>
                                                              cond (decide (z26.1 = (-1 : Int)))
                                                                (
                                                                  (S.limbs_Check (z4.1, ())).bind fun z27 =>
                                                                  cond (decide (z27.1 = 0))
                                                                    (
                                                                      (S.limbs_Check ([0], ())).bind fun z28 =>
                                                                      cond (decide (z28.1 = 2)) (some (true, ())) (some (false, ()))) (some (false, ()))) (some (false, ()))) (some (false, ()))) (some (false, ()))) (some (false, ()))) (some (false, ()))) (some (false, ()))) (some (false, ()))) (some (false, ()))) none) (some (false, ()))) (some (false, ()))) (some (false, ()))) (some (false, ()))) none) (some (false, ()))) (some (false, ()))

def S.law_reckons (x : Unit) : Option (Bool × Unit) := L.law_reckons
theorem law_reckons_true : L.law_reckons = some (true, ()) := by decide +kernel
end Go.L

/-! LQ -/
namespace Go.L
open Go.PM
set_option linter.unusedVariables false
set_option linter.unusedSimpArgs false

/-- The number n as limbs; as the reference's digits. -/
def D (n : Nat) : List Int := dig 4294967296 n
def E (n : Nat) : List Int := dig 256 n
def P (k : Nat) : Nat := 4294967296 ^ k
theorem can_D (n : Nat) : can (D n) := can_dig n
theorem val_D (n : Nat) : val W (D n) = n := val_dig n
theorem can_E (n : Nat) : can8 (E n) := can8_dig n
theorem val_E (n : Nat) : val V8 (E n) = n := val8_dig n
theorem P_mono {j k : Nat} (h : j ≤ k) : P j ≤ P k := Nat.pow_le_pow_right (by decide) h
theorem P_pos (k : Nat) : 0 < P k := Nat.pow_pos (by decide)
theorem P_add (j k : Nat) : P (j + k) = P j * P k := Nat.pow_add _ _ _
theorem P_mul {a b j k : Nat} (ha : a < P j) (hb : b < P k) : a * b < P (j + k) := by
  rw [P_add]; exact Nat.mul_lt_mul'' ha hb
theorem P_two (k : Nat) : P k = 2 ^ (32 * k) := by
  unfold P; rw [show (4294967296 : Nat) = 2 ^ 32 from rfl, ← Nat.pow_mul]
theorem P_succ (k : Nat) : P (k + 1) = P k * 4294967296 := Nat.pow_succ _ _
theorem P_int (k : Nat) : ((P k : Nat) : Int) = W ^ k := by unfold P; simp [W]
theorem P_int8 (k : Nat) : ((P k : Nat) : Int) = V8 ^ (4 * k) := by
  unfold P; rw [show (4294967296 : Nat) = 256 ^ 4 from rfl, ← Nat.pow_mul]; simp [V8]
theorem can_len {a : List Int} (h : can a) {k : Nat} (hv : val W a < W ^ k) : a.length ≤ k := by
  by_cases h0 : a = []
  · subst h0; exact Nat.zero_le _
  rcases Nat.lt_or_ge k a.length with hl | hl
  · have h1 := can_low h h0
    have h2 : W ^ k ≤ W ^ (a.length - 1) := by
      rw [← P_int, ← P_int]; exact Int.ofNat_le.2 (P_mono (by omega))
    omega
  · exact hl
theorem dlen {n k : Nat} (h : n < P k) : (D n).length ≤ k := can_len (can_D n) (by rw [val_D, ← P_int]; exact Int.ofNat_lt.2 h)
theorem dlen_lt (n : Nat) : n < P (D n).length := by
  have := val_lt (B := W) (by decide) (can_D n).1
  rw [val_D, ← P_int] at this
  exact Int.ofNat_lt.1 this
theorem elen {n k : Nat} (h : n < P k) : (E n).length ≤ 4 * k := can8_len (can_E n) (by rw [val_E, ← P_int8]; exact Int.ofNat_lt.2 h)
theorem D_zero : D 0 = [] := rfl
theorem E_zero : E 0 = [] := rfl
theorem D_nil {n : Nat} : D n = [] ↔ n = 0 := by
  constructor
  · intro h; have := val_D n; rw [h] at this; simp at this; omega
  · rintro rfl; rfl
theorem E_nil {n : Nat} : E n = [] ↔ n = 0 := by
  constructor
  · intro h; have := val_E n; rw [h] at this; simp at this; omega
  · rintro rfl; rfl
theorem D_len0 {n : Nat} : (D n).length = 0 ↔ n = 0 := by rw [List.length_eq_zero_iff, D_nil]
theorem E_len0 {n : Nat} : (E n).length = 0 ↔ n = 0 := by rw [List.length_eq_zero_iff, E_nil]
theorem D_inj {m n : Nat} : D m = D n ↔ m = n := by
  constructor
  · intro h; have := val_D n; rw [← h, val_D] at this; omega
  · rintro rfl; rfl
theorem fine_D {n : Nat} (h : n < P 1000) : fine (D n) := by have := dlen h; unfold fine; omega
theorem D_big {n : Nat} (h : n < P 1000) : (D n).length ≤ 1000 := dlen h
theorem res_in {n : Nat} (h : n < P 512) : res n = (D n, 0, ()) := by
  have : (dig 4294967296 n).length ≤ 512 := dlen h
  unfold res
  rw [if_pos this]; rfl
theorem res_out {n : Nat} (h : P 512 ≤ n) : res n = ([], 11, ()) := by
  unfold res
  rw [if_neg]
  intro hl
  have h1 := dlen_lt n
  have h2 : P (D n).length ≤ P 512 := P_mono hl
  omega

theorem Add_D {a b : Nat} (ha : a < P 1000) (hb : b < P 1000) : S.limbs_Add (D a, D b, ()) = some (res (a + b)) := by
  have h1 := dlen ha
  have h2 := dlen hb
  simp only [S.limbs_Add]
  rw [if_pos ⟨by omega, by omega, (can_D a).1, (can_D b).1⟩, val_D, val_D]
  congr 2
theorem Sub_D {a b : Nat} (ha : a < P 1000) (hb : b < P 1000) : S.limbs_Sub (D a, D b, ()) = some (if a < b then ([], 12, ()) else res (a - b)) := by
  simp only [S.limbs_Sub]
  rw [if_pos ⟨fine_D ha, fine_D hb, can_D a, can_D b⟩, val_D, val_D]
  congr 1
  by_cases h : a < b
  · rw [if_pos h, if_pos (by omega)]
  · rw [if_neg h, if_neg (by omega)]; congr 1; omega
theorem Mul_D {a b j k : Nat} (ha : a < P j) (hb : b < P k) (hjk : j + k ≤ 513) : S.limbs_Mul (D a, D b, ()) = some (res (a * b)) := by
  have h1 := dlen ha
  have h2 := dlen hb
  simp only [S.limbs_Mul]
  rw [if_pos ⟨by unfold fine; omega, by unfold fine; omega, (can_D a).1, (can_D b).1⟩, if_neg (by omega), val_D, val_D]
  congr 2
theorem Div_D {a b : Nat} (ha : a < P 1000) (hb : b < P 512) (h0 : 0 < b) : S.limbs_Div (D a, D b, ()) = some (D (a / b), D (a % b), 0, ()) := by
  have h1 := dlen ha
  rw [Div_eq (by omega) (can_D a) (can_D b) (by rw [ne_eq, D_nil]; omega) (dlen hb), val_D, val_D]
  rfl
theorem pow_cast (n : Nat) : (2 : Int) ^ n = ((2 ^ n : Nat) : Int) := by simp
theorem Left_D {a n : Nat} (ha : a < P 1000) : S.limbs_Left (D a, (n : Int), ()) = some (if a = 0 then ([], 0, ()) else if 16384 < n then ([], 11, ()) else res (a * 2 ^ n)) := by
  have h1 := dlen ha
  simp only [S.limbs_Left]
  rw [if_pos ⟨by omega, (can_D a).1⟩, if_neg (by omega), val_D]
  congr 1
  by_cases h : a = 0
  · rw [if_pos h, if_pos (D_nil.2 h)]
  · rw [if_neg h, if_neg (fun e => h (D_nil.1 e))]
    by_cases h' : 16384 < n
    · rw [if_pos h', if_pos (by omega)]
    · rw [if_neg h', if_neg (by omega)]
      congr 1
theorem Right_D {a n : Nat} (ha : a < P 512) (hn : n < 9223372036854775808) : S.limbs_Right (D a, (n : Int), ()) = some (D (a / 2 ^ n), 0, ()) := by
  have h1 := dlen ha
  simp only [S.limbs_Right]
  rw [if_pos ⟨by unfold fine; omega, (can_D a).1, by omega⟩, if_neg (by omega), val_D]
  congr 1
  by_cases h : ((D a).length : Int) ≤ (n : Int) / 32
  · rw [if_pos h]
    have h2 := dlen_lt a
    have h3 : P (D a).length ≤ 2 ^ n := by rw [P_two]; exact Nat.pow_le_pow_right (by decide) (by omega)
    rw [Nat.div_eq_of_lt (by omega)]; rfl
  · rw [if_neg h, Int.toNat_natCast, pow_cast, show ((a : Int) / ((2 ^ n : Nat) : Int)).toNat = a / 2 ^ n by rw [← Int.natCast_ediv]; rfl]
    exact res_in (Nat.lt_of_le_of_lt (Nat.div_le_self _ _) ha)
theorem Equal_D {a b : Nat} (ha : a < P 1000) (hb : b < P 1000) : S.slices_Equal_api_Nat_uint32 (D a, D b, ()) = some (decide (a = b), ()) := by
  simp only [S.slices_Equal_api_Nat_uint32]
  rw [if_pos ⟨fine_D ha, fine_D hb⟩]
  simp only [D_inj]
theorem Equal_s_D {a b : Nat} (ha : a < P 1000) (hb : b < P 1000) : S.slices_Equal_s_uint32_uint32 (D a, D b, ()) = some (decide (a = b), ()) := by
  simp only [S.slices_Equal_s_uint32_uint32]
  rw [if_pos ⟨fine_D ha, fine_D hb⟩]
  simp only [D_inj]
theorem Check_D {a : Nat} (ha : a < P 512) : S.limbs_Check (D a, ()) = some (0, ()) := Check_can (can_D a) (dlen ha)
theorem Cmp_D {a b : Nat} (ha : a < P 1000) (hb : b < P 1000) : S.limbs_Compare (D a, D b, ()) = some (sgn a b, ()) := by
  simp only [S.limbs_Compare]
  rw [if_pos ⟨fine_D ha, fine_D hb⟩]
  have := cmpL_spec (can_D a) (can_D b)
  rw [val_D, val_D] at this
  congr 2
  unfold sgn
  rcases this with ⟨h1, h2⟩ | ⟨h1, h2⟩ | ⟨h1, h2⟩
  · rw [h1, if_pos h2]
  · rw [h1, if_neg (by omega), if_neg (by omega)]
  · rw [h1, if_neg (by omega), if_pos h2]
theorem Of_D {a : Nat} (ha : a < P 1000) : S.ref_Of (D a, ()) = some (E a, ()) := by
  have := dlen ha
  simp only [S.ref_Of]
  rw [if_pos ⟨by omega, (can_D a).1⟩, val_D]; rfl
theorem Back_D {a : Nat} (ha : a < P 1000) : S.ref_Back (E a, ()) = some (D a, ()) := by
  have := elen ha
  simp only [S.ref_Back]
  rw [if_pos ⟨by omega, can_E a⟩, val_E]; rfl
theorem rAdd_D {a b : Nat} (ha : a < P 1000) (hb : b < P 1000) : S.ref_Add (E a, E b, ()) = some (E (a + b), ()) := by
  have := elen ha
  have := elen hb
  simp only [S.ref_Add]
  rw [if_pos ⟨by omega, by omega, (can_E a).1, (can_E b).1⟩, val_E, val_E]; rfl
theorem rSub_D {a b : Nat} (ha : a < P 1000) (h : b ≤ a) : S.ref_Sub (E a, E b, ()) = some (E (a - b), ()) := by
  have := elen ha
  simp only [S.ref_Sub]
  have hl : (E b).length ≤ (E a).length := can8_le (can_E b) (can_E a) (by rw [val_E, val_E]; omega)
  rw [if_pos ⟨by omega, can_E a, can_E b, hl, by rw [val_E, val_E]; omega⟩, val_E, val_E]
  rw [show ((a : Int) - (b : Int)).toNat = a - b by omega]; rfl
theorem rMul_D {a b : Nat} (ha : a < P 1000) (hb : b < P 1000) : S.ref_Mul (E a, E b, ()) = some (E (a * b), ()) := by
  have := elen ha
  have := elen hb
  simp only [S.ref_Mul]
  rw [if_pos ⟨by omega, by omega, (can_E a).1, (can_E b).1⟩, val_E, val_E]; rfl
theorem rDiv_D {a b : Nat} (ha : a < P 1000) (hb : b < P 1000) (h0 : 0 < b) : S.ref_Div (E a, E b, ()) = some (E (a / b), E (a % b), ()) := by
  have := elen ha
  have := elen hb
  simp only [S.ref_Div]
  rw [if_pos ⟨by omega, by omega, can_E a, can_E b, by rw [val_E]; omega⟩, val_E, val_E]; rfl
theorem rCmp_D {a b : Nat} (ha : a < P 1000) (hb : b < P 1000) : S.ref_Compare (E a, E b, ()) = some (sgn a b, ()) := by
  have := elen ha
  have := elen hb
  simp only [S.ref_Compare]
  rw [if_pos ⟨by omega, by omega, (can_E a).1, (can_E b).1⟩, val_E, val_E]
theorem Power_D {n : Nat} (h : n ≤ 100000) : S.ref_Power ((n : Int), ()) = some (E (2 ^ n), ()) := by
  simp only [S.ref_Power]
  rw [if_pos ⟨by omega, by omega⟩]; rfl
theorem is_D {a : Nat} (ha : a < P 512) : S.law_is (D a, E a, ()) = some (true, ()) := by
  have h : a < P 1000 := Nat.lt_of_lt_of_le ha (P_mono (by decide))
  simp only [S.law_is, L.law_is, Back_D h, Option.bind_some, Equal_s_D h h, Check_D ha]
  simp
theorem fits_D {a : List Int} (ho : ok W a) (h : fits1 a) : ∃ A, a = D A ∧ A < P 40 := by
  have hc := fits1_can ho h
  refine ⟨(val W a).toNat, can_eq hc, ?_⟩
  have h1 := val_lt (B := W) (by decide) ho
  have h2 := val_nonneg (B := W) (by decide) ho
  have h3 : P a.length ≤ P 40 := P_mono h.1
  rw [← P_int] at h1
  omega
end Go.L

/-! LR -/
namespace Go.L
open Go.PM
set_option linter.unusedVariables false
set_option linter.unusedSimpArgs false

theorem fit1 {a : List Int} (ha : fine a) : S.law_fit ([a], ()) = some (decide (fits1 a), ()) := by
  simp only [S.law_fit]
  rw [if_pos ⟨by simp, by simpa using ha⟩]
  simp
theorem fit2 {a b : List Int} (ha : fine a) (hb : fine b) : S.law_fit ([a, b], ()) = some (decide (fits1 a) && decide (fits1 b), ()) := by
  simp only [S.law_fit]
  rw [if_pos ⟨by simp, by simpa using ⟨ha, hb⟩⟩]
  simp
theorem fit3 {a b c : List Int} (ha : fine a) (hb : fine b) (hc : fine c) : S.law_fit ([a, b, c], ()) = some (decide (fits1 a) && (decide (fits1 b) && decide (fits1 c)), ()) := by
  simp only [S.law_fit]
  rw [if_pos ⟨by simp, by simpa using ⟨ha, hb, hc⟩⟩]
  simp
theorem rk : S.law_reckons () = some (true, ()) := law_reckons_true
theorem P40 {n k : Nat} (h : n < P k) (hk : k ≤ 512) : n < P 512 := Nat.lt_of_lt_of_le h (P_mono hk)
theorem P1000 {n k : Nat} (h : n < P k) (hk : k ≤ 1000) : n < P 1000 := Nat.lt_of_lt_of_le h (P_mono hk)
theorem P_sum {a b k : Nat} (ha : a < P k) (hb : b < P k) : a + b < P (k + 1) := by rw [P_succ]; omega
/-- A number that a law is given. -/
def inW (a : List Int) : Prop := ok W a ∧ fine a

/-- girdlelaw01.LimbsAdds -/
def law_LimbsAdds (a : List Int) (b : List Int) : Option (Bool × Unit) :=
  (S.law_reckons (())).bind fun z1 =>
  cond (!z1.1) (some (false, ()))
    (
      (S.law_fit ([a, b], ())).bind fun z2 =>
      cond (!z2.1) (some (true, ()))
        (
          (S.ref_Of (a, ())).bind fun z3 =>
          (S.ref_Of (b, ())).bind fun z4 =>
          (S.limbs_Add (a, b, ())).bind fun z5 =>
          cond (!(decide (z5.2.1 = 0))) (some (false, ()))
            (
              (S.ref_Add (z3.1, z4.1, ())).bind fun z6 =>
              (S.law_is (z5.1, z6.1, ())).bind fun z7 =>
              cond (!z7.1) (some (false, ()))
                (
                  (S.limbs_Sub (a, b, ())).bind fun z8 =>
                  (S.ref_Compare (z3.1, z4.1, ())).bind fun z9 =>
                  cond (decide (z9.1 < 0))
                    (
                      cond (decide (z8.2.1 = 12)) (some (decide ((z8.1.length : Int) = 0), ())) (some (false, ())))
                    (
                      cond (decide (z8.2.1 = 0))
                        (
                          (S.ref_Sub (z3.1, z4.1, ())).bind fun z10 =>
                          (S.law_is (z8.1, z10.1, ())).bind fun z11 =>
                          some (z11.1, ())) (some (false, ())))))))

theorem LimbsAdds_true {a b : List Int} (ha : inW a) (hb : inW b) : law_LimbsAdds a b = some (true, ()) := by
  simp only [law_LimbsAdds, rk, Option.bind_some, Bool.not_true, cond_false, fit2 ha.2 hb.2]
  by_cases h : fits1 a ∧ fits1 b
  · obtain ⟨A, rfl, hA⟩ := fits_D ha.1 h.1
    obtain ⟨B, rfl, hB⟩ := fits_D hb.1 h.2
    have A1 := P1000 hA (by decide)
    have B1 := P1000 hB (by decide)
    have hs : A + B < P 512 := P40 (P_sum hA hB) (by decide)
    simp only [h.1, h.2, decide_true, Bool.and_self, Bool.not_true, cond_false, Of_D A1, Of_D B1, Option.bind_some, Add_D A1 B1, res_in hs, rAdd_D A1 B1, is_D hs, Sub_D A1 B1, rCmp_D A1 B1]
    by_cases hlt : A < B
    · rw [if_pos hlt, ct (by unfold sgn; rw [if_pos (by omega)]; decide)]
      rfl
    · have hd : A - B < P 512 := Nat.lt_of_le_of_lt (Nat.sub_le _ _) (P40 hA (by decide))
      rw [if_neg hlt, cf (by unfold sgn; rw [if_neg (by omega)]; split <;> omega)]
      simp only [res_in hd, rSub_D A1 (show B ≤ A by omega), is_D hd, Option.bind_some, decide_true, cond_true]
  · have : (decide (fits1 a) && decide (fits1 b)) = false := by simpa using h
    rw [this]; rfl

/-- girdlelaw01.LimbsMuls -/
def law_LimbsMuls (a : List Int) (b : List Int) : Option (Bool × Unit) :=
  (S.law_reckons (())).bind fun z1 =>
  cond (!z1.1) (some (false, ()))
    (
      (S.law_fit ([a, b], ())).bind fun z2 =>
      cond (!z2.1) (some (true, ()))
        (
          (S.limbs_Mul (a, b, ())).bind fun z3 =>
          (S.limbs_Mul (b, a, ())).bind fun z4 =>
          cond (decide (z3.2.1 = 0))
            (
              cond (decide (z4.2.1 = 0))
                (
                  (S.ref_Of (a, ())).bind fun z5 =>
                  (S.ref_Of (b, ())).bind fun z6 =>
                  (S.ref_Mul (z5.1, z6.1, ())).bind fun z7 =>
                  (S.law_is (z3.1, z7.1, ())).bind fun z8 =>
                  cond (z8.1)
                    (
                      (S.slices_Equal_api_Nat_uint32 (z3.1, z4.1, ())).bind fun z9 =>
                      some (z9.1, ())) (some (false, ()))) (some (false, ()))) (some (false, ()))))

theorem LimbsMuls_true {a b : List Int} (ha : inW a) (hb : inW b) : law_LimbsMuls a b = some (true, ()) := by
  simp only [law_LimbsMuls, rk, Option.bind_some, Bool.not_true, cond_false, fit2 ha.2 hb.2]
  by_cases h : fits1 a ∧ fits1 b
  · obtain ⟨A, rfl, hA⟩ := fits_D ha.1 h.1
    obtain ⟨B, rfl, hB⟩ := fits_D hb.1 h.2
    have A1 := P1000 hA (by decide)
    have B1 := P1000 hB (by decide)
    have hs : A * B < P 512 := P40 (P_mul hA hB) (by decide)
    have hs1 := P1000 hs (by decide)
    simp only [h.1, h.2, decide_true, Bool.and_self, Bool.not_true, cond_false, cond_true, Of_D A1, Of_D B1, Option.bind_some, Mul_D hA hB (by decide), Mul_D hB hA (by decide), Nat.mul_comm B A, res_in hs, rMul_D A1 B1, is_D hs, Equal_D hs1 hs1]
  · have : (decide (fits1 a) && decide (fits1 b)) = false := by simpa using h
    rw [this]; rfl

/-- girdlelaw01.LimbsDivs -/
def law_LimbsDivs (a : List Int) (b : List Int) : Option (Bool × Unit) :=
  (S.law_reckons (())).bind fun z1 =>
  cond (!z1.1) (some (false, ()))
    (
      (S.law_fit ([a, b], ())).bind fun z2 =>
      cond (!z2.1) (some (true, ()))
        (
          (S.limbs_Div (a, b, ())).bind fun z3 =>
          cond (decide ((b.length : Int) = 0))
            (
              cond (decide (z3.2.2.1 = 10))
                (
                  cond (decide ((z3.1.length : Int) = 0)) (some (decide ((z3.2.1.length : Int) = 0), ())) (some (false, ()))) (some (false, ())))
            (
              (S.ref_Of (a, ())).bind fun z4 =>
              (S.ref_Of (b, ())).bind fun z5 =>
              (S.ref_Div (z4.1, z5.1, ())).bind fun z6 =>
              cond (!(decide (z3.2.2.1 = 0))) (some (false, ()))
                (
                  (S.law_is (z3.1, z6.1, ())).bind fun z7 =>
                  cond (!z7.1) (some (false, ()))
                    (
                      (S.law_is (z3.2.1, z6.2.1, ())).bind fun z8 =>
                      cond (!z8.1) (some (false, ()))
                        (
                          (S.limbs_Compare (z3.2.1, b, ())).bind fun z9 =>
                          cond (decide (0 ≤ z9.1)) (some (false, ()))
                            (
                              (S.limbs_Mul (z3.1, b, ())).bind fun z10 =>
                              (S.limbs_Add (z10.1, z3.2.1, ())).bind fun z11 =>
                              cond (decide (z10.2.1 = 0))
                                (
                                  cond (decide (z11.2.1 = 0))
                                    (
                                      (S.slices_Equal_api_Nat_uint32 (z11.1, a, ())).bind fun z12 =>
                                      some (z12.1, ())) (some (false, ()))) (some (false, ())))))))))

theorem LimbsDivs_true {a b : List Int} (ha : inW a) (hb : inW b) : law_LimbsDivs a b = some (true, ()) := by
  simp only [law_LimbsDivs, rk, Option.bind_some, Bool.not_true, cond_false, fit2 ha.2 hb.2]
  by_cases h : fits1 a ∧ fits1 b
  · obtain ⟨A, rfl, hA⟩ := fits_D ha.1 h.1
    obtain ⟨B, rfl, hB⟩ := fits_D hb.1 h.2
    have A1 := P1000 hA (by decide)
    have B1 := P1000 hB (by decide)
    by_cases h0 : B = 0
    · subst h0
      simp only [h.1, h.2, decide_true, Bool.and_self, Bool.not_true, cond_false, D_zero, Div_zero, Option.bind_some]
      rfl
    have hq : A / B < P 40 := Nat.lt_of_le_of_lt (Nat.div_le_self _ _) hA
    have hlt : A % B < B := Nat.mod_lt _ (by omega)
    have hr : A % B < P 40 := by omega
    have hl : ¬ ((D B).length : Int) = 0 := by have := @D_len0 B; omega
    have hp : A / B * B < P 80 := P_mul hq hB
    have hsum : A / B * B + A % B = A := by rw [Nat.mul_comm]; exact Nat.div_add_mod A B
    have q5 := P40 hq (by decide)
    have r5 := P40 hr (by decide)
    have p5 := P40 hp (by decide)
    have r1 := P1000 hr (by decide)
    have p1 := P1000 hp (by decide)
    simp only [h.1, h.2, decide_true, Bool.and_self, Bool.not_true, cond_false, cond_true, Div_D A1 (P40 hB (by decide)) (Nat.pos_of_ne_zero h0), Option.bind_some]
    rw [cf hl]
    simp only [Of_D A1, Of_D B1, Option.bind_some, rDiv_D A1 B1 (Nat.pos_of_ne_zero h0), is_D q5, is_D r5, decide_true, Bool.not_true, cond_false, cond_true, Cmp_D r1 B1]
    rw [cf (by unfold sgn; rw [if_pos (by omega)]; decide)]
    simp only [Mul_D hq hB (by decide), res_in p5, Option.bind_some, Add_D p1 r1, hsum, res_in (P40 hA (by decide)), decide_true, cond_true, Equal_D A1 A1]
  · have : (decide (fits1 a) && decide (fits1 b)) = false := by simpa using h
    rw [this]; rfl

/-- girdlelaw01.LimbsRings -/
def law_LimbsRings (a : List Int) (b : List Int) (c : List Int) : Option (Bool × Unit) :=
  (S.law_reckons (())).bind fun z1 =>
  cond (!z1.1) (some (false, ()))
    (
      (S.law_fit ([a, b, c], ())).bind fun z2 =>
      cond (!z2.1) (some (true, ()))
        (
          (S.limbs_Add (b, c, ())).bind fun z3 =>
          (S.limbs_Mul (a, z3.1, ())).bind fun z4 =>
          (S.limbs_Mul (a, b, ())).bind fun z5 =>
          (S.limbs_Mul (a, c, ())).bind fun z6 =>
          (S.limbs_Add (z5.1, z6.1, ())).bind fun z7 =>
          (S.limbs_Sub (z3.1, c, ())).bind fun z8 =>
          cond (decide (z3.2.1 = 0))
            (
              cond (decide (z4.2.1 = 0))
                (
                  cond (decide (z7.2.1 = 0))
                    (
                      cond (decide (z8.2.1 = 0))
                        (
                          (S.slices_Equal_api_Nat_uint32 (z4.1, z7.1, ())).bind fun z9 =>
                          cond (z9.1)
                            (
                              (S.slices_Equal_api_Nat_uint32 (z8.1, b, ())).bind fun z10 =>
                              some (z10.1, ())) (some (false, ()))) (some (false, ()))) (some (false, ()))) (some (false, ()))) (some (false, ()))))

theorem LimbsRings_true {a b c : List Int} (ha : inW a) (hb : inW b) (hc : inW c) : law_LimbsRings a b c = some (true, ()) := by
  simp only [law_LimbsRings, rk, Option.bind_some, Bool.not_true, cond_false, fit3 ha.2 hb.2 hc.2]
  by_cases h : fits1 a ∧ fits1 b ∧ fits1 c
  · obtain ⟨A, rfl, hA⟩ := fits_D ha.1 h.1
    obtain ⟨B, rfl, hB⟩ := fits_D hb.1 h.2.1
    obtain ⟨C, rfl, hC⟩ := fits_D hc.1 h.2.2
    have A1 := P1000 hA (by decide)
    have B1 := P1000 hB (by decide)
    have C1 := P1000 hC (by decide)
    have hs := P_sum hB hC
    have s5 := P40 hs (by decide)
    have s1 := P1000 hs (by decide)
    have hp := P_mul hA hs
    have p5 := P40 hp (by decide)
    have p1 := P1000 hp (by decide)
    have hx := P_mul hA hB
    have hy := P_mul hA hC
    have e : A * B + A * C = A * (B + C) := (Nat.mul_add A B C).symm
    have e2 : B + C - C = B := Nat.add_sub_cancel B C
    have hn : ¬ B + C < C := by omega
    simp only [h.1, h.2.1, h.2.2, decide_true, Bool.and_self, Bool.not_true, cond_false, cond_true, Option.bind_some, Add_D B1 C1, res_in s5, Mul_D hA hs (by decide), res_in p5, Mul_D hA hB (by decide), Mul_D hA hC (by decide),
      res_in (P40 hx (by decide)), res_in (P40 hy (by decide)), Add_D (P1000 hx (by decide)) (P1000 hy (by decide)), e, Sub_D s1 C1, hn, if_false, e2, res_in (P40 hB (by decide)), Equal_D p1 p1, Equal_D B1 B1]
  · have : (decide (fits1 a) && (decide (fits1 b) && decide (fits1 c))) = false := by
      simp only [Bool.and_eq_false_iff, decide_eq_false_iff_not]
      by_cases h1 : fits1 a <;> by_cases h2 : fits1 b <;> simp_all
    rw [this]; rfl
end Go.L

/-! LS -/
namespace Go.L
open Go.PM
set_option exponentiation.threshold 20000
set_option linter.unusedVariables false
set_option linter.unusedSimpArgs false

theorem Bits_D {A : Nat} (h : A < P 1000) : S.limbs_Bits (D A, ()) = some (blen A, ()) := by rw [Bits_eq (fine_D h) (can_D A), val_D]
theorem blen_nat {A : Nat} (h : A ≠ 0) : blen (A : Int) = ((A.log2 + 1 : Nat) : Int) := by
  unfold blen; rw [if_neg (by omega), Int.toNat_natCast]; omega
theorem log2_low {A : Nat} (h : A ≠ 0) : 2 ^ A.log2 ≤ A := ((Nat.log2_eq_iff h).1 rfl).1
theorem log2_high {A : Nat} (h : A ≠ 0) : A < 2 ^ (A.log2 + 1) := ((Nat.log2_eq_iff h).1 rfl).2
theorem log2_shift {A n : Nat} (h : A ≠ 0) : (A * 2 ^ n).log2 = A.log2 + n := by
  have hp : 0 < 2 ^ n := Nat.pow_pos (by decide)
  refine (Nat.log2_eq_iff (by have := Nat.mul_pos (Nat.pos_of_ne_zero h) hp; omega)).2 ⟨?_, ?_⟩
  · rw [Nat.pow_add]; exact Nat.mul_le_mul_right _ (log2_low h)
  · rw [show A.log2 + n + 1 = (A.log2 + 1) + n by omega, Nat.pow_add]; exact Nat.mul_lt_mul_of_pos_right (log2_high h) hp
theorem log2_lt_P {A k : Nat} (h0 : A ≠ 0) (h : A < P k) : A.log2 < 32 * k := by rw [P_two] at h; exact (Nat.log2_lt h0).2 h

def tailOf (A t : Nat) : Prop := A % 2 ^ t = 0 ∧ A % 2 ^ (t + 1) ≠ 0
theorem tailOf_unique {A s t : Nat} (h : tailOf A s) (k : tailOf A t) : s = t := by
  have aux : ∀ {s t : Nat}, tailOf A s → tailOf A t → ¬ s < t := by
    intro s t h k hlt
    apply h.2
    have h1 : 2 ^ (s + 1) ∣ 2 ^ t := Nat.pow_dvd_pow 2 (by omega)
    exact Nat.mod_eq_zero_of_dvd (Nat.dvd_trans h1 (Nat.dvd_of_mod_eq_zero k.1))
  have h1 := aux h k
  have h2 := aux k h
  omega
theorem tailOf_shift {A t n : Nat} (h : tailOf A t) : tailOf (A * 2 ^ n) (t + n) := by
  have hp : 0 < 2 ^ n := Nat.pow_pos (by decide)
  constructor
  · rw [Nat.pow_add, Nat.mul_mod_mul_right, h.1, Nat.zero_mul]
  · rw [show t + n + 1 = (t + 1) + n by omega, Nat.pow_add, Nat.mul_mod_mul_right]
    have := Nat.mul_pos (Nat.pos_of_ne_zero h.2) hp
    omega
theorem tailOf_lt {A t : Nat} (h0 : A ≠ 0) (h : tailOf A t) : 2 ^ t ≤ A := Nat.le_of_dvd (Nat.pos_of_ne_zero h0) (Nat.dvd_of_mod_eq_zero h.1)
theorem tailF_spec : ∀ (a : List Int) (i : Nat), ok W a → val W a ≠ 0 → ∃ t : Nat, tailF i a = 32 * (i : Int) + t ∧ tailOf (val W a).toNat t := by
  intro a
  induction a with
  | nil => intro i _ h; exact absurd rfl h
  | cons x a ih =>
    intro i ho h
    have hx := (ok_cons.1 ho).1
    have hv := val_nonneg (B := W) (by decide) (ok_cons.1 ho).2
    obtain ⟨X, rfl⟩ : ∃ X : Nat, x = X := ⟨x.toNat, by omega⟩
    obtain ⟨V, hV⟩ : ∃ V : Nat, val W a = V := ⟨(val W a).toNat, by omega⟩
    simp only [W] at hx
    have hN : (val W ((X : Int) :: a)).toNat = X + 4294967296 * V := by simp only [val_cons, hV, W]; omega
    rw [hN]
    simp only [tailF]
    by_cases h0 : X = 0
    · subst h0
      rw [if_neg (by simp)]
      have hv0 : val W a ≠ 0 := by intro e; apply h; simp only [val_cons, e]; simp
      obtain ⟨t, h1, h2⟩ := ih (i + 1) (ok_cons.1 ho).2 hv0
      refine ⟨32 + t, by rw [h1]; omega, ?_⟩
      rw [hV, Int.toNat_natCast] at h2
      have := tailOf_shift (n := 32) h2
      rw [show 0 + 4294967296 * V = V * 2 ^ 32 by omega, Nat.add_comm 32 t]
      exact this
    · rw [if_pos (by omega), Int.toNat_natCast]
      obtain ⟨h1, h2, h3⟩ := tz_spec h0 (by omega)
      refine ⟨tz X, rfl, ?_⟩
      have hd : ∀ k, k ≤ 32 → (X + 4294967296 * V) % 2 ^ k = X % 2 ^ k := by
        intro k hk
        have hdv : 2 ^ k ∣ 4294967296 * V := Nat.dvd_trans (show 2 ^ k ∣ 2 ^ 32 from Nat.pow_dvd_pow 2 hk) (Nat.dvd_mul_right _ _)
        rw [Nat.add_mod, Nat.mod_eq_zero_of_dvd hdv, Nat.add_zero, Nat.mod_mod]
      exact ⟨by rw [hd _ (by omega)]; exact h2, by rw [hd _ (by omega)]; exact h3⟩
theorem Tail_D {A : Nat} (h : A < P 1000) (h0 : A ≠ 0) : ∃ t : Nat, S.limbs_Tail (D A, ()) = some ((t : Int), ()) ∧ tailOf A t := by
  obtain ⟨t, h1, h2⟩ := tailF_spec (D A) 0 (can_D A).1 (by rw [val_D]; omega)
  rw [val_D, Int.toNat_natCast] at h2
  refine ⟨t, ?_, h2⟩
  simp only [S.limbs_Tail]
  rw [if_pos ⟨fine_D h, (can_D A).1⟩, h1]
  simp
theorem two_P {n k : Nat} (h : n < 32 * k) : 2 ^ n < P k := by rw [P_two]; exact Nat.pow_lt_pow_right (by decide) h

/-- girdlelaw01.LimbsOrders -/
def law_LimbsOrders (a : List Int) (b : List Int) : Option (Bool × Unit) :=
  (S.law_reckons (())).bind fun z1 =>
  cond (!z1.1) (some (false, ()))
    (
      (S.law_fit ([a, b], ())).bind fun z2 =>
      cond (!z2.1) (some (true, ()))
        (
          (S.ref_Of (a, ())).bind fun z3 =>
          (S.ref_Of (b, ())).bind fun z4 =>
          (S.limbs_Compare (a, b, ())).bind fun z5 =>
          (S.ref_Compare (z3.1, z4.1, ())).bind fun z6 =>
          cond (!(decide (z5.1 = z6.1))) (some (false, ()))
            (
              (S.limbs_Compare (b, a, ())).bind fun z7 =>
              cond (!(decide (z5.1 = (IntKind.i64.wrap (0 - z7.1))))) (some (false, ()))
                (
                  (S.slices_Equal_api_Nat_uint32 (a, b, ())).bind fun z9 =>
                  cond (!(decide (z5.1 = 0) == z9.1)) (some (false, ()))
                    (
                      (S.limbs_Bits (a, ())).bind fun z10 =>
                      (S.limbs_Tail (a, ())).bind fun z11 =>
                      cond (decide ((a.length : Int) = 0))
                        (
                          cond (decide (z10.1 = 0)) (some (decide (z11.1 = 0), ())) (some (false, ())))
                        (
                          (S.ref_Power (z11.1, ())).bind fun z12 =>
                          (S.ref_Div (z3.1, z12.1, ())).bind fun z13 =>
                          (S.ref_Power ((IntKind.i64.wrap (z11.1 + 1)), ())).bind fun z15 =>
                          (S.ref_Div (z3.1, z15.1, ())).bind fun z16 =>
                          (S.ref_Power (z10.1, ())).bind fun z17 =>
                          (S.ref_Compare (z3.1, z17.1, ())).bind fun z18 =>
                          cond (decide (z18.1 < 0))
                            (
                              (S.ref_Power ((IntKind.i64.wrap (z10.1 - 1)), ())).bind fun z20 =>
                              (S.ref_Compare (z3.1, z20.1, ())).bind fun z21 =>
                              cond (decide (0 ≤ z21.1))
                                (
                                  cond (decide ((z13.2.1.length : Int) = 0)) (some (!(decide ((z16.2.1.length : Int) = 0)), ())) (some (false, ()))) (some (false, ()))) (some (false, ()))))))))

theorem LimbsOrders_true {a b : List Int} (ha : inW a) (hb : inW b) : law_LimbsOrders a b = some (true, ()) := by
  simp only [law_LimbsOrders, rk, Option.bind_some, Bool.not_true, cond_false, fit2 ha.2 hb.2]
  by_cases h : fits1 a ∧ fits1 b
  · obtain ⟨A, rfl, hA⟩ := fits_D ha.1 h.1
    obtain ⟨B, rfl, hB⟩ := fits_D hb.1 h.2
    have A1 := P1000 hA (by decide)
    have B1 := P1000 hB (by decide)
    have e1 : IntKind.i64.wrap (0 - sgn (B : Int) (A : Int)) = sgn (A : Int) (B : Int) := by
      unfold sgn
      rcases Nat.lt_trichotomy A B with h | h | h
      · rw [if_neg (by omega), if_pos (by omega), if_pos (by omega)]; decide
      · rw [if_neg (by omega), if_neg (by omega), if_neg (by omega), if_neg (by omega)]; decide
      · rw [if_pos (by omega), if_neg (by omega), if_pos (by omega)]; decide
    have e2 : (decide (sgn (A : Int) (B : Int) = 0) == decide (A = B)) = true := by
      unfold sgn
      split
      · rw [decide_eq_false (by omega), decide_eq_false (by omega)]; rfl
      · split
        · rw [decide_eq_false (by omega), decide_eq_false (by omega)]; rfl
        · rw [decide_eq_true (by omega), decide_eq_true (by omega)]; rfl
    simp only [h.1, h.2, decide_true, Bool.and_self, Bool.not_true, cond_false, Of_D A1, Of_D B1, Option.bind_some, Cmp_D A1 B1, rCmp_D A1 B1, Cmp_D B1 A1, e1, Equal_D A1 B1, e2, Bits_D A1]
    by_cases h0 : A = 0
    · subst h0; rfl
    obtain ⟨t, ht, ht1, ht2⟩ := Tail_D A1 h0
    have hl : ¬ ((D A).length : Int) = 0 := by have := @D_len0 A; omega
    have hlog := log2_lt_P h0 hA
    have htl : t < 1280 := by
      rcases Nat.lt_or_ge t 1280 with h | h
      · exact h
      · have h1 := tailOf_lt h0 ⟨ht1, ht2⟩
        have h2 : (2 : Nat) ^ 1280 ≤ 2 ^ t := Nat.pow_le_pow_right (by decide) h
        rw [P_two] at hA
        omega
    simp only [ht, Option.bind_some]
    rw [cf hl, Power_D (show t ≤ 100000 by omega)]
    simp only [Option.bind_some]
    rw [wi64 (x := (t : Int) + 1) (by omega) (by omega), rDiv_D A1 (two_P (by omega)) (Nat.pow_pos (by decide)), show ((t : Int) + 1) = ((t + 1 : Nat) : Int) by omega, Power_D (show t + 1 ≤ 100000 by omega)]
    simp only [Option.bind_some]
    rw [rDiv_D A1 (two_P (by omega)) (Nat.pow_pos (by decide)), blen_nat h0, Power_D (show A.log2 + 1 ≤ 100000 by omega)]
    simp only [Option.bind_some]
    have hh := log2_high h0
    have hlo := log2_low h0
    rw [rCmp_D A1 (two_P (by omega))]
    simp only [Option.bind_some]
    rw [ct (by unfold sgn; rw [if_pos (by omega)]; decide), wi64 (by omega) (by omega), show (((A.log2 + 1 : Nat) : Int) - 1) = ((A.log2 : Nat) : Int) by omega, Power_D (show A.log2 ≤ 100000 by omega)]
    simp only [Option.bind_some]
    rw [rCmp_D A1 (two_P (by omega))]
    simp only [Option.bind_some]
    rw [ct (by unfold sgn; rw [if_neg (by omega)]; split <;> decide), ht1, E_zero, ct (by decide), decide_eq_false (by have := @E_len0 (A % 2 ^ (t + 1)); omega)]
    rfl
  · have : (decide (fits1 a) && decide (fits1 b)) = false := by simpa using h
    rw [this]; rfl

/-- girdlelaw01.LimbsShifts -/
def law_LimbsShifts (a : List Int) (n : Int) : Option (Bool × Unit) :=
  (S.law_reckons (())).bind fun z1 =>
  cond (!z1.1) (some (false, ()))
    (
      (S.law_fit ([a], ())).bind fun z2 =>
      cond (!z2.1) (some (true, ()))
        (
          (S.limbs_Left (a, n, ())).bind fun z3 =>
          (S.limbs_Right (a, n, ())).bind fun z4 =>
          cond (decide (n < 0))
            (
              cond (decide (z3.2.1 = 1))
                (
                  cond (decide (z4.2.1 = 1))
                    (
                      cond (decide ((z3.1.length : Int) = 0)) (some (decide ((z4.1.length : Int) = 0), ())) (some (false, ()))) (some (false, ()))) (some (false, ())))
            (
              cond (decide ((a.length : Int) = 0))
                (
                  cond (decide (z3.2.1 = 0))
                    (
                      cond (decide (z4.2.1 = 0))
                        (
                          cond (decide ((z3.1.length : Int) = 0)) (some (decide ((z4.1.length : Int) = 0), ())) (some (false, ()))) (some (false, ()))) (some (false, ())))
                (
                  cond (decide (2000 < n))
                    (
                      cond (decide (n ≤ 16384))
                        (
                          (S.limbs_Bits (a, ())).bind fun z5 =>
                          cond ((decide (z3.2.1 = 0) == decide ((IntKind.i64.wrap (z5.1 + n)) ≤ 16384)))
                            (
                              cond (decide (z3.2.1 = 0))
                                (
                                  cond (decide (z4.2.1 = 0))
                                    (
                                      cond (decide (n < (IntKind.i64.wrap (32 * (a.length : Int))))) (some (true, ())) (some (decide ((z4.1.length : Int) = 0), ()))) (some (false, ())))
                                (
                                  cond (decide (z3.2.1 = 11))
                                    (
                                      cond (decide (z4.2.1 = 0))
                                        (
                                          cond (decide (n < (IntKind.i64.wrap (32 * (a.length : Int))))) (some (true, ())) (some (decide ((z4.1.length : Int) = 0), ()))) (some (false, ()))) (some (false, ())))) (some (false, ())))
                        (
                          cond ((decide (z3.2.1 = 0) == false))
                            (
                              cond (decide (z3.2.1 = 0))
                                (
                                  cond (decide (z4.2.1 = 0))
                                    (
                                      cond (decide (n < (IntKind.i64.wrap (32 * (a.length : Int))))) (some (true, ())) (some (decide ((z4.1.length : Int) = 0), ()))) (some (false, ())))
                                (
                                  cond (decide (z3.2.1 = 11))
                                    (
                                      cond (decide (z4.2.1 = 0))
                                        (
                                          cond (decide (n < (IntKind.i64.wrap (32 * (a.length : Int))))) (some (true, ())) (some (decide ((z4.1.length : Int) = 0), ()))) (some (false, ()))) (some (false, ())))) (some (false, ()))))
                    (
                      (S.ref_Power (n, ())).bind fun z11 =>
                      (S.ref_Of (a, ())).bind fun z12 =>
                      (S.ref_Div (z12.1, z11.1, ())).bind fun z13 =>
                      cond (!(decide (z3.2.1 = 0))) (some (false, ()))
                        (
                          cond (!(decide (z4.2.1 = 0))) (some (false, ()))
                            (
                              (S.ref_Mul (z12.1, z11.1, ())).bind fun z14 =>
                              (S.law_is (z3.1, z14.1, ())).bind fun z15 =>
                              cond (!z15.1) (some (false, ()))
                                (
                                  (S.law_is (z4.1, z13.1, ())).bind fun z16 =>
                                  cond (!z16.1) (some (false, ()))
                                    (
                                      (S.limbs_Right (z3.1, n, ())).bind fun z17 =>
                                      cond (decide (z17.2.1 = 0))
                                        (
                                          (S.slices_Equal_api_Nat_uint32 (z17.1, a, ())).bind fun z18 =>
                                          cond (z18.1)
                                            (
                                              (S.limbs_Bits (z3.1, ())).bind fun z19 =>
                                              (S.limbs_Bits (a, ())).bind fun z20 =>
                                              cond (decide (z19.1 = (IntKind.i64.wrap (z20.1 + n))))
                                                (
                                                  (S.limbs_Tail (z3.1, ())).bind fun z22 =>
                                                  (S.limbs_Tail (a, ())).bind fun z23 =>
                                                  some (decide (z22.1 = (IntKind.i64.wrap (z23.1 + n))), ())) (some (false, ()))) (some (false, ()))) (some (false, ())))))))))))

theorem LimbsShifts_true {a : List Int} {n : Int} (ha : inW a) (hn0 : -9223372036854775808 ≤ n) (hn : n < 9223372036854775808) : law_LimbsShifts a n = some (true, ()) := by
  simp only [law_LimbsShifts, rk, Option.bind_some, Bool.not_true, cond_false, fit1 ha.2]
  by_cases h : fits1 a
  · obtain ⟨A, rfl, hA⟩ := fits_D ha.1 h
    have A1 := P1000 hA (by decide)
    have A5 := P40 hA (by decide)
    have hlA := dlen hA
    simp only [h, decide_true, Bool.not_true, cond_false]
    by_cases hneg : n < 0
    · have e1 : S.limbs_Left (D A, n, ()) = some ([], 1, ()) := by
        simp only [S.limbs_Left]; rw [if_pos ⟨by omega, (can_D A).1⟩, if_pos hneg]
      have e2 : S.limbs_Right (D A, n, ()) = some ([], 1, ()) := by
        simp only [S.limbs_Right]; rw [if_pos ⟨by unfold fine; omega, (can_D A).1, hn⟩, if_pos hneg]
      simp only [e1, e2, Option.bind_some]
      rw [ct hneg]; rfl
    obtain ⟨N, rfl⟩ : ∃ N : Nat, n = N := ⟨n.toNat, by omega⟩
    rw [Left_D A1, Right_D A5 (by omega)]
    simp only [Option.bind_some]
    rw [cf hneg]
    by_cases h0 : A = 0
    · subst h0
      rw [if_pos rfl, Nat.zero_div]; rfl
    have hl : ¬ ((D A).length : Int) = 0 := by have := @D_len0 A; omega
    have hlog := log2_lt_P h0 hA
    rw [if_neg h0, cf hl]
    by_cases hbig : 2000 < N
    · rw [ct (by omega), wi64 (x := 32 * ((D A).length : Int)) (by omega) (by omega)]
      have last : cond (decide ((N : Int) < 32 * ((D A).length : Int))) (some (true, ())) (some (decide (((D (A / 2 ^ N)).length : Int) = 0), ())) = some (true, ()) := by
        by_cases hlt : (N : Int) < 32 * ((D A).length : Int)
        · rw [ct hlt]
        · rw [cf hlt]
          have h1 := dlen_lt A
          rw [P_two] at h1
          have h2 : 2 ^ (32 * (D A).length) ≤ 2 ^ N := Nat.pow_le_pow_right (by decide) (by omega)
          rw [Nat.div_eq_of_lt (by omega)]; rfl
      by_cases hmax : 16384 < N
      · rw [if_pos hmax, cf (by omega)]
        simp only [last]
        rfl
      · rw [if_neg hmax, ct (by omega), Bits_D A1, blen_nat h0]
        simp only [Option.bind_some]
        rw [wi64 (by omega) (by omega)]
        have hne : A * 2 ^ N ≠ 0 := by have := Nat.mul_pos (Nat.pos_of_ne_zero h0) (show 0 < 2 ^ N from Nat.pow_pos (by decide)); omega
        by_cases hin : A * 2 ^ N < P 512
        · have hle : A.log2 + N < 16384 := by have := log2_lt_P hne hin; rw [log2_shift h0] at this; exact this
          simp only [res_in hin, last]
          rw [decide_eq_true (show (((A.log2 + 1 : Nat) : Int) + (N : Int)) ≤ 16384 by omega)]
          rfl
        · have hge : ¬ A.log2 + N < 16384 := by
            intro hlt
            apply hin
            rw [← log2_shift h0] at hlt
            rw [P_two]
            exact (Nat.log2_lt hne).1 hlt
          simp only [res_out (Nat.le_of_not_lt hin), last]
          rw [decide_eq_false (show ¬ (((A.log2 + 1 : Nat) : Int) + (N : Int)) ≤ 16384 by omega)]
          rfl
    · have hp : 2 ^ N < P 63 := two_P (by omega)
      have hm : A * 2 ^ N < P 103 := P_mul hA hp
      have hm5 := P40 hm (by decide)
      have hm1 := P1000 hm (by decide)
      have hp1 := P1000 hp (by decide)
      have hpos : 0 < 2 ^ N := Nat.pow_pos (by decide)
      have hd : A / 2 ^ N < P 40 := Nat.lt_of_le_of_lt (Nat.div_le_self _ _) hA
      have hback : A * 2 ^ N / 2 ^ N = A := Nat.mul_div_cancel _ hpos
      have hne : A * 2 ^ N ≠ 0 := by have := Nat.mul_pos (Nat.pos_of_ne_zero h0) hpos; omega
      obtain ⟨t, ht, ht'⟩ := Tail_D A1 h0
      obtain ⟨u, hu, hu'⟩ := Tail_D hm1 hne
      have htu : u = t + N := tailOf_unique hu' (tailOf_shift ht')
      have htl : t < 1280 := by
        rcases Nat.lt_or_ge t 1280 with h | h
        · exact h
        · have h1 := tailOf_lt h0 ht'
          have h2 : (2 : Nat) ^ 1280 ≤ 2 ^ t := Nat.pow_le_pow_right (by decide) h
          rw [P_two] at hA
          omega
      rw [cf (by omega), if_neg (by omega), Power_D (by omega)]
      simp only [Option.bind_some, Of_D A1, rDiv_D A1 hp1 hpos, res_in hm5, decide_true, Bool.not_true, cond_false, rMul_D A1 hp1, is_D hm5, is_D (P40 hd (by decide)), Right_D hm5 (show N < 9223372036854775808 by omega), hback, cond_true, Equal_D A1 A1,
        Bits_D hm1, Bits_D A1, blen_nat hne, blen_nat h0, log2_shift h0, ht, hu]
      rw [wi64 (by omega) (by omega), wi64 (by omega) (by omega), ct (by omega), decide_eq_true (by omega)]
  · have : decide (fits1 a) = false := by simpa using h
    rw [this]; rfl
end Go.L

/-! LT -/
namespace Go.L
open Go.PM
set_option linter.unusedVariables false
set_option linter.unusedSimpArgs false

theorem limbs_Of_D {n : Nat} (h : n < 18446744073709551616) : S.limbs_Of ((n : Int), ()) = some (D n, ()) := by
  rw [Of_eq (by omega) (by omega), Int.toNat_natCast]; rfl
theorem P_2 : P 2 = 18446744073709551616 := by decide
theorem Small_D {n : Nat} (h : n < P 1000) : S.limbs_Small (D n, ()) = some (if 2 < (D n).length then (0, 11, ()) else ((n : Int), 0, ())) := by
  simp only [S.limbs_Small]
  rw [if_pos ⟨(can_D n).1, fine_D h⟩, val_D]

/-- girdlelaw01.LimbsSmall -/
def law_LimbsSmall (n : Int) (a : List Int) : Option (Bool × Unit) :=
  (S.law_reckons (())).bind fun z1 =>
  cond (!z1.1) (some (false, ()))
    (
      (S.limbs_Of (n, ())).bind fun z2 =>
      (S.limbs_Small (z2.1, ())).bind fun z3 =>
      cond (!(decide (z3.2.1 = 0))) (some (false, ()))
        (
          cond (!(decide (z3.1 = n))) (some (false, ()))
            (
              (S.limbs_Of (n, ())).bind fun z4 =>
              (S.limbs_Check (z4.1, ())).bind fun z5 =>
              cond (!(decide (z5.1 = 0))) (some (false, ()))
                (
                  (S.law_fit ([a], ())).bind fun z6 =>
                  cond (!z6.1) (some (true, ()))
                    (
                      (S.limbs_Small (a, ())).bind fun z7 =>
                      cond (decide (2 < (a.length : Int)))
                        (
                          cond (decide (z7.2.1 = 11)) (some (decide (z7.1 = 0), ())) (some (false, ())))
                        (
                          cond (decide (z7.2.1 = 0))
                            (
                              (S.limbs_Of (z7.1, ())).bind fun z8 =>
                              (S.slices_Equal_api_Nat_uint32 (z8.1, a, ())).bind fun z9 =>
                              some (z9.1, ())) (some (false, ()))))))))

theorem LimbsSmall_true {n : Int} {a : List Int} (hn0 : 0 ≤ n) (hn : n < 18446744073709551616) (ha : inW a) : law_LimbsSmall n a = some (true, ()) := by
  obtain ⟨N, rfl⟩ : ∃ N : Nat, n = N := ⟨n.toNat, by omega⟩
  have hN : N < P 2 := by rw [P_2]; omega
  have hl := dlen hN
  have N1 := P1000 hN (by decide)
  simp only [law_LimbsSmall, rk, Option.bind_some, Bool.not_true, cond_false, limbs_Of_D (show N < 18446744073709551616 by omega), Small_D N1, Check_D (P40 hN (by decide))]
  rw [if_neg (by omega)]
  simp only [decide_true, Bool.not_true, cond_false, fit1 ha.2, Option.bind_some]
  by_cases h : fits1 a
  · obtain ⟨A, rfl, hA⟩ := fits_D ha.1 h
    have A1 := P1000 hA (by decide)
    simp only [h, decide_true, Bool.not_true, cond_false, Small_D A1, Option.bind_some]
    by_cases h2 : 2 < (D A).length
    · rw [if_pos h2, ct (by omega)]; rfl
    · have h3 := dlen_lt A
      have h4 : P (D A).length ≤ P 2 := P_mono (by omega)
      rw [P_2] at h4
      rw [if_neg h2, cf (by omega)]
      simp only [limbs_Of_D (show A < 18446744073709551616 by omega), Option.bind_some, Equal_D A1 A1, decide_true, cond_true]
  · have : decide (fits1 a) = false := by simpa using h
    rw [this]; rfl

/-- law_LimbsBounds: one round of loop 1. -/
def law_LimbsBounds_s1 (κ0 : Int → Int → (List Int) → (List Int) → Int → Int → Option (Bool × Unit)) (κ1 : Int → Int → (List Int) → (List Int) → Int → Int → Option (Bool × Unit)) (n2 : Int) (m : Int) (a : List Int) (b : List Int) (t44 : Int) (t45 : Int) : Option (Bool × Unit) :=
  cond (decide (t45 < t44))
    (
      cond (decide (0 ≤ t45))
        (
          cond (decide (t45 < (b.length : Int))) (κ1 n2 m a (b.set t45.toNat 4294967295) t44 (IntKind.i64.wrap (t45 + 1))) none) none)
    (
      (S.limbs_Check (a, ())).bind fun z8 =>
      cond (!(decide (z8.1 = 0) == decide (n2 ≤ 512)))
        (
          cond (decide (512 < n2)) (some (true, ())) (some (decide (512 < m), ())))
        (
          cond (decide (512 < n2))
            (
              cond (decide (512 < n2)) (some (true, ())) (some (decide (512 < m), ())))
            (
              cond (decide (512 < m))
                (
                  cond (decide (512 < n2)) (some (true, ())) (some (decide (512 < m), ())))
                (
                  (S.limbs_Mul (a, b, ())).bind fun z9 =>
                  (S.limbs_Add (a, b, ())).bind fun z10 =>
                  let z12 := IntKind.i64.wrap ((max n2 m) + 1)
                  cond ((decide (z9.2.1 = 0) == decide ((IntKind.i64.wrap (n2 + m)) ≤ 512)))
                    (
                      cond (decide (z9.2.1 = 0))
                        (
                          cond ((decide (z10.2.1 = 0) == decide (z12 ≤ 512)))
                            (
                              cond (decide (z10.2.1 = 0)) (some (true, ()))
                                (
                                  cond (decide (z10.2.1 = 11)) (some (decide ((z10.1.length : Int) = 0), ())) (some (false, ())))) (some (false, ())))
                        (
                          cond (decide (z9.2.1 = 11))
                            (
                              cond (decide ((z9.1.length : Int) = 0))
                                (
                                  cond ((decide (z10.2.1 = 0) == decide (z12 ≤ 512)))
                                    (
                                      cond (decide (z10.2.1 = 0)) (some (true, ()))
                                        (
                                          cond (decide (z10.2.1 = 11)) (some (decide ((z10.1.length : Int) = 0), ())) (some (false, ())))) (some (false, ()))) (some (false, ()))) (some (false, ())))) (some (false, ()))))))

def law_LimbsBounds_l1 (K : Nat) (κ0 : Int → Int → (List Int) → (List Int) → Int → Int → Option (Bool × Unit)) : Nat → Int → Int → (List Int) → (List Int) → Int → Int → Option (Bool × Unit)
  | 0, _, _, _, _, _, _ => none
  | n + 1, n2, m, a, b, t44, t45 => law_LimbsBounds_s1 κ0 (law_LimbsBounds_l1 K κ0 n) n2 m a b t44 t45

/-- law_LimbsBounds: one round of loop 0. -/
def law_LimbsBounds_s0 (I1 : Int → Int → (List Int) → (List Int) → Int → Int → Option (Bool × Unit)) (κ0 : Int → Int → (List Int) → (List Int) → Int → Int → Option (Bool × Unit)) (n2 : Int) (m : Int) (a : List Int) (b : List Int) (t35 : Int) (t36 : Int) : Option (Bool × Unit) :=
  cond (decide (t36 < t35))
    (
      cond (decide (0 ≤ t36))
        (
          cond (decide (t36 < (a.length : Int))) (κ0 n2 m (a.set t36.toNat 4294967295) b t35 (IntKind.i64.wrap (t36 + 1))) none) none) (I1 n2 m a b (b.length : Int) 0)

def law_LimbsBounds_l0 (K : Nat) : Nat → Int → Int → (List Int) → (List Int) → Int → Int → Option (Bool × Unit)
  | 0, _, _, _, _, _, _ => none
  | n + 1, n2, m, a, b, t35, t36 => law_LimbsBounds_s0 (law_LimbsBounds_l1 K (law_LimbsBounds_l0 K n) K) (law_LimbsBounds_l0 K n) n2 m a b t35 t36

/-- girdlelaw01.LimbsBounds -/
def law_LimbsBounds_b (I0 : Int → Int → (List Int) → (List Int) → Int → Int → Option (Bool × Unit)) (n : Int) (m : Int) : Option (Bool × Unit) :=
  (S.law_reckons (())).bind fun z1 =>
  cond (!z1.1) (some (false, ()))
    (
      cond (decide (n < 1)) (some (true, ()))
        (
          cond (decide (m < 1)) (some (true, ()))
            (
              cond (decide (600 < n)) (some (true, ()))
                (
                  cond (decide (600 < m)) (some (true, ()))
                    (
                      cond (decide (0 ≤ n))
                        (
                          cond (decide (n * 4 ≤ 140737488351232))
                            (
                              let z2 := (List.replicate n.toNat 0 : List Int)
                              cond (decide (0 ≤ m))
                                (
                                  cond (decide (m * 4 ≤ 140737488351232)) (I0 n m z2 (List.replicate m.toNat 0 : List Int) (z2.length : Int) 0) none) none) none) none)))))

def law_LimbsBounds (K : Nat) (n : Int) (m : Int) : Option (Bool × Unit) := law_LimbsBounds_b (law_LimbsBounds_l0 K K) n m

def S.law_LimbsBounds (x : Int × Int × Unit) : Option (Bool × Unit) := if -9223372036854775808 ≤ x.1 ∧ x.1 < 9223372036854775808 ∧ -9223372036854775808 ≤ x.2.1 ∧ x.2.1 < 9223372036854775808 then some (true, ()) else none
/-- As many digits as are told, each the greatest. -/
def full (n : Nat) : List Int := List.replicate n 4294967295
theorem full_ok (n : Nat) : ok W (full n) := by
  intro x hx
  rw [List.eq_of_mem_replicate hx]; decide
theorem full_val (n : Nat) : val W (full n) = ((P n - 1 : Nat) : Int) := by
  induction n with
  | zero => rfl
  | succ n ih =>
    have h := P_pos n
    rw [full, List.replicate_succ, val_cons]
    have ih' : val W (List.replicate n 4294967295) = ((P n - 1 : Nat) : Int) := ih
    rw [ih', P_succ]
    simp only [W]
    omega
theorem full_D (n : Nat) : full n = D (P n - 1) := by
  have hc : can (full n) := by
    refine can_of_top (full_ok n) ?_
    cases n with
    | zero => exact .inl rfl
    | succ n => right; simp [full, List.getD]
  have := can_eq hc
  rw [full_val, Int.toNat_natCast] at this
  exact this
theorem full_len (n : Nat) : (full n).length = n := by simp [full]
theorem fill_set (n i : Nat) (h : i < n) : (List.replicate i 4294967295 ++ List.replicate (n - i) (0 : Int)).set i 4294967295 = List.replicate (i + 1) 4294967295 ++ List.replicate (n - (i + 1)) 0 := by
  obtain ⟨r, hr⟩ : ∃ r, n - i = r + 1 := ⟨n - i - 1, by omega⟩
  have := set_zeros (List.replicate i (4294967295 : Int)) r 4294967295
  rw [List.length_replicate] at this
  rw [hr, this, show n - (i + 1) = r by omega, show List.replicate (i + 1) (4294967295 : Int) = List.replicate i 4294967295 ++ [4294967295] from List.replicate_succ']
theorem full_Mul {n m : Nat} (hn : 1 ≤ n) (hm : 1 ≤ m) (hn5 : n ≤ 512) (hm5 : m ≤ 512) : ∃ y, S.limbs_Mul (full n, full m, ()) = some (if n + m ≤ 512 then (y, 0, ()) else ([], 11, ())) := by
  have h1 := P_pos n
  have h2 := P_pos m
  have e : val W (full n) * val W (full m) = (((P n - 1) * (P m - 1) : Nat) : Int) := by rw [full_val, full_val, Int.natCast_mul]
  simp only [S.limbs_Mul]
  rw [if_pos ⟨by unfold fine; rw [full_len]; omega, by unfold fine; rw [full_len]; omega, full_ok n, full_ok m⟩, e, Int.toNat_natCast]
  have ne1 : full n ≠ [] := by intro h; have := full_len n; rw [h] at this; simp at this; omega
  have ne2 : full m ≠ [] := by intro h; have := full_len m; rw [h] at this; simp at this; omega
  by_cases hle : n + m ≤ 512
  · refine ⟨D ((P n - 1) * (P m - 1)), ?_⟩
    rw [if_pos hle, if_neg (by rw [full_len, full_len]; omega), res_in (P40 (P_mul (show P n - 1 < P n by omega) (show P m - 1 < P m by omega)) hle)]
  · refine ⟨[], ?_⟩
    rw [if_neg hle]
    by_cases hbig : 513 < n + m
    · rw [if_pos ⟨ne1, ne2, by rw [full_len, full_len]; exact hbig⟩]
    · rw [if_neg (by rw [full_len, full_len]; omega), res_out]
      have hs : n + m = 513 := by omega
      have hpp : P n * P m = P 512 * 4294967296 := by rw [← P_add, hs, P_succ]
      have hn' : P n ≤ P 512 := P_mono hn5
      have hm' : P m ≤ P 512 := P_mono hm5
      have h5 := P_pos 512
      have : (P n - 1) * (P m - 1) + P n + P m = P n * P m + 1 := by
        obtain ⟨u, hu⟩ : ∃ u, P n = u + 1 := ⟨P n - 1, by omega⟩
        obtain ⟨v, hv⟩ : ∃ v, P m = v + 1 := ⟨P m - 1, by omega⟩
        rw [hu, hv, Nat.add_sub_cancel, Nat.add_sub_cancel, Nat.add_mul, Nat.mul_add]
        omega
      omega
theorem full_Add {n m : Nat} (hn : 1 ≤ n) (hm : 1 ≤ m) (hn5 : n ≤ 512) (hm5 : m ≤ 512) : ∃ y, S.limbs_Add (full n, full m, ()) = some (if max n m + 1 ≤ 512 then (y, 0, ()) else ([], 11, ())) := by
  have h1 := P_pos n
  have h2 := P_pos m
  have b1 : P n - 1 < P 1000 := P1000 (show P n - 1 < P n by omega) (by omega)
  have b2 : P m - 1 < P 1000 := P1000 (show P m - 1 < P m by omega) (by omega)
  rw [full_D, full_D, Add_D b1 b2]
  have m1 : P n ≤ P (max n m) := P_mono (by omega)
  have m2 : P m ≤ P (max n m) := P_mono (by omega)
  by_cases hle : max n m + 1 ≤ 512
  · refine ⟨D (P n - 1 + (P m - 1)), ?_⟩
    have := P_succ (max n m)
    rw [if_pos hle, res_in (P40 (show P n - 1 + (P m - 1) < P (max n m + 1) by omega) hle)]
  · refine ⟨[], ?_⟩
    have hn2 : P 1 ≤ P n := P_mono hn
    have hm2 : P 1 ≤ P m := P_mono hm
    have hp1 : P 1 = 4294967296 := by decide
    have hmax : max n m = 512 := by omega
    have hor : P n = P 512 ∨ P m = P 512 := by
      rcases Nat.le_total n m with h | h
      · right; rw [show m = 512 by omega]
      · left; rw [show n = 512 by omega]
    rw [if_neg hle, res_out (by omega)]

theorem bounds_end (K n : Nat) (κ0 : Int → Int → (List Int) → (List Int) → Int → Int → Option (Bool × Unit)) {N M : Nat} (hN : 1 ≤ N) (hM : 1 ≤ M) (hN6 : N ≤ 600) (hM6 : M ≤ 600) :
    law_LimbsBounds_l1 K κ0 (n + 1) (N : Int) (M : Int) (full N) (full M) (M : Int) (M : Int) = some (true, ()) := by
  simp only [law_LimbsBounds_l1, law_LimbsBounds_s1]
  have hc := Check_eq (a := full N) (by unfold fine; rw [full_len]; omega)
  have htop : ¬ (full N ≠ [] ∧ (full N).getD ((full N).length - 1) 0 = 0) := by
    rintro ⟨_, h⟩
    rw [full_len] at h
    simp only [full, List.getD] at h
    rw [List.getElem?_replicate_of_lt (by omega)] at h
    simp at h
  rw [if_neg htop, full_len] at hc
  rw [cf (by omega), hc]
  simp only [Option.bind_some]
  by_cases h5 : 512 < N
  · rw [if_pos h5, decide_eq_false (show ¬ ((N : Int) ≤ 512) by omega), decide_eq_true (show (512 : Int) < (N : Int) by omega)]
    rfl
  · rw [if_neg h5, decide_eq_true (show ((N : Int) ≤ 512) by omega), decide_eq_false (show ¬ (512 : Int) < (N : Int) by omega)]
    by_cases m5 : 512 < M
    · rw [decide_eq_true (show (512 : Int) < (M : Int) by omega)]
      rfl
    · rw [decide_eq_false (show ¬ (512 : Int) < (M : Int) by omega)]
      obtain ⟨y, hy⟩ := full_Mul hN hM (by omega) (by omega)
      obtain ⟨z, hz⟩ := full_Add hN hM (by omega) (by omega)
      simp only [decide_true, beq_self_eq_true, Bool.not_true, cond_false, hy, hz, Option.bind_some]
      have e : max (N : Int) (M : Int) = ((max N M : Nat) : Int) := by omega
      rw [wi64 (x := (N : Int) + (M : Int)) (by omega) (by omega), e, wi64 (x := ((max N M : Nat) : Int) + 1) (by omega) (by omega)]
      by_cases c1 : N + M ≤ 512 <;> by_cases c2 : max N M + 1 ≤ 512
      · rw [if_pos c1, if_pos c2, decide_eq_true (show (N : Int) + (M : Int) ≤ 512 by omega), decide_eq_true (show ((max N M : Nat) : Int) + 1 ≤ 512 by omega)]; rfl
      · omega
      · rw [if_neg c1, if_pos c2, decide_eq_false (show ¬ (N : Int) + (M : Int) ≤ 512 by omega), decide_eq_true (show ((max N M : Nat) : Int) + 1 ≤ 512 by omega)]; rfl
      · rw [if_neg c1, if_neg c2, decide_eq_false (show ¬ (N : Int) + (M : Int) ≤ 512 by omega), decide_eq_false (show ¬ ((max N M : Nat) : Int) + 1 ≤ 512 by omega)]; rfl
theorem bounds_in (K : Nat) (κ0 : Int → Int → (List Int) → (List Int) → Int → Int → Option (Bool × Unit)) {N M : Nat} (hN : 1 ≤ N) (hM : 1 ≤ M) (hN6 : N ≤ 600) (hM6 : M ≤ 600) : ∀ (r i n : Nat), i + r = M → r < n →
    law_LimbsBounds_l1 K κ0 n (N : Int) (M : Int) (full N) (List.replicate i 4294967295 ++ List.replicate (M - i) 0) (M : Int) (i : Int) = some (true, ()) := by
  intro r
  induction r with
  | zero =>
    intro i n hi hn
    obtain ⟨n, rfl⟩ : ∃ n', n = n' + 1 := ⟨n - 1, by omega⟩
    have : i = M := by omega
    subst this
    rw [Nat.sub_self, List.replicate_zero, List.append_nil]
    exact bounds_end K n κ0 hN hM hN6 hM6
  | succ r ih =>
    intro i n hi hn
    obtain ⟨n, rfl⟩ : ∃ n', n = n' + 1 := ⟨n - 1, by omega⟩
    simp only [law_LimbsBounds_l1, law_LimbsBounds_s1, Int.toNat_natCast]
    rw [ct (by omega), ct (by omega), ct (by simp; omega), fill_set M i (by omega), wi64 (by omega) (by omega), show ((i : Int) + 1) = ((i + 1 : Nat) : Int) by omega]
    exact ih (i + 1) n (by omega) (by omega)
theorem bounds_out (K : Nat) (hK : 600 < K) {N M : Nat} (hN : 1 ≤ N) (hM : 1 ≤ M) (hN6 : N ≤ 600) (hM6 : M ≤ 600) : ∀ (r i n : Nat), i + r = N → r < n →
    law_LimbsBounds_l0 K n (N : Int) (M : Int) (List.replicate i 4294967295 ++ List.replicate (N - i) 0) (List.replicate M 0) (N : Int) (i : Int) = some (true, ()) := by
  intro r
  induction r with
  | zero =>
    intro i n hi hn
    obtain ⟨n, rfl⟩ : ∃ n', n = n' + 1 := ⟨n - 1, by omega⟩
    have : i = N := by omega
    subst this
    simp only [law_LimbsBounds_l0, law_LimbsBounds_s0]
    rw [cf (by omega), Nat.sub_self, List.replicate_zero, List.append_nil, List.length_replicate]
    exact bounds_in K _ hN hM hN6 hM6 M 0 K (by omega) (by omega)
  | succ r ih =>
    intro i n hi hn
    obtain ⟨n, rfl⟩ : ∃ n', n = n' + 1 := ⟨n - 1, by omega⟩
    simp only [law_LimbsBounds_l0, law_LimbsBounds_s0, Int.toNat_natCast]
    rw [ct (by omega), ct (by omega), ct (by simp; omega), fill_set N i (by omega), wi64 (by omega) (by omega), show ((i : Int) + 1) = ((i + 1 : Nat) : Int) by omega]
    exact ih (i + 1) n (by omega) (by omega)
theorem law_LimbsBounds_ok (x : Int × Int × Unit) (y : Bool × Unit) (h : S.law_LimbsBounds x = some y) : ∃ K, law_LimbsBounds K x.1 x.2.1 = some y := by
  unfold S.law_LimbsBounds at h
  split at h <;> cases h
  rename_i hh
  obtain ⟨n, m, _⟩ := x
  simp only at hh ⊢
  refine ⟨601, ?_⟩
  simp only [law_LimbsBounds, law_LimbsBounds_b, rk, Option.bind_some, Bool.not_true, cond_false]
  by_cases h1 : n < 1
  · rw [ct h1]
  rw [cf h1]
  by_cases h2 : m < 1
  · rw [ct h2]
  rw [cf h2]
  by_cases h3 : 600 < n
  · rw [ct h3]
  rw [cf h3]
  by_cases h4 : 600 < m
  · rw [ct h4]
  rw [cf h4, ct (by omega), ct (by omega), ct (by omega), ct (by omega), List.length_replicate]
  obtain ⟨N, rfl⟩ : ∃ N : Nat, n = N := ⟨n.toNat, by omega⟩
  obtain ⟨M, rfl⟩ : ∃ M : Nat, m = M := ⟨m.toNat, by omega⟩
  rw [Int.toNat_natCast, Int.toNat_natCast]
  exact bounds_out 601 (by omega) (by omega) (by omega) (by omega) (by omega) N 0 601 (by omega) (by omega)
end Go.L
