/-
  strings as lists of bytes; decimal digits; library functions on strings. decimal digits: the text of a number. decimal digits: read; powers of ten. powers of ten; the head of the laws of digits; the laws that need no more. the laws of digits that repeat a text.
  No condition beyond those that each theorem names.
-/
import Derived.Test.YtdadepdcllachaaDoorH

/-! XA -/
namespace Go.L
open Go.PM
set_option exponentiation.threshold 20000
set_option linter.unusedVariables false
set_option linter.unusedSimpArgs false

/-- A string of bytes. -/
def mk (l : List UInt8) : ByteArray := ⟨l.toArray⟩
theorem mk_data (s : ByteArray) : mk s.data.toList = s := by cases s; rfl
theorem mk_of (s : ByteArray) : ∃ l, s = mk l := ⟨_, (mk_data s).symm⟩
theorem data_mk (l : List UInt8) : (mk l).data.toList = l := rfl
theorem mk_size (l : List UInt8) : (mk l).size = l.length := rfl
theorem mk_bt (l : List UInt8) (i : Int) : bt (mk l) i = ((l.getD i.toNat 0).toNat : Int) := rfl
theorem mk_append (a b : List UInt8) : mk a ++ mk b = mk (a ++ b) := by
  apply ByteArray.ext
  rw [ByteArray.data_append]
  simp [mk]
theorem mk_extract (l : List UInt8) (a b : Nat) : (mk l).extract a b = mk ((l.take b).drop a) := by
  apply ByteArray.ext
  rw [ByteArray.data_extract]
  apply Array.toList_inj.1
  rw [Array.toList_extract]
  show l.extract a b = (l.take b).drop a
  rw [List.extract_eq_take_drop, List.drop_take]
theorem toList_loop (s : ByteArray) : ∀ (k i : Nat) (r : List UInt8), s.size - i = k → ByteArray.toList.loop s i r = r.reverse ++ s.data.toList.drop i := by
  intro k
  induction k with
  | zero =>
    intro i r h
    have hl : s.data.toList.length = s.size := rfl
    rw [ByteArray.toList.loop, if_neg (by omega), List.drop_eq_nil_of_le (by omega), List.append_nil]
  | succ k ih =>
    intro i r h
    have hl : s.data.toList.length = s.size := rfl
    have hi : i < s.data.toList.length := by omega
    rw [ByteArray.toList.loop, if_pos (by omega), ih (i + 1) _ (by omega), List.drop_eq_getElem_cons hi]
    have : s.get! i = s.data.toList[i] := by
      show s.data[i]! = _
      rw [getElem!_pos s.data i (by simpa using hi)]
      simp
    rw [this]
    simp
theorem toList_eq (s : ByteArray) : s.toList = s.data.toList := by
  rw [show s.toList = ByteArray.toList.loop s 0 [] from rfl, toList_loop s _ 0 [] rfl]; rfl
theorem mk_beq (a b : List UInt8) : ((mk a).toList == (mk b).toList) = decide (a = b) := by
  rw [toList_eq, toList_eq, data_mk, data_mk]
  by_cases h : a = b <;> simp [h]
theorem mk_beq_nil (a : List UInt8) : ((mk a).toList == (⟨#[]⟩ : ByteArray).toList) = decide (a = []) := mk_beq a []

/-- strings_trimLeftByte: one round of loop 0. -/
def strings_trimLeftByte_s0 (κ0 : ByteArray → Int → Option (ByteArray × Unit)) (s : ByteArray) (c : Int) : Option (ByteArray × Unit) :=
  cond (decide (0 < (s.size : Int)))
    (
      cond (decide (0 < (s.size : Int)))
        (
          cond (decide ((bt s 0) = c))
            (
              cond (decide (1 ≤ (s.size : Int))) (κ0 (s.extract 1 ((s.size : Int).toNat)) c) none) (some (s, ()))) none) (some (s, ()))

def strings_trimLeftByte_l0 (K : Nat) : Nat → ByteArray → Int → Option (ByteArray × Unit)
  | 0, _, _ => none
  | n + 1, s, c => strings_trimLeftByte_s0 (strings_trimLeftByte_l0 K n) s c

/-- strings.trimLeftByte -/
def strings_trimLeftByte_b (I0 : ByteArray → Int → Option (ByteArray × Unit)) (s : ByteArray) (c : Int) : Option (ByteArray × Unit) :=
  I0 s c

def strings_trimLeftByte (K : Nat) (s : ByteArray) (c : Int) : Option (ByteArray × Unit) := strings_trimLeftByte_b (strings_trimLeftByte_l0 K K) s c

def S.strings_trimLeftByte (x : ByteArray × Int × Unit) : Option (ByteArray × Unit) := some (mk (x.1.data.toList.dropWhile fun b => decide ((b.toNat : Int) = x.2.1)), ())
theorem trimLeftByte_loop (K : Nat) : ∀ (n : Nat) (l : List UInt8) (c : Int), l.length < n → strings_trimLeftByte_l0 K n (mk l) c = some (mk (l.dropWhile fun b => decide ((b.toNat : Int) = c)), ()) := by
  intro n
  induction n with
  | zero => intro l c h; omega
  | succ n ih =>
    intro l c h
    simp only [strings_trimLeftByte_l0, strings_trimLeftByte_s0]
    cases l with
    | nil => rfl
    | cons b l =>
      have hs : (mk (b :: l)).size = l.length + 1 := rfl
      have hl : (b :: l).length = l.length + 1 := rfl
      have h0 : bt (mk (b :: l)) 0 = (b.toNat : Int) := rfl
      rw [ct (by omega), ct (by omega), h0, mk_extract, List.dropWhile_cons]
      by_cases hb : (b.toNat : Int) = c
      · rw [ct hb, ct (by omega), if_pos (by simpa using hb), Int.toNat_natCast, hs, ← hl, List.take_length, List.drop_succ_cons, List.drop_zero]
        exact ih l c (by omega)
      · rw [cf hb, if_neg (by simpa using hb)]
theorem strings_trimLeftByte_ok (x : ByteArray × Int × Unit) (y : ByteArray × Unit) (h : S.strings_trimLeftByte x = some y) : ∃ K, strings_trimLeftByte K x.1 x.2.1 = some y := by
  obtain ⟨s, c, _⟩ := x
  obtain ⟨l, rfl⟩ := mk_of s
  refine ⟨l.length + 1, ?_⟩
  rw [← h]
  exact trimLeftByte_loop _ _ l c (by omega)
/-- strings.TrimLeft -/
def strings_TrimLeft (s : ByteArray) (cutset : ByteArray) : Option (ByteArray × Unit) :=
  cond ((s.toList == (⟨#[]⟩ : ByteArray).toList)) (some (s, ()))
    (
      cond ((cutset.toList == (⟨#[]⟩ : ByteArray).toList)) (some (s, ()))
        (
          cond (decide ((cutset.size : Int) = 1))
            (
              cond (decide (0 < (cutset.size : Int)))
                (
                  cond (decide ((bt cutset 0) < 128))
                    (
                      cond (decide (0 < (cutset.size : Int)))
                        (
                          (S.strings_trimLeftByte (s, (bt cutset 0), ())).bind fun z3 =>
                          some (z3.1, ())) none) none) none) none))

def S.strings_TrimLeft (x : ByteArray × ByteArray × Unit) : Option (ByteArray × Unit) := L.strings_TrimLeft x.1 x.2.1
theorem TrimLeft_0 (l : List UInt8) : S.strings_TrimLeft (mk l, (⟨#[48]⟩ : ByteArray), ()) = some (mk (l.dropWhile fun b => decide ((b.toNat : Int) = 48)), ()) := by
  simp only [S.strings_TrimLeft, L.strings_TrimLeft, mk_beq_nil]
  by_cases h : l = []
  · subst h; rfl
  · rw [decide_eq_false h]
    simp only [cond_false]
    rw [show ((⟨#[48]⟩ : ByteArray).toList == (⟨#[]⟩ : ByteArray).toList) = false from mk_beq_nil [48]]
    have h1 : (((⟨#[48]⟩ : ByteArray).size : Nat) : Int) = 1 := rfl
    have h2 : bt (⟨#[48]⟩ : ByteArray) 0 = 48 := rfl
    rw [cond_false, ct h1, ct (by omega), ct (by omega), ct (by omega), h2]
    simp only [S.strings_trimLeftByte, Option.bind_some, data_mk]

/-- slices_Reverse_s_byte_byte: one round of loop 0. -/
def slices_Reverse_s_byte_byte_s0 (κ0 : (List Int) → Nat → Nat → Int → Int → Option ((List Int) × Unit)) (s : List Int) (off : Nat) (len : Nat) (i : Int) (j : Int) : Option ((List Int) × Unit) :=
  cond (decide (i < j))
    (
      cond (decide (0 ≤ j))
        (
          cond (decide (j < ((len : Nat) : Int)))
            (
              cond (decide (0 ≤ i))
                (
                  cond (decide (i < ((len : Nat) : Int)))
                    (
                      cond (decide (0 ≤ i))
                        (
                          cond (decide (i < ((len : Nat) : Int)))
                            (
                              cond (decide (0 ≤ j))
                                (
                                  cond (decide (j < ((len : Nat) : Int)))
                                    (
                                      κ0 ((s.set (off + i.toNat) (s.getD (off + j.toNat) 0)).set (off + j.toNat) (s.getD (off + i.toNat) 0)) off len (IntKind.i64.wrap (i + 1)) (IntKind.i64.wrap (j - 1))) none) none) none) none) none) none) none) none) (some (s, ()))

def slices_Reverse_s_byte_byte_l0 (K : Nat) : Nat → (List Int) → Nat → Nat → Int → Int → Option ((List Int) × Unit)
  | 0, _, _, _, _, _ => none
  | n + 1, s, off, len, i, j => slices_Reverse_s_byte_byte_s0 (slices_Reverse_s_byte_byte_l0 K n) s off len i j

/-- slices.Reverse[[]byte,byte] -/
def slices_Reverse_s_byte_byte_b (I0 : (List Int) → Nat → Nat → Int → Int → Option ((List Int) × Unit)) (s : List Int) (off : Int) (len : Int) : Option ((List Int) × Unit) :=
  I0 s off.toNat len.toNat 0 (IntKind.i64.wrap (((len.toNat : Nat) : Int) - 1))

def slices_Reverse_s_byte_byte (K : Nat) (s : List Int) (off : Int) (len : Int) : Option ((List Int) × Unit) := slices_Reverse_s_byte_byte_b (slices_Reverse_s_byte_byte_l0 K K) s off len

def S.slices_Reverse_s_byte_byte (x : List Int × Int × Int × Unit) : Option (List Int × Unit) := if x.2.1 = 0 ∧ x.2.2.1 = x.1.length ∧ x.1.length < 9223372036854775807 then some (x.1.reverse, ()) else none
theorem list_ends {α : Type} (m : List α) : m = [] ∨ (∃ x, m = [x]) ∨ ∃ x m2 y, m = x :: (m2 ++ [y]) := by
  match m with
  | [] => exact .inl rfl
  | [x] => exact .inr (.inl ⟨x, rfl⟩)
  | x :: z :: m' => exact .inr (.inr ⟨x, (z :: m').dropLast, (z :: m').getLast (List.cons_ne_nil _ _), by rw [List.dropLast_concat_getLast]⟩)
theorem set_mid (a b : List Int) (x y : Int) : (a ++ x :: b).set a.length y = a ++ y :: b := by
  rw [List.set_append_right _ _ (Nat.le_refl _)]; simp
theorem getD_mid (a b : List Int) (x : Int) : (a ++ x :: b).getD a.length 0 = x := by simp [List.getD]
theorem Reverse_loop (K L : Nat) (hL : L < 9223372036854775807) : ∀ (n : Nat) (a m b : List Int), m.length < n → a.length + m.length + b.length = L →
    slices_Reverse_s_byte_byte_l0 K n (a ++ (m ++ b)) 0 L (a.length : Int) ((a.length : Int) + m.length - 1) = some (a ++ (m.reverse ++ b), ()) := by
  intro n
  induction n with
  | zero => intro a m b h; omega
  | succ n ih =>
    intro a m b h hl
    simp only [slices_Reverse_s_byte_byte_l0, slices_Reverse_s_byte_byte_s0]
    rcases list_ends m with rfl | ⟨x, rfl⟩ | ⟨x, m2, y, rfl⟩
    · rw [cf (by simp only [List.length_nil]; omega)]; rfl
    · rw [cf (by simp only [List.length_cons, List.length_nil]; omega)]; rfl
    · have hm : (x :: (m2 ++ [y])).length = m2.length + 2 := by simp
      rw [ct (by omega), ct (by omega), ct (by omega), ct (by omega), ct (by omega), ct (by omega), ct (by omega), ct (by omega), ct (by omega)]
      have hq : (a ++ x :: m2).length = a.length + m2.length + 1 := by simp; omega
      have hq1 : (a ++ [y]).length = a.length + 1 := by simp
      have j1 : ((a.length : Int) + ((x :: (m2 ++ [y])).length : Int) - 1).toNat = (a ++ x :: m2).length := by omega
      have e0 : a ++ (x :: (m2 ++ [y]) ++ b) = a ++ x :: (m2 ++ y :: b) := by simp
      have e1 : a ++ x :: (m2 ++ y :: b) = (a ++ x :: m2) ++ y :: b := by simp
      rw [j1, e0, Nat.zero_add, Nat.zero_add, Int.toNat_natCast]
      have g1 : (a ++ x :: (m2 ++ y :: b)).getD (a ++ x :: m2).length 0 = y := by rw [e1]; exact getD_mid _ _ _
      rw [g1, getD_mid, set_mid]
      have s2 : (a ++ y :: (m2 ++ y :: b)).set (a ++ x :: m2).length x = a ++ y :: (m2 ++ x :: b) := by
        rw [show a ++ y :: (m2 ++ y :: b) = (a ++ y :: m2) ++ y :: b by simp, show (a ++ x :: m2).length = (a ++ y :: m2).length by simp, set_mid]; simp
      rw [s2]
      have w1 : IntKind.i64.wrap ((a.length : Int) + 1) = ((a ++ [y]).length : Int) := by rw [wi64 (by omega) (by omega)]; omega
      have w2 : IntKind.i64.wrap ((a.length : Int) + ((x :: (m2 ++ [y])).length : Int) - 1 - 1) = ((a ++ [y]).length : Int) + (m2.length : Int) - 1 := by rw [wi64 (by omega) (by omega)]; omega
      rw [w1, w2, show a ++ y :: (m2 ++ x :: b) = (a ++ [y]) ++ (m2 ++ (x :: b)) by simp, ih (a ++ [y]) m2 (x :: b) (by omega) (by simp; omega)]
      simp
theorem slices_Reverse_s_byte_byte_ok (x : List Int × Int × Int × Unit) (y : List Int × Unit) (h : S.slices_Reverse_s_byte_byte x = some y) : ∃ K, slices_Reverse_s_byte_byte K x.1 x.2.1 x.2.2.1 = some y := by
  unfold S.slices_Reverse_s_byte_byte at h
  split at h <;> cases h
  rename_i hh
  obtain ⟨l, off, len, _⟩ := x
  obtain ⟨h1, h2, h3⟩ := hh
  simp only at h1 h2 h3 ⊢
  subst h1 h2
  refine ⟨l.length + 1, ?_⟩
  have := Reverse_loop (l.length + 1) l.length h3 (l.length + 1) [] l [] (by omega) (by simp)
  simp only [List.nil_append, List.append_nil] at this
  rw [← this]
  simp only [slices_Reverse_s_byte_byte, slices_Reverse_s_byte_byte_b, Int.toNat_zero, Int.toNat_natCast]
  rw [show IntKind.i64.wrap ((l.length : Int) - 1) = ((([] : List Int).length : Nat) : Int) + (l.length : Int) - 1 by rw [wi64 (by omega) (by omega)]; simp]
  rfl
theorem slices_Reverse_s_byte_byte_len (x : List Int × Int × Int × Unit) (y : List Int × Unit) (h : S.slices_Reverse_s_byte_byte x = some y) : y.1.length = x.1.length := by
  unfold S.slices_Reverse_s_byte_byte at h
  split at h <;> cases h
  simp
end Go.L

/-! XB -/
namespace Go.L
open Go.PM
set_option exponentiation.threshold 20000
set_option linter.unusedVariables false
set_option linter.unusedSimpArgs false

/-- The lowest k decimal digits, the lowest first. -/
def dg : Nat → Nat → List Nat
  | 0, _ => []
  | k + 1, n => n % 10 :: dg k (n / 10)
def trimz : List Nat → List Nat
  | [] => []
  | x :: l => if x = 0 then trimz l else x :: l
/-- The decimal digits of a number, the highest first. -/
def decL (n : Nat) : List Nat := if n = 0 then [0] else trimz (dg (n.log2 + 1) n).reverse
def dbyte (d : Nat) : UInt8 := UInt8.ofNat (48 + d)
def decS (n : Nat) : ByteArray := mk ((decL n).map dbyte)
/-- What is read of decimal digits. -/
def numL (l : List Nat) : Nat := l.foldl (fun v d => 10 * v + d) 0

theorem dg_len : ∀ k n, (dg k n).length = k
  | 0, _ => rfl
  | k + 1, n => by simp only [dg, List.length_cons, dg_len k]
theorem dg_lt : ∀ k n, ∀ d ∈ dg k n, d < 10
  | 0, _, d, h => by simp [dg] at h
  | k + 1, n, d, h => by
    simp only [dg, List.mem_cons] at h
    rcases h with rfl | h
    · exact Nat.mod_lt _ (by decide)
    · exact dg_lt k _ d h
theorem dg_zero : ∀ k, dg k 0 = List.replicate k 0
  | 0 => rfl
  | k + 1 => by simp only [dg, Nat.zero_mod, Nat.zero_div, dg_zero k, List.replicate_succ]
theorem dg_add : ∀ j k n, dg (j + k) n = dg j n ++ dg k (n / 10 ^ j)
  | 0, k, n => by simp [dg]
  | j + 1, k, n => by
    rw [show j + 1 + k = (j + k) + 1 by omega]
    simp only [dg, dg_add j k, List.cons_append]
    rw [Nat.div_div_eq_div_mul, Nat.pow_succ, Nat.mul_comm 10]
theorem dg_mod : ∀ k n, dg k (n % 10 ^ k) = dg k n
  | 0, _ => rfl
  | k + 1, n => by
    simp only [dg]
    rw [Nat.pow_succ, Nat.mul_comm, Nat.mod_mul_right_mod, Nat.mod_mul_right_div_self, dg_mod k]
theorem trimz_rep (k : Nat) (l : List Nat) : trimz (List.replicate k 0 ++ l) = trimz l := by
  induction k with
  | zero => rfl
  | succ k ih => rw [List.replicate_succ, List.cons_append]; simp only [trimz]; exact ih
theorem dg_more (L : List Nat) {j k n : Nat} (hj : n < 10 ^ j) (hjk : j ≤ k) : trimz (L ++ dg k n).reverse = trimz (L ++ dg j n).reverse := by
  obtain ⟨i, rfl⟩ := Nat.exists_eq_add_of_le hjk
  rw [dg_add, Nat.div_eq_of_lt hj, dg_zero, ← List.append_assoc, List.reverse_append, List.reverse_replicate, trimz_rep]
theorem dg_any (L : List Nat) {j k n : Nat} (hj : n < 10 ^ j) (hk : n < 10 ^ k) : trimz (L ++ dg k n).reverse = trimz (L ++ dg j n).reverse := by
  rcases Nat.le_total j k with h | h
  · exact dg_more L hj h
  · exact (dg_more L hk h).symm
theorem log_ten {n : Nat} (h : n ≠ 0) : n < 10 ^ (n.log2 + 1) := Nat.lt_of_lt_of_le (log2_high h) (Nat.pow_le_pow_left (by decide) _)
theorem decL_any {k n : Nat} (h0 : n ≠ 0) (h : n < 10 ^ k) : decL n = trimz (dg k n).reverse := by
  unfold decL
  rw [if_neg h0]
  have := dg_any [] h (log_ten h0)
  simpa using this
theorem trimz_app (x y : List Nat) (h : trimz x ≠ []) : trimz (x ++ y) = trimz x ++ y := by
  induction x with
  | nil => exact absurd rfl h
  | cons a x ih =>
    simp only [trimz, List.cons_append] at h ⊢
    by_cases ha : a = 0
    · rw [if_pos ha] at h ⊢; rw [if_pos ha]; exact ih h
    · rw [if_neg ha, if_neg ha]; rfl
theorem decL_small {n : Nat} (h : n < 10) : decL n = [n] := by
  by_cases h0 : n = 0
  · subst h0; rfl
  · rw [decL_any (k := 1) h0 (by omega)]
    simp only [dg, Nat.mod_eq_of_lt h, List.reverse_cons, List.reverse_nil, List.nil_append, trimz, if_neg h0]
theorem decL_rec {n : Nat} (h : 10 ≤ n) : decL n = decL (n / 10) ++ [n % 10] := by
  have key : ∀ k m, m < 10 ^ k → m ≠ 0 → trimz (dg k m).reverse ≠ [] := by
    intro k
    induction k with
    | zero => intro m h1 h2; simp at h1; omega
    | succ k ih =>
      intro m h1 h2
      simp only [dg, List.reverse_cons]
      by_cases h3 : m / 10 = 0
      · rw [h3, dg_zero, List.reverse_replicate, trimz_rep]
        simp only [trimz]
        rw [if_neg (by omega)]; exact List.cons_ne_nil _ _
      · rw [trimz_app _ _ (ih _ (by rw [Nat.pow_succ] at h1; omega) h3)]
        simp
  have h0 : n ≠ 0 := by omega
  have hq0 : n / 10 ≠ 0 := by omega
  have hk := log_ten hq0
  have hk1 : n < 10 ^ ((n / 10).log2 + 1 + 1) := by rw [Nat.pow_succ]; omega
  rw [decL_any h0 hk1, decL_any hq0 hk, show dg ((n / 10).log2 + 1 + 1) n = n % 10 :: dg ((n / 10).log2 + 1) (n / 10) from rfl, List.reverse_cons]
  exact trimz_app _ _ (key _ _ hk hq0)
theorem numL_app (l : List Nat) (d : Nat) : numL (l ++ [d]) = 10 * numL l + d := by simp [numL, List.foldl_append]
theorem decL_props : ∀ n : Nat, numL (decL n) = n ∧ (∀ d ∈ decL n, d < 10) ∧ 1 ≤ (decL n).length ∧ n < 10 ^ (decL n).length ∧ (n ≠ 0 → 10 ^ ((decL n).length - 1) ≤ n ∧ (decL n).head? ≠ some 0) := by
  intro n
  induction n using Nat.strongRecOn with
  | ind n ih =>
    by_cases h : n < 10
    · rw [decL_small h]
      refine ⟨by simp [numL], by simpa using h, by simp, by simpa using h, fun h0 => ⟨by simp; omega, by simpa using h0⟩⟩
    · obtain ⟨h1, h2, h3, h4, h5⟩ := ih (n / 10) (by omega)
      rw [decL_rec (by omega)]
      have hdm := Nat.div_add_mod n 10
      have hlt := Nat.mod_lt n (show 0 < 10 by decide)
      refine ⟨by rw [numL_app, h1]; exact hdm, ?_, by simp, ?_, fun h0 => ⟨?_, ?_⟩⟩
      · intro d hd
        rcases List.mem_append.1 hd with hd | hd
        · exact h2 d hd
        · simp at hd; omega
      · rw [List.length_append, List.length_singleton, Nat.pow_succ]; omega
      · rw [List.length_append, List.length_singleton, Nat.add_sub_cancel]
        obtain ⟨j, hj⟩ := Nat.exists_eq_add_of_le h3
        rw [hj] at h5 ⊢
        have := (h5 (by omega)).1
        rw [Nat.add_comm 1 j, Nat.add_sub_cancel] at this
        rw [Nat.add_comm 1 j, Nat.pow_succ]; omega
      · rw [List.head?_append]
        cases hh : (decL (n / 10)).head? with
        | none => rw [List.head?_eq_none_iff] at hh; rw [hh] at h3; simp at h3
        | some a => rw [hh] at h5; exact (h5 (by omega)).2
theorem decS_size (n : Nat) : (decS n).size = (decL n).length := by simp [decS, mk_size]

/-- The bytes of digits, as numbers. -/
abbrev bys (l : List Nat) : List Int := l.map fun d => ((48 + d : Nat) : Int)
theorem toStr_bys (l : List Nat) : toStr (bys l) = mk (l.map dbyte) := by
  simp only [toStr, bys, List.map_map, mk]
  congr 2
theorem dbyte_nat {d : Nat} (h : d < 10) : (dbyte d).toNat = 48 + d := by
  unfold dbyte
  rw [UInt8.toNat_ofNat']; omega
theorem drop_zeros (l : List Nat) (h : ∀ d ∈ l, d < 10) : ((l.map dbyte).dropWhile fun b => decide ((b.toNat : Int) = 48)) = (trimz l).map dbyte := by
  induction l with
  | nil => rfl
  | cons a l ih =>
    have ha := dbyte_nat (h a (by simp))
    simp only [List.map_cons, List.dropWhile_cons, trimz]
    by_cases h0 : a = 0
    · rw [if_pos h0, if_pos (by rw [decide_eq_true_eq, ha]; omega)]; exact ih fun d hd => h d (by simp [hd])
    · rw [if_neg h0, if_neg (by rw [decide_eq_true_eq, ha]; omega)]; rfl

/-- digits_Text: one round of loop 1. -/
def digits_Text_s1 (κ0 : (List Int) → (List Int) → Option (ByteArray × Unit)) (κ1 : (List Int) → (List Int) → Int → Int → Option (ByteArray × Unit)) (out : List Int) (q : List Int) (n2 : Int) (t27 : Int) : Option (ByteArray × Unit) :=
  cond (decide (t27 < 9))
    (
      let z6 := IntKind.u8.wrap (IntKind.u64.wrap (48 + (n2.tmod 10)))
      cond (decide ((out.length + ([z6]).length) * 1 ≤ 140737488351232)) (κ1 (out ++ ([z6])) q (IntKind.u64.wrap (n2.tdiv 10)) (IntKind.i64.wrap (t27 + 1))) none) (κ0 q out)

def digits_Text_l1 (K : Nat) (κ0 : (List Int) → (List Int) → Option (ByteArray × Unit)) : Nat → (List Int) → (List Int) → Int → Int → Option (ByteArray × Unit)
  | 0, _, _, _, _ => none
  | n + 1, out, q, n2, t27 => digits_Text_s1 κ0 (digits_Text_l1 K κ0 n) out q n2 t27

/-- digits_Text: one round of loop 0. -/
def digits_Text_s0 (I1 : (List Int) → (List Int) → Int → Int → Option (ByteArray × Unit)) (κ0 : (List Int) → (List Int) → Option (ByteArray × Unit)) (a : List Int) (out : List Int) : Option (ByteArray × Unit) :=
  cond (decide (0 < (a.length : Int)))
    (
      (S.limbs_Of (1000000000, ())).bind fun z1 =>
      (S.limbs_Div (a, z1.1, ())).bind fun z2 =>
      (S.limbs_Small (z2.2.1, ())).bind fun z3 =>
      I1 out z2.1 z3.1 0)
    (
      (S.slices_Reverse_s_byte_byte (out, ((0 : Nat) : Int), ((out.length : Nat) : Int), ())).bind fun z10 =>
      (S.strings_TrimLeft ((toStr z10.1), (⟨#[48]⟩ : ByteArray), ())).bind fun z12 =>
      some (z12.1, ()))

def digits_Text_l0 (K : Nat) : Nat → (List Int) → (List Int) → Option (ByteArray × Unit)
  | 0, _, _ => none
  | n + 1, a, out => digits_Text_s0 (digits_Text_l1 K (digits_Text_l0 K n) K) (digits_Text_l0 K n) a out

/-- digits.Text -/
def digits_Text_b (I0 : (List Int) → (List Int) → Option (ByteArray × Unit)) (a : List Int) : Option (ByteArray × Unit) :=
  cond (decide ((a.length : Int) = 0)) (some ((⟨#[48]⟩ : ByteArray), ())) (I0 a [])

def digits_Text (K : Nat) (a : List Int) : Option (ByteArray × Unit) := digits_Text_b (digits_Text_l0 K K) a

def S.digits_Text (x : List Int × Unit) : Option (ByteArray × Unit) := if can x.1 ∧ x.1.length ≤ 512 then some (decS (val W x.1).toNat, ()) else none
theorem text_in (K : Nat) (κ0 : List Int → List Int → Option (ByteArray × Unit)) (q : List Int) : ∀ (r t n v : Nat) (L : List Nat), t + r = 9 → r < n → v < 10000000000 → L.length + r < 1000000010 →
    digits_Text_l1 K κ0 n (bys L) q (v : Int) (t : Int) = κ0 q (bys (L ++ dg r v)) := by
  intro r
  induction r with
  | zero =>
    intro t n v L h hn hv hL
    obtain ⟨n, rfl⟩ := Nat.exists_eq_succ_of_ne_zero (by omega : n ≠ 0)
    simp only [digits_Text_l1, digits_Text_s1]
    rw [cf (by omega), dg, List.append_nil]
  | succ r ih =>
    intro t n v L h hn hv hL
    obtain ⟨n, rfl⟩ := Nat.exists_eq_succ_of_ne_zero (by omega : n ≠ 0)
    simp only [digits_Text_l1, digits_Text_s1]
    have e1 : ((v : Int).tmod 10) = ((v % 10 : Nat) : Int) := (Int.ofNat_tmod v 10).symm
    have e2 : ((v : Int).tdiv 10) = ((v / 10 : Nat) : Int) := (Int.ofNat_tdiv v 10).symm
    have hm := Nat.mod_lt v (show 0 < 10 by decide)
    have l1 : (bys L).length = L.length := by simp
    rw [ct (by omega), ct (by simp only [List.length_map, List.length_cons, List.length_nil]; omega), e1, e2, wu64 (by omega) (by omega), wu8 (by omega) (by omega), wu64 (by omega) (by omega), wi64 (by omega) (by omega)]
    have := ih (t + 1) n (v / 10) (L ++ [v % 10]) (by omega) (by omega) (by omega) (by simp; omega)
    rw [show bys (L ++ [v % 10]) = bys L ++ [48 + ((v % 10 : Nat) : Int)] by simp [bys], show ((t + 1 : Nat) : Int) = (t : Int) + 1 by omega] at this
    rw [this, dg, List.append_assoc]; rfl
theorem text_loop (K : Nat) (hK : 9 < K) : ∀ (n a k : Nat) (L : List Nat), a < n → a < P 512 → a < 10 ^ k → L.length < 999999990 → (a ≠ 0 → L.length + k < 999999980) → (∀ d ∈ L, d < 10) →
    digits_Text_l0 K n (D a) (bys L) = some (mk ((trimz (L ++ dg k a).reverse).map dbyte), ()) := by
  intro n
  induction n with
  | zero => intro a k L h; omega
  | succ n ih =>
    intro a k L h ha hk hL hL2 hd
    simp only [digits_Text_l0, digits_Text_s0, D_len_pos]
    by_cases h0 : a = 0
    · subst h0
      rw [cf (by omega)]
      have hl : (bys L).length = L.length := by simp
      have e0 : S.slices_Reverse_s_byte_byte (bys L, ((0 : Nat) : Int), (((bys L).length : Nat) : Int), ()) = some ((bys L).reverse, ()) := by
        exact if_pos ⟨rfl, rfl, by show (bys L).length < _; omega⟩
      have e1 : toStr (bys L).reverse = mk (L.reverse.map dbyte) := by rw [← toStr_bys, bys, bys, List.map_reverse]
      rw [e0]
      simp only [Option.bind_some]
      rw [e1, TrimLeft_0]
      simp only [Option.bind_some]
      rw [drop_zeros _ (fun d hd' => hd d (List.mem_reverse.1 hd')), dg_zero, List.reverse_append, List.reverse_replicate, trimz_rep]
    · have hb : (1000000000 : Nat) < P 512 := Nat.lt_of_lt_of_le (show 1000000000 < P 1 by decide) (P_mono (by decide))
      have eOf : S.limbs_Of (1000000000, ()) = some (D 1000000000, ()) := limbs_Of_D (n := 1000000000) (by decide)
      have hq : a / 1000000000 < P 512 := Nat.lt_of_le_of_lt (Nat.div_le_self _ _) ha
      have hlt := Nat.mod_lt a (show 0 < 1000000000 by decide)
      have hr : a % 1000000000 < P 1 := Nat.lt_trans hlt (by decide)
      have hs : (D (a % 1000000000)).length ≤ 1 := dlen hr
      rw [ct (by omega), eOf]
      simp only [Option.bind_some, Div_D (P1000 ha (by decide)) hb (by decide), Small_D (P1000 hr (by decide))]
      rw [if_neg (by omega)]
      simp only
      have ht := text_in K (digits_Text_l0 K n) (D (a / 1000000000)) 9 0 K (a % 1000000000) L (by omega) hK (by omega) (by omega)
      rw [show ((0 : Nat) : Int) = (0 : Int) from rfl] at ht
      rw [ht, show dg 9 (a % 1000000000) = dg 9 a from dg_mod 9 a]
      have hq9 : a / 1000000000 < 10 ^ (k - 9) := by
        rcases Nat.lt_or_ge k 9 with hk9 | hk9
        · have : 10 ^ k ≤ 10 ^ 9 := Nat.pow_le_pow_right (by decide) (by omega)
          rw [Nat.div_eq_of_lt (by omega)]
          exact Nat.pow_pos (by decide)
        · have e : 10 ^ k = 10 ^ (k - 9) * 1000000000 := by rw [show (1000000000 : Nat) = 10 ^ 9 from rfl, ← Nat.pow_add]; congr 1; omega
          rw [e] at hk
          exact (Nat.div_lt_iff_lt_mul (by decide)).2 hk
      rw [ih (a / 1000000000) (k - 9) (L ++ dg 9 a) (by omega) hq hq9 (by rw [List.length_append, dg_len]; have := hL2 h0; omega) (by
        intro hq0
        rw [List.length_append, dg_len]; have := hL2 h0
        rcases Nat.lt_or_ge k 9 with hk9 | hk9
        · rw [show k - 9 = 0 by omega] at hq9; simp at hq9; omega
        · omega) (by
        intro d h'
        rcases List.mem_append.1 h' with h' | h'
        · exact hd d h'
        · exact dg_lt 9 a d h')]
      rw [List.append_assoc, show (1000000000 : Nat) = 10 ^ 9 from rfl, ← dg_add, dg_any L hk (show a < 10 ^ (9 + (k - 9)) from Nat.lt_of_lt_of_le hk (Nat.pow_le_pow_right (by decide) (by omega)))]
theorem Text_D {n : Nat} (h : n < P 512) : S.digits_Text (D n, ()) = some (decS n, ()) := by
  simp only [S.digits_Text]
  rw [if_pos ⟨can_D n, dlen h⟩, val_D]; rfl
theorem digits_Text_ok (x : List Int × Unit) (y : ByteArray × Unit) (h : S.digits_Text x = some y) : ∃ K, digits_Text K x.1 = some y := by
  unfold S.digits_Text at h
  split at h <;> cases h
  rename_i hh
  obtain ⟨a, _⟩ := x
  obtain ⟨ca, la⟩ := hh
  simp only at ca la ⊢
  obtain ⟨A, rfl⟩ := can_D_of ca
  have hA := D_lt la
  refine ⟨A + 10, ?_⟩
  rw [val_D, Int.toNat_natCast]
  simp only [digits_Text, digits_Text_b, D_len_zero]
  by_cases h0 : A = 0
  · subst h0; rfl
  · rw [cf h0]
    have hk : A.log2 < 32 * 512 := log2_lt_P h0 hA
    have := text_loop (A + 10) (by omega) (A + 10) A (A.log2 + 1) [] (by omega) hA (log_ten h0) (by simp) (by simp; omega) (by simp)
    rw [show bys [] = [] from rfl] at this
    rw [this]
    simp only [List.nil_append, decS, decL, if_neg h0]
end Go.L

/-! XC -/
namespace Go.L
open Go.PM
set_option exponentiation.threshold 20000
set_option linter.unusedVariables false
set_option linter.unusedSimpArgs false

def isdig (b : UInt8) : Bool := decide (48 ≤ b.toNat) && decide (b.toNat ≤ 57)
def numB (l : List UInt8) : Nat := l.foldl (fun v b => 10 * v + (b.toNat - 48)) 0
theorem numB_from (l : List UInt8) : ∀ v, l.foldl (fun v b => 10 * v + (b.toNat - 48)) v = v * 10 ^ l.length + numB l := by
  induction l with
  | nil => intro v; simp [numB]
  | cons b l ih =>
    intro v
    unfold numB
    rw [List.foldl_cons, List.foldl_cons, ih, ih (10 * 0 + (b.toNat - 48)), List.length_cons, Nat.pow_succ]
    grind
theorem numB_app (a b : List UInt8) : numB (a ++ b) = numB a * 10 ^ b.length + numB b := by
  unfold numB; rw [List.foldl_append, numB_from]; rfl
theorem numB_lt : ∀ (l : List UInt8), l.all isdig = true → numB l < 10 ^ l.length := by
  intro l
  induction l with
  | nil => intro _; simp [numB]
  | cons b l ih =>
    intro h
    rw [List.all_cons, Bool.and_eq_true] at h
    have h1 := ih h.2
    have h2 := h.1
    simp only [isdig, Bool.and_eq_true, decide_eq_true_eq] at h2
    rw [show b :: l = [b] ++ l from rfl, numB_app, List.length_append, List.length_singleton, Nat.add_comm 1, Nat.pow_succ]
    have : numB [b] ≤ 9 := by simp only [numB, List.foldl_cons, List.foldl_nil]; omega
    have := Nat.mul_le_mul_right (10 ^ l.length) this
    omega
theorem numB_dec (l : List Nat) (h : ∀ d ∈ l, d < 10) : numB (l.map dbyte) = numL l ∧ (l.map dbyte).all isdig = true := by
  have key : ∀ (l : List Nat) (v : Nat), (∀ d ∈ l, d < 10) → (l.map dbyte).foldl (fun v b => 10 * v + (b.toNat - 48)) v = l.foldl (fun v d => 10 * v + d) v := by
    intro l
    induction l with
    | nil => intro v _; rfl
    | cons d l ih =>
      intro v h
      rw [List.map_cons, List.foldl_cons, List.foldl_cons, dbyte_nat (h d (by simp)), ih _ (fun x hx => h x (by simp [hx]))]
      congr 1; omega
  refine ⟨key l 0 h, ?_⟩
  rw [List.all_map, List.all_eq_true]
  intro d hd
  have := h d hd
  simp only [Function.comp, isdig, dbyte_nat this, Bool.and_eq_true, decide_eq_true_eq]; omega

/-- digits_step: one round of loop 0. -/
def digits_step_s0 (κ0 : (List Int) → ByteArray → Int → Int → Int → Int → Option ((List Int) × Int × Unit)) (a : List Int) (s : ByteArray) (n2 : Int) (scale : Int) (t12 : Int) (t13 : Int) : Option ((List Int) × Int × Unit) :=
  cond (decide (t13 < t12))
    (
      cond (decide (0 ≤ t13))
        (
          cond (decide (t13 < (s.size : Int)))
            (
              κ0 a s (IntKind.u64.wrap ((IntKind.u64.wrap (10 * n2)) + (IntKind.u64.wrap (IntKind.u8.wrap ((bt s t13) - 48))))) (IntKind.u64.wrap (10 * scale)) t12 (IntKind.i64.wrap (t13 + 1))) none) none)
    (
      (S.limbs_Of (scale, ())).bind fun z8 =>
      (S.limbs_Mul (a, z8.1, ())).bind fun z9 =>
      cond (!(decide (z9.2.1 = 0))) (some ([], z9.2.1, ()))
        (
          (S.limbs_Of (n2, ())).bind fun z10 =>
          (S.limbs_Add (z9.1, z10.1, ())).bind fun z11 =>
          some (z11.1, z11.2.1, ())))

def digits_step_l0 (K : Nat) : Nat → (List Int) → ByteArray → Int → Int → Int → Int → Option ((List Int) × Int × Unit)
  | 0, _, _, _, _, _, _ => none
  | n + 1, a, s, n2, scale, t12, t13 => digits_step_s0 (digits_step_l0 K n) a s n2 scale t12 t13

/-- digits.step -/
def digits_step_b (I0 : (List Int) → ByteArray → Int → Int → Int → Int → Option ((List Int) × Int × Unit)) (a : List Int) (s : ByteArray) : Option ((List Int) × Int × Unit) :=
  I0 a s 0 1 (s.size : Int) 0

def digits_step (K : Nat) (a : List Int) (s : ByteArray) : Option ((List Int) × Int × Unit) := digits_step_b (digits_step_l0 K K) a s

def S.digits_step (x : List Int × ByteArray × Unit) : Option (List Int × Int × Unit) := if can x.1 ∧ x.1.length ≤ 511 ∧ x.2.1.size ≤ 9 ∧ x.2.1.data.toList.all isdig = true then some (D ((val W x.1).toNat * 10 ^ x.2.1.size + numB x.2.1.data.toList), 0, ()) else none
theorem ten_le {j k : Nat} (h : j ≤ k) : 10 ^ j ≤ 10 ^ k := Nat.pow_le_pow_right (by decide) h
theorem step_loop (K : Nat) (a : List Int) (l : List UInt8) (hl : l.length ≤ 9) (hd : l.all isdig = true) : ∀ (r n t : Nat), t + r = l.length → r < n →
    digits_step_l0 K n a (mk l) ((numB (l.take t) : Nat) : Int) ((10 ^ t : Nat) : Int) (l.length : Int) (t : Int) = digits_step_l0 K (n - r) a (mk l) ((numB l : Nat) : Int) ((10 ^ l.length : Nat) : Int) (l.length : Int) (l.length : Int) := by
  intro r
  induction r with
  | zero => intro n t h hn; rw [show t = l.length by omega, List.take_length, Nat.sub_zero]
  | succ r ih =>
    intro n t h hn
    obtain ⟨n, rfl⟩ := Nat.exists_eq_succ_of_ne_zero (by omega : n ≠ 0)
    have ht : t < l.length := by omega
    have hb : isdig l[t] = true := List.all_eq_true.1 hd _ (List.getElem_mem ht)
    simp only [isdig, Bool.and_eq_true, decide_eq_true_eq] at hb
    have hg : bt (mk l) (t : Int) = ((l[t]).toNat : Int) := by rw [mk_bt, Int.toNat_natCast, List.getD_eq_getElem?_getD, List.getElem?_eq_getElem ht]; rfl
    have hs : (mk l).size = l.length := rfl
    have hnum : numB (l.take (t + 1)) = 10 * numB (l.take t) + ((l[t]).toNat - 48) := by
      rw [List.take_add_one, List.getElem?_eq_getElem ht, numB_app]
      simp only [Option.toList, List.length_cons, List.length_nil, numB, List.foldl_cons, List.foldl_nil]
      omega
    have hdt : (l.take t).all isdig = true := by
      rw [List.all_eq_true] at hd ⊢
      exact fun x hx => hd x (List.mem_of_mem_take hx)
    have hlt := numB_lt _ hdt
    rw [List.length_take, Nat.min_eq_left (by omega)] at hlt
    have h9 : 10 ^ t ≤ 10 ^ 9 := ten_le (by omega)
    have hp := Nat.pow_pos (n := t) (show 0 < 10 by decide)
    conv => lhs; simp only [digits_step_l0, digits_step_s0]
    rw [ct (by omega), ct (by omega), ct (by omega), hg, wu8 (by omega) (by omega), wu64 (x := ((l[t]).toNat : Int) - 48) (by omega) (by omega), wu64 (x := 10 * ((numB (l.take t) : Nat) : Int)) (by omega) (by omega),
      wu64 (by omega) (by omega), wu64 (x := 10 * ((10 ^ t : Nat) : Int)) (by omega) (by omega), wi64 (by omega) (by omega)]
    have := ih n (t + 1) (by omega) (by omega)
    rw [show ((t + 1 : Nat) : Int) = (t : Int) + 1 by omega, hnum, Nat.pow_succ] at this
    rw [show (n + 1) - (r + 1) = n - r by omega, ← this]
    congr 1 <;> omega
theorem step_D {v j : Nat} {l : List UInt8} (hv : v < P 511) (hl : l.length ≤ 9) (hd : l.all isdig = true) : S.digits_step (D v, mk l, ()) = some (D (v * 10 ^ l.length + numB l), 0, ()) := by
  simp only [S.digits_step]
  rw [if_pos ⟨can_D v, dlen hv, hl, hd⟩, val_D]; rfl
theorem step_fits {v : Nat} {l : List UInt8} (hv : v < P 511) (hl : l.length ≤ 9) (hd : l.all isdig = true) : v * 10 ^ l.length < P 512 ∧ v * 10 ^ l.length + numB l < P 512 := by
  have h1 := numB_lt l hd
  have h2 : 10 ^ l.length ≤ 10 ^ 9 := ten_le hl
  have h3 : (v + 1) * 10 ^ l.length ≤ P 511 * 4294967296 := Nat.mul_le_mul hv (by omega)
  rw [← P_succ, Nat.add_mul, Nat.one_mul, show P (511 + 1) = P 512 from rfl] at h3
  omega
theorem digits_step_ok (x : List Int × ByteArray × Unit) (y : List Int × Int × Unit) (h : S.digits_step x = some y) : ∃ K, digits_step K x.1 x.2.1 = some y := by
  unfold S.digits_step at h
  split at h <;> cases h
  rename_i hh
  obtain ⟨a, s, _⟩ := x
  obtain ⟨ca, la, ls, ld⟩ := hh
  simp only at ca la ls ld ⊢
  obtain ⟨v, rfl⟩ := can_D_of ca
  obtain ⟨l, rfl⟩ := mk_of s
  have hv : v < P 511 := Nat.lt_of_lt_of_le (dlen_lt v) (P_mono la)
  rw [val_D, Int.toNat_natCast]
  rw [mk_size] at ls ⊢
  rw [data_mk] at ld ⊢
  obtain ⟨f1, f2⟩ := step_fits hv ls ld
  refine ⟨l.length + 1, ?_⟩
  have h9 : 10 ^ l.length ≤ 10 ^ 9 := ten_le ls
  have hp := Nat.pow_pos (n := l.length) (show 0 < 10 by decide)
  have hn := numB_lt l ld
  have := step_loop (l.length + 1) (D v) l ls ld l.length (l.length + 1) 0 (by omega) (by omega)
  rw [List.take_zero, show ((numB [] : Nat) : Int) = 0 from rfl, show ((10 ^ 0 : Nat) : Int) = 1 from rfl, show ((0 : Nat) : Int) = 0 from rfl] at this
  simp only [digits_step, digits_step_b]
  rw [show ((mk l).size : Int) = (l.length : Int) from rfl, this, show l.length + 1 - l.length = 0 + 1 by omega]
  simp only [digits_step_l0, digits_step_s0]
  have h1 : 10 ^ l.length < P 1 := Nat.lt_of_le_of_lt h9 (by decide)
  have h2 : numB l < P 1 := Nat.lt_trans hn h1
  rw [cf (by omega), limbs_Of_D (by omega), limbs_Of_D (by omega)]
  simp only [Option.bind_some, Mul_D hv h1 (by decide), res_in f1, Add_D (P1000 f1 (by decide)) (P1000 h2 (by decide)), res_in f2, decide_true, Bool.not_true, cond_false]

theorem decode_low {l : List UInt8} {p : Nat} (hp : p < l.length) (h : l[p].toNat < 128) : Utf8.decode (mk l) p = (l[p].toNat, 1) := by
  have e : (mk l).get! (p + 0) = l[p] := by
    show (mk l).data[p]! = _
    rw [getElem!_pos (mk l).data p (by simpa [mk] using hp)]; rfl
  unfold Utf8.decode
  simp only [e]
  rw [if_pos h]
theorem decode_high {l : List UInt8} {p : Nat} (hp : p < l.length) (h : 128 ≤ l[p].toNat) : 128 ≤ (Utf8.decode (mk l) p).1 := by
  have e : (mk l).get! (p + 0) = l[p] := by
    show (mk l).data[p]! = _
    rw [getElem!_pos (mk l).data p (by simpa [mk] using hp)]; rfl
  have hr : Utf8.runeError = 65533 := by decide
  unfold Utf8.decode
  simp only [e]
  rw [if_neg (by omega)]
  generalize (((mk l).get! (p + 1)).toNat) = c1
  generalize (((mk l).get! (p + 2)).toNat) = c2
  generalize (((mk l).get! (p + 3)).toNat) = c3
  split
  · split <;> simp only [hr] <;> omega
  · split
    · split
      · rename_i h; simp only [Bool.and_eq_true, decide_eq_true_eq, ge_iff_le] at h; simp only; omega
      · simp only [hr]; omega
    · split
      · split
        · rename_i h; simp only [Bool.and_eq_true, decide_eq_true_eq, ge_iff_le] at h; simp only; omega
        · simp only [hr]; omega
      · simp only [hr]; omega

/-- digits_Parse: one round of loop 1. -/
def digits_Parse_s1 (κ0 : ByteArray → ByteArray → Nat → Option ((List Int) × Int × Unit)) (κ1 : ByteArray → (List Int) → Option ((List Int) × Int × Unit)) (s : ByteArray) (out : List Int) : Option ((List Int) × Int × Unit) :=
  cond (!(s.toList == (⟨#[]⟩ : ByteArray).toList))
    (
      let z2 := (s.size : Int).tmod 9
      cond (decide (z2 = 0))
        (
          cond (decide (9 ≤ (s.size : Int)))
            (
              (S.digits_step (out, (s.extract 0 9), ())).bind fun z4 =>
              cond (!(decide (z4.2.1 = 0))) (some ([], z4.2.1, ()))
                (
                  cond (decide (9 ≤ (s.size : Int))) (κ1 (s.extract 9 ((s.size : Int).toNat)) z4.1) none)) none)
        (
          cond (decide (0 ≤ z2))
            (
              cond (decide (z2 ≤ (s.size : Int)))
                (
                  (S.digits_step (out, (s.extract 0 z2.toNat), ())).bind fun z7 =>
                  cond (!(decide (z7.2.1 = 0))) (some ([], z7.2.1, ()))
                    (
                      cond (decide (0 ≤ z2))
                        (
                          cond (decide (z2 ≤ (s.size : Int))) (κ1 (s.extract z2.toNat ((s.size : Int).toNat)) z7.1) none) none)) none) none)) (some (out, 0, ()))

def digits_Parse_l1 (K : Nat) (κ0 : ByteArray → ByteArray → Nat → Option ((List Int) × Int × Unit)) : Nat → ByteArray → (List Int) → Option ((List Int) × Int × Unit)
  | 0, _, _ => none
  | n + 1, s, out => digits_Parse_s1 κ0 (digits_Parse_l1 K κ0 n) s out

/-- digits_Parse: one round of loop 0. -/
def digits_Parse_s0 (I1 : ByteArray → (List Int) → Option ((List Int) × Int × Unit)) (κ0 : ByteArray → ByteArray → Nat → Option ((List Int) × Int × Unit)) (s : ByteArray) (t12_s : ByteArray) (t12_p : Nat) : Option ((List Int) × Int × Unit) :=
  cond (decide (t12_p < t12_s.size))
    (
      let z1 := Utf8.decode t12_s t12_p
      cond (decide ((z1.1 : Int) < 48)) (some ([], 2, ()))
        (
          cond (decide (57 < (z1.1 : Int))) (some ([], 2, ())) (κ0 s t12_s (t12_p + z1.2))))
    (
      cond (decide (4900 < (s.size : Int))) (some ([], 3, ())) (I1 s []))

def digits_Parse_l0 (K : Nat) : Nat → ByteArray → ByteArray → Nat → Option ((List Int) × Int × Unit)
  | 0, _, _, _ => none
  | n + 1, s, t12_s, t12_p => digits_Parse_s0 (digits_Parse_l1 K (digits_Parse_l0 K n) K) (digits_Parse_l0 K n) s t12_s t12_p

/-- digits.Parse -/
def digits_Parse_b (I0 : ByteArray → ByteArray → Nat → Option ((List Int) × Int × Unit)) (s : ByteArray) : Option ((List Int) × Int × Unit) :=
  cond ((s.toList == (⟨#[]⟩ : ByteArray).toList)) (some ([], 2, ())) (I0 s s 0)

def digits_Parse (K : Nat) (s : ByteArray) : Option ((List Int) × Int × Unit) := digits_Parse_b (digits_Parse_l0 K K) s

def parseL (l : List UInt8) : List Int × Int × Unit := if l = [] ∨ l.all isdig = false then ([], 2, ()) else if 4900 < l.length then ([], 3, ()) else (D (numB l), 0, ())
def S.digits_Parse (x : ByteArray × Unit) : Option (List Int × Int × Unit) := if x.1.size < 9223372036854775807 then some (parseL x.1.data.toList) else none
theorem P_4900 : 10 ^ 4900 < P 511 := by unfold P; decide +kernel
theorem all_take {l : List UInt8} (h : l.all isdig = true) (k : Nat) : (l.take k).all isdig = true := by
  rw [List.all_eq_true] at h ⊢
  exact fun x hx => h x (List.mem_of_mem_take hx)
theorem all_drop {l : List UInt8} (h : l.all isdig = true) (k : Nat) : (l.drop k).all isdig = true := by
  rw [List.all_eq_true] at h ⊢
  exact fun x hx => h x (List.mem_of_mem_drop hx)
theorem parse_blocks (K : Nat) (κ0 : ByteArray → ByteArray → Nat → Option (List Int × Int × Unit)) : ∀ (n : Nat) (l : List UInt8) (v j : Nat), l.length < n → l.all isdig = true → v < 10 ^ j → j + l.length ≤ 4900 →
    digits_Parse_l1 K κ0 n (mk l) (D v) = some (D (v * 10 ^ l.length + numB l), 0, ()) := by
  intro n
  induction n with
  | zero => intro l v j h; omega
  | succ n ih =>
    intro l v j h hd hv hj
    have hs : (mk l).size = l.length := rfl
    simp only [digits_Parse_l1, digits_Parse_s1, mk_beq_nil]
    by_cases h0 : l = []
    · subst h0; simp [numB]
    · have hl : 0 < l.length := List.length_pos_iff.2 h0
      rw [decide_eq_false h0]
      simp only [Bool.not_false, cond_true]
      have hv5 : v < P 511 := Nat.lt_of_lt_of_le hv (Nat.le_of_lt (Nat.lt_of_le_of_lt (ten_le (by omega)) P_4900))
      have e1 : (((mk l).size : Int).tmod 9) = ((l.length % 9 : Nat) : Int) := (Int.ofNat_tmod l.length 9).symm
      rw [e1]
      have main : ∀ m : Nat, 0 < m → m ≤ 9 → m ≤ l.length → S.digits_step (D v, (mk l).extract 0 m, ()) = some (D (v * 10 ^ m + numB (l.take m)), 0, ()) ∧
          digits_Parse_l1 K κ0 n ((mk l).extract m ((mk l).size : Int).toNat) (D (v * 10 ^ m + numB (l.take m))) = some (D (v * 10 ^ l.length + numB l), 0, ()) := by
        intro m hm hm9 hml
        have htl : (l.take m).length = m := by rw [List.length_take]; omega
        have htd := all_take hd m
        constructor
        · rw [mk_extract, List.drop_zero, step_D (j := j) hv5 (by omega) htd, htl]
        · rw [mk_extract, show ((mk l).size : Int).toNat = l.length from rfl, List.take_length]
          have hlt := numB_lt _ htd
          rw [htl] at hlt
          have hvm : v * 10 ^ m + numB (l.take m) < 10 ^ (j + m) := by
            have := Nat.mul_le_mul_right (10 ^ m) hv
            rw [Nat.succ_mul, ← Nat.pow_add] at this; omega
          rw [ih (l.drop m) _ (j + m) (by rw [List.length_drop]; omega) (all_drop hd m) hvm (by rw [List.length_drop]; omega)]
          congr 2
          rw [List.length_drop]
          have e := numB_app (l.take m) (l.drop m)
          rw [List.take_append_drop, List.length_drop] at e
          rw [e, Nat.add_mul, Nat.mul_assoc, ← Nat.pow_add, show m + (l.length - m) = l.length by omega, Nat.add_assoc]
      by_cases hm0 : l.length % 9 = 0
      · obtain ⟨s1, s2⟩ := main 9 (by omega) (by omega) (by omega)
        rw [ct (by omega), ct (by omega), s1]
        simp only [Option.bind_some, decide_true, Bool.not_true, cond_false]
        rw [ct (by omega)]
        exact s2
      · obtain ⟨s1, s2⟩ := main (l.length % 9) (by omega) (by omega) (Nat.mod_le _ _)
        have hle := Nat.mod_le l.length 9
        rw [cf (by omega), ct (by omega), ct (by omega), Int.toNat_natCast, s1]
        simp only [Option.bind_some, decide_true, Bool.not_true, cond_false]
        rw [ct (by omega), ct (by omega)]
        exact s2
theorem parse_runes (K : Nat) (l : List UInt8) (h0 : l ≠ []) (hK : l.length < K) : ∀ (n p : Nat), l.length - p < n → p ≤ l.length →
    digits_Parse_l0 K n (mk l) (mk l) p = some (if (l.drop p).all isdig = false then ([], 2, ()) else if 4900 < l.length then ([], 3, ()) else if l.all isdig = true then (D (numB l), 0, ()) else (((digits_Parse_l1 K (digits_Parse_l0 K (n - 1 - (l.length - p))) K (mk l) []).getD ([], 0, ())))) ∨ l.all isdig = false ∧ (l.take p).all isdig = false := by
  intro n
  induction n with
  | zero => intro p h; omega
  | succ n ih =>
    intro p h hp
    by_cases hall : (l.take p).all isdig = true
    case neg =>
      right
      have hf : (l.take p).all isdig = false := by simpa using hall
      refine ⟨?_, hf⟩
      by_cases ha : l.all isdig = true
      · rw [all_take ha] at hf; cases hf
      · simpa using ha
    left
    have hs : (mk l).size = l.length := rfl
    simp only [digits_Parse_l0, digits_Parse_s0]
    by_cases hlt : p < l.length
    · have hdp : l.drop p = l[p] :: l.drop (p + 1) := List.drop_eq_getElem_cons hlt
      have htp : l.take (p + 1) = l.take p ++ [l[p]] := by rw [List.take_add_one, List.getElem?_eq_getElem hlt]; rfl
      rw [ct (by omega)]
      by_cases hb : isdig l[p] = true
      · have hb' := hb
        simp only [isdig, Bool.and_eq_true, decide_eq_true_eq] at hb'
        rw [decode_low hlt (by omega)]
        simp only
        rw [cf (by omega), cf (by omega)]
        rcases ih (p + 1) (by omega) (by omega) with h' | ⟨_, h'⟩
        · rw [h', hdp, List.all_cons, hb, Bool.true_and]
          congr 3
          rw [show n - 1 - (l.length - (p + 1)) = n + 1 - 1 - (l.length - p) by omega]
        · rw [htp, List.all_append, hall] at h'
          simp [hb] at h'
      · have hb2 : isdig l[p] = false := by simpa using hb
        rw [hdp, List.all_cons, hb2, Bool.false_and, if_pos rfl]
        simp only [isdig, Bool.and_eq_false_iff, decide_eq_false_iff_not] at hb2
        by_cases h128 : l[p].toNat < 128
        · rw [decode_low hlt h128]
          simp only
          by_cases h48 : l[p].toNat < 48
          · rw [ct (by omega)]
          · rw [cf (by omega), ct (by omega)]
        · have := decode_high hlt (by omega)
          rw [cf (by omega), ct (by omega)]
    · rw [cf (by omega), List.drop_eq_nil_of_le (by omega)]
      have hpl : p = l.length := by omega
      rw [hpl, List.take_length] at hall
      simp only [List.all_nil, Bool.true_eq_false, if_false, hall, if_true]
      by_cases h49 : 4900 < l.length
      · rw [ct (by omega), if_pos h49]
      · rw [cf (by omega), if_neg h49]
        have := parse_blocks K (digits_Parse_l0 K n) K l 0 0 hK hall (by decide) (by omega)
        rw [D_zero, Nat.zero_mul, Nat.zero_add] at this
        exact this
theorem digits_Parse_ok (x : ByteArray × Unit) (y : List Int × Int × Unit) (h : S.digits_Parse x = some y) : ∃ K, digits_Parse K x.1 = some y := by
  obtain ⟨s, _⟩ := x
  obtain ⟨l, rfl⟩ := mk_of s
  simp only [S.digits_Parse, data_mk] at h
  split at h <;> cases h
  refine ⟨l.length + 1, ?_⟩
  simp only [digits_Parse, digits_Parse_b, mk_beq_nil, parseL]
  by_cases h0 : l = []
  · subst h0; rfl
  · rw [decide_eq_false h0, cond_false]
    rcases parse_runes (l.length + 1) l h0 (by omega) (l.length + 1) 0 (by omega) (by omega) with h' | ⟨_, h'⟩
    · rw [h', List.drop_zero]
      by_cases ha : l.all isdig = true
      · simp [h0, ha]
      · have ha' : l.all isdig = false := by simpa using ha
        simp [ha']
    · simp at h'
theorem Parse_mk {l : List UInt8} (h : l.length < 9223372036854775807) : S.digits_Parse (mk l, ()) = some (parseL l) := by
  simp only [S.digits_Parse, data_mk]
  exact if_pos h
end Go.L

/-! XD -/
namespace Go.L
open Go.PM
set_option exponentiation.threshold 20000
set_option linter.unusedVariables false
set_option linter.unusedSimpArgs false

theorem Mul_all {a b : Nat} (ha : a < P 512) (hb : b < P 512) : S.limbs_Mul (D a, D b, ()) = some (res (a * b)) := by
  have h1 := dlen ha
  have h2 := dlen hb
  by_cases hc : D a ≠ [] ∧ D b ≠ [] ∧ 513 < (D a).length + (D b).length
  · simp only [S.limbs_Mul]
    rw [if_pos ⟨by unfold fine; omega, by unfold fine; omega, (can_D a).1, (can_D b).1⟩, if_pos hc]
    have la := can_low (can_D a) hc.1
    have lb := can_low (can_D b) hc.2.1
    rw [val_D, ← P_int] at la lb
    have la := Int.ofNat_le.1 la
    have lb := Int.ofNat_le.1 lb
    have := Nat.mul_le_mul la lb
    rw [← P_add] at this
    rw [res_out (Nat.le_trans (P_mono (by omega)) this)]
  · simp only [S.limbs_Mul]
    rw [if_pos ⟨by unfold fine; omega, by unfold fine; omega, (can_D a).1, (can_D b).1⟩, if_neg hc, val_D, val_D]
    congr 2
theorem and_two_pow (n j : Nat) : n &&& 2 ^ j = n / 2 ^ j % 2 * 2 ^ j := by
  apply Nat.eq_of_testBit_eq
  intro i
  rw [Nat.testBit_and, Nat.testBit_two_pow, Nat.mul_comm, Nat.testBit_two_pow_mul]
  by_cases h : j = i
  · subst h
    simp [Nat.testBit_eq_decide_div_mod_eq]
  · have : ∀ k, k ≠ 0 → (n / 2 ^ j % 2).testBit k = false := by
      intro k hk
      apply Nat.testBit_lt_two_pow
      have : 2 ^ 1 ≤ 2 ^ k := Nat.pow_le_pow_right (by decide) (by omega)
      omega
    by_cases h2 : j ≤ i
    · simp [h, h2, this (i - j) (by omega)]
    · simp [h, h2]
theorem and_bit {n j : Nat} (hn : n < 9223372036854775808) (hj : j ≤ 20) : ibits .and .i64 (n : Int) ((2 ^ j : Nat) : Int) = ((n / 2 ^ j % 2 * 2 ^ j : Nat) : Int) := by
  have hj2 : 2 ^ j ≤ 2 ^ 20 := Nat.pow_le_pow_right (by decide) hj
  simp only [ibits, BitVec.ofInt_natCast, BitVec.toNat_and, BitVec.toNat_ofNat]
  have e : n % 2 ^ IntKind.i64.bits &&& 2 ^ j % 2 ^ IntKind.i64.bits = n / 2 ^ j % 2 * 2 ^ j := by
    rw [Nat.mod_eq_of_lt (show n < 2 ^ IntKind.i64.bits by show n < 2 ^ 64; omega), Nat.mod_eq_of_lt (show 2 ^ j < 2 ^ IntKind.i64.bits by show 2 ^ j < 2 ^ 64; omega), and_two_pow]
  rw [e]
  have : n / 2 ^ j % 2 * 2 ^ j ≤ 1 * 2 ^ j := Nat.mul_le_mul_right _ (by omega)
  rw [wi64] <;> omega

/-- digits_power: one round of loop 0. -/
def digits_power_s0 (κ0 : (List Int) → Int → (List Int) → Int → Option ((List Int) × Int × Unit)) (a : List Int) (n2 : Int) (out : List Int) (bit : Int) : Option ((List Int) × Int × Unit) :=
  cond (decide (0 < bit))
    (
      (S.limbs_Mul (out, out, ())).bind fun z2 =>
      cond (!(decide (z2.2.1 = 0))) (some ([], z2.2.1, ()))
        (
          cond (decide ((ibits .and .i64 n2 bit) = 0)) (κ0 a n2 z2.1 (bit.fdiv (2 ^ 1)))
            (
              (S.limbs_Mul (z2.1, a, ())).bind fun z5 =>
              cond (!(decide (z5.2.1 = 0))) (some ([], z5.2.1, ())) (κ0 a n2 z5.1 (bit.fdiv (2 ^ 1)))))) (some (out, 0, ()))

def digits_power_l0 (K : Nat) : Nat → (List Int) → Int → (List Int) → Int → Option ((List Int) × Int × Unit)
  | 0, _, _, _, _ => none
  | n + 1, a, n2, out, bit => digits_power_s0 (digits_power_l0 K n) a n2 out bit

/-- digits.power -/
def digits_power_b (I0 : (List Int) → Int → (List Int) → Int → Option ((List Int) × Int × Unit)) (a : List Int) (n : Int) : Option ((List Int) × Int × Unit) :=
  cond (decide (16384 < n)) (some ([], 11, ()))
    (
      (S.limbs_Of (1, ())).bind fun z1 =>
      I0 a n z1.1 1048576)

def digits_power (K : Nat) (a : List Int) (n : Int) : Option ((List Int) × Int × Unit) := digits_power_b (digits_power_l0 K K) a n

def S.digits_power (x : List Int × Int × Unit) : Option (List Int × Int × Unit) := if x.1 = D 10 ∧ 0 ≤ x.2.1 then some (if 16384 < x.2.1 then ([], 11, ()) else res (10 ^ x.2.1.toNat)) else none
theorem ten_D : (10 : Nat) < P 512 := Nat.lt_of_lt_of_le (show 10 < P 1 by decide) (P_mono (by decide))
theorem e11 : decide ((11 : Int) = 0) = false := rfl
theorem power_loop (K N : Nat) (hN : N ≤ 16384) : ∀ (j n : Nat), j < n → j ≤ 21 → 10 ^ (N / 2 ^ j) < P 512 →
    digits_power_l0 K n (D 10) (N : Int) (D (10 ^ (N / 2 ^ j))) ((2 ^ j / 2 : Nat) : Int) = some (res (10 ^ N)) := by
  intro j
  induction j with
  | zero =>
    intro n h _ hf
    obtain ⟨n, rfl⟩ := Nat.exists_eq_succ_of_ne_zero (by omega : n ≠ 0)
    rw [Nat.pow_zero, Nat.div_one] at hf ⊢
    simp only [digits_power_l0, digits_power_s0]
    rw [cf (by decide), res_in hf]
  | succ j ih =>
    intro n h hj hf
    obtain ⟨n, rfl⟩ := Nat.exists_eq_succ_of_ne_zero (by omega : n ≠ 0)
    have hb : 2 ^ (j + 1) / 2 = 2 ^ j := by rw [Nat.pow_succ]; omega
    have hp := Nat.pow_pos (n := j) (show 0 < 2 by decide)
    rw [hb]
    simp only [digits_power_l0, digits_power_s0]
    have hdm : N / 2 ^ j = 2 * (N / 2 ^ (j + 1)) + N / 2 ^ j % 2 := by
      rw [Nat.pow_succ, ← Nat.div_div_eq_div_mul]
      have := Nat.div_add_mod (N / 2 ^ j) 2
      omega
    have hle : N / 2 ^ j ≤ N := Nat.div_le_self _ _
    have hsq : 10 ^ (N / 2 ^ (j + 1)) * 10 ^ (N / 2 ^ (j + 1)) = 10 ^ (2 * (N / 2 ^ (j + 1))) := by rw [← Nat.pow_add]; congr 1; omega
    have e2 : (((2 ^ j : Nat) : Int).fdiv (2 ^ 1)) = ((2 ^ j / 2 : Nat) : Int) := by
      rw [Int.fdiv_eq_ediv_of_nonneg _ (by decide)]; rfl
    rw [ct (by omega), Mul_all hf hf, hsq, e2]
    simp only [Option.bind_some]
    by_cases h1 : 10 ^ (2 * (N / 2 ^ (j + 1))) < P 512
    · rw [res_in h1]
      simp only [decide_true, Bool.not_true, cond_false]
      rw [and_bit (by omega) (by omega)]
      by_cases h2 : N / 2 ^ j % 2 = 0
      · rw [ct (by rw [h2, Nat.zero_mul]; rfl)]
        have e : 2 * (N / 2 ^ (j + 1)) = N / 2 ^ j := by omega
        rw [e] at h1 ⊢
        exact ih n (by omega) (by omega) h1
      · have h3 : N / 2 ^ j % 2 = 1 := by omega
        rw [cf (by rw [h3, Nat.one_mul]; omega), Mul_all h1 ten_D, ← Nat.pow_succ]
        simp only [Option.bind_some]
        have e : (2 * (N / 2 ^ (j + 1))).succ = N / 2 ^ j := by omega
        rw [e]
        by_cases h4 : 10 ^ (N / 2 ^ j) < P 512
        · rw [res_in h4]
          simp only [decide_true, Bool.not_true, cond_false]
          exact ih n (by omega) (by omega) h4
        · rw [res_out (by omega), res_out (Nat.le_trans (by omega) (ten_le hle))]; simp only [e11, Bool.not_false, cond_true]
    · rw [res_out (by omega), res_out (Nat.le_trans (by omega) (ten_le (show 2 * (N / 2 ^ (j + 1)) ≤ N by omega)))]; simp only [e11, Bool.not_false, cond_true]
theorem power_hi {N : Nat} (h : 16384 < N) : digits_power 22 (D 10) (N : Int) = some ([], 11, ()) := by
  simp only [digits_power, digits_power_b]
  rw [ct (by omega)]
theorem div_21 {N : Nat} (h : N ≤ 16384) : N / 2 ^ 21 = 0 := Nat.div_eq_of_lt (by omega)
theorem P_ten0 : 10 ^ 0 < P 512 := by rw [Nat.pow_zero]; exact P_one 512 (by decide)
theorem bit_21 : ((2 ^ 21 / 2 : Nat) : Int) = 1048576 := rfl
theorem power_lo0 {N : Nat} (h : N ≤ 16384) : digits_power_l0 22 22 (D 10) (N : Int) (D 1) 1048576 = some (res (10 ^ N)) := by
  have := power_loop 22 N h 21 22 (by omega) (by omega) (by rw [div_21 h]; exact P_ten0)
  rw [div_21 h, Nat.pow_zero, bit_21] at this
  exact this
theorem power_lo {N : Nat} (h : N ≤ 16384) : digits_power 22 (D 10) (N : Int) = some (res (10 ^ N)) := by
  simp only [digits_power, digits_power_b]
  rw [cf (by omega), Of_one, Option.bind_some]
  exact power_lo0 h
theorem digits_power_ok (x : List Int × Int × Unit) (y : List Int × Int × Unit) (h : S.digits_power x = some y) : ∃ K, digits_power K x.1 x.2.1 = some y := by
  unfold S.digits_power at h
  split at h
  · rename_i hh
    obtain ⟨a, n, _⟩ := x
    obtain ⟨ha, hn⟩ := hh
    simp only at ha hn h ⊢
    subst ha
    obtain ⟨N, rfl⟩ := Int.eq_ofNat_of_zero_le hn
    refine ⟨22, ?_⟩
    rw [← h, Int.toNat_natCast]
    by_cases h1 : 16384 < N
    · rw [if_pos (by omega), power_hi h1]
    · rw [if_neg (by omega), power_lo (by omega)]
  · cases h
/-- digits.Ten -/
def digits_Ten (n : Int) : Option ((List Int) × Int × Unit) :=
  cond (decide (n < 0)) (some ([], 1, ()))
    (
      (S.limbs_Of (10, ())).bind fun z1 =>
      (S.digits_power (z1.1, n, ())).bind fun z2 =>
      some (z2.1, z2.2.1, ()))

def S.digits_Ten (x : Int × Unit) : Option (List Int × Int × Unit) := L.digits_Ten x.1
instance instDecInW (a : List Int) : Decidable (inW a) := inferInstanceAs (Decidable (_ ∧ _))
end Go.L

/-! XE -/
namespace Go.L
open Go.PM
set_option exponentiation.threshold 20000
set_option linter.unusedVariables false
set_option linter.unusedSimpArgs false

end Go.L
