/-
  strings as lists of bytes; decimal digits; library functions on strings. decimal digits: the text of a number. decimal digits: read; powers of ten. powers of ten; the head of the laws of digits; the laws that need no more. the laws of digits that repeat a text.
  No condition beyond those that each theorem names.
-/
import Derived.Test.YtdadepdcllachaaGreatDoorH

/-! XA -/
namespace Go.L
open Go.PM
set_option exponentiation.threshold 20000
set_option linter.unusedVariables false
set_option linter.unusedSimpArgs false

/-- A string of bytes. -/
def mk (l : List UInt8) : ByteArray := ⟨l.toArray⟩
theorem mk_data (s : ByteArray) : mk s.data.toList = s := by cases s; rfl
theorem mk_of (s : ByteArray) : ∃ l, s = mk l := ⟨_, (mk_data s).symm⟩
theorem data_mk (l : List UInt8) : (mk l).data.toList = l := rfl
theorem mk_extract (l : List UInt8) (a b : Nat) : (mk l).extract a b = mk ((l.take b).drop a) := by
  apply ByteArray.ext
  rw [ByteArray.data_extract]
  apply Array.toList_inj.1
  rw [Array.toList_extract]
  show l.extract a b = (l.take b).drop a
  rw [List.extract_eq_take_drop, List.drop_take]
theorem toList_loop (s : ByteArray) : ∀ (k i : Nat) (r : List UInt8), s.size - i = k → ByteArray.toList.loop s i r = r.reverse ++ s.data.toList.drop i := by
  intro k
  induction k with
  | zero =>
    intro i r h
    have hl : s.data.toList.length = s.size := rfl
    rw [ByteArray.toList.loop, if_neg (by omega), List.drop_eq_nil_of_le (by omega), List.append_nil]
  | succ k ih =>
    intro i r h
    have hl : s.data.toList.length = s.size := rfl
    have hi : i < s.data.toList.length := by omega
    rw [ByteArray.toList.loop, if_pos (by omega), ih (i + 1) _ (by omega), List.drop_eq_getElem_cons hi]
    have : s.get! i = s.data.toList[i] := by
      show s.data[i]! = _
      rw [getElem!_pos s.data i (by simpa using hi)]
      simp
    rw [this]
    simp
theorem toList_eq (s : ByteArray) : s.toList = s.data.toList := by
  rw [show s.toList = ByteArray.toList.loop s 0 [] from rfl, toList_loop s _ 0 [] rfl]; rfl
theorem mk_beq (a b : List UInt8) : ((mk a).toList == (mk b).toList) = decide (a = b) := by
  rw [toList_eq, toList_eq, data_mk, data_mk]
  by_cases h : a = b <;> simp [h]
theorem mk_beq_nil (a : List UInt8) : ((mk a).toList == (⟨#[]⟩ : ByteArray).toList) = decide (a = []) := mk_beq a []

/-- strings_trimLeftByte: one round of loop 0. -/
def strings_trimLeftByte_s0 (κ0 : ByteArray → Int → Option (ByteArray × Unit)) (s : ByteArray) (c : Int) : Option (ByteArray × Unit) :=
  cond (decide (0 < (s.size : Int)))
   (
   cond (decide (0 < (s.size : Int)))
   (
   cond (decide ((bt s 0) = c))
   (
   cond (decide (1 ≤ (s.size : Int))) (κ0 (s.extract 1 ((s.size : Int).toNat)) c) none) (some (s, ()))) none) (some (s, ()))

def strings_trimLeftByte_l0 (K : Nat) : Nat → ByteArray → Int → Option (ByteArray × Unit)
  | 0, _, _ => none
  | n + 1, s, c => strings_trimLeftByte_s0 (strings_trimLeftByte_l0 K n) s c

/-- strings.trimLeftByte -/
def strings_trimLeftByte_b (I0 : ByteArray → Int → Option (ByteArray × Unit)) (s : ByteArray) (c : Int) : Option (ByteArray × Unit) :=
  I0 s c

def strings_trimLeftByte (K : Nat) (s : ByteArray) (c : Int) : Option (ByteArray × Unit) := strings_trimLeftByte_b (strings_trimLeftByte_l0 K K) s c

def S.strings_trimLeftByte (x : ByteArray × Int × Unit) : Option (ByteArray × Unit) := some (mk (x.1.data.toList.dropWhile fun b => decide ((b.toNat : Int) = x.2.1)), ())
theorem trimLeftByte_loop (K : Nat) : ∀ (n : Nat) (l : List UInt8) (c : Int), l.length < n → strings_trimLeftByte_l0 K n (mk l) c = some (mk (l.dropWhile fun b => decide ((b.toNat : Int) = c)), ()) := by
  intro n
  induction n with
  | zero => intro l c h; omega
  | succ n ih =>
    intro l c h
    simp only [strings_trimLeftByte_l0, strings_trimLeftByte_s0]
    cases l with
    | nil => rfl
    | cons b l =>
      have hs : (mk (b :: l)).size = l.length + 1 := rfl
      have hl : (b :: l).length = l.length + 1 := rfl
      have h0 : bt (mk (b :: l)) 0 = (b.toNat : Int) := rfl
      rw [ct (by omega), ct (by omega), h0, mk_extract, List.dropWhile_cons]
      by_cases hb : (b.toNat : Int) = c
      · rw [ct hb, ct (by omega), if_pos (by simpa using hb), Int.toNat_natCast, hs, ← hl, List.take_length, List.drop_succ_cons, List.drop_zero]
        exact ih l c (by omega)
      · rw [cf hb, if_neg (by simpa using hb)]
theorem strings_trimLeftByte_ok (x : ByteArray × Int × Unit) (y : ByteArray × Unit) (h : S.strings_trimLeftByte x = some y) : ∃ K, strings_trimLeftByte K x.1 x.2.1 = some y := by
  obtain ⟨s, c, _⟩ := x
  obtain ⟨l, rfl⟩ := mk_of s
  refine ⟨l.length + 1, ?_⟩
  rw [← h]
  exact trimLeftByte_loop _ _ l c (by omega)
/-- strings.TrimLeft -/
def strings_TrimLeft (s : ByteArray) (cutset : ByteArray) : Option (ByteArray × Unit) :=
  cond ((s.toList == (⟨#[]⟩ : ByteArray).toList)) (some (s, ()))
   (
   cond ((cutset.toList == (⟨#[]⟩ : ByteArray).toList)) (some (s, ()))
   (
   cond (decide ((cutset.size : Int) = 1))
   (
   cond (decide (0 < (cutset.size : Int)))
   (
   cond (decide ((bt cutset 0) < 128))
   (
   cond (decide (0 < (cutset.size : Int)))
   (
   (S.strings_trimLeftByte (s, (bt cutset 0), ())).bind fun z3 =>
   some (z3.1, ())) none) none) none) none))

def S.strings_TrimLeft (x : ByteArray × ByteArray × Unit) : Option (ByteArray × Unit) := L.strings_TrimLeft x.1 x.2.1
theorem TrimLeft_0 (l : List UInt8) : S.strings_TrimLeft (mk l, (⟨#[48]⟩ : ByteArray), ()) = some (mk (l.dropWhile fun b => decide ((b.toNat : Int) = 48)), ()) := by
  simp only [S.strings_TrimLeft, L.strings_TrimLeft, mk_beq_nil]
  by_cases h : l = []
  · subst h; rfl
  · rw [decide_eq_false h]
    simp only [cond_false]
    rw [show ((⟨#[48]⟩ : ByteArray).toList == (⟨#[]⟩ : ByteArray).toList) = false from mk_beq_nil [48]]
    have h1 : (((⟨#[48]⟩ : ByteArray).size : Nat) : Int) = 1 := rfl
    have h2 : bt (⟨#[48]⟩ : ByteArray) 0 = 48 := rfl
    rw [cond_false, ct h1, ct (by omega), ct (by omega), ct (by omega), h2]
    simp only [S.strings_trimLeftByte, Option.bind_some, data_mk]

/-- slices_Reverse_s_byte_byte: one round of loop 0. -/
def slices_Reverse_s_byte_byte_s0 (κ0 : (List Int) → Nat → Nat → Int → Int → Option ((List Int) × Unit)) (s : List Int) (off : Nat) (len : Nat) (i : Int) (j : Int) : Option ((List Int) × Unit) :=
  cond (decide (i < j))
   (
   cond (decide (0 ≤ j))
   (
   cond (decide (j < ((len : Nat) : Int)))
   (
   cond (decide (0 ≤ i))
   (
   cond (decide (i < ((len : Nat) : Int)))
   (
   cond (decide (0 ≤ i))
   (
   cond (decide (i < ((len : Nat) : Int)))
   (
   cond (decide (0 ≤ j))
   (
   cond (decide (j < ((len : Nat) : Int)))
   (
   κ0 ((s.set (off + i.toNat) (s.getD (off + j.toNat) 0)).set (off + j.toNat) (s.getD (off + i.toNat) 0)) off len (IntKind.i64.wrap (i + 1)) (IntKind.i64.wrap (j - 1))) none) none) none) none) none) none) none) none) (some (s, ()))

def slices_Reverse_s_byte_byte_l0 (K : Nat) : Nat → (List Int) → Nat → Nat → Int → Int → Option ((List Int) × Unit)
  | 0, _, _, _, _, _ => none
  | n + 1, s, off, len, i, j => slices_Reverse_s_byte_byte_s0 (slices_Reverse_s_byte_byte_l0 K n) s off len i j

/-- slices.Reverse[[]byte,byte] -/
def slices_Reverse_s_byte_byte_b (I0 : (List Int) → Nat → Nat → Int → Int → Option ((List Int) × Unit)) (s : List Int) (off : Int) (len : Int) : Option ((List Int) × Unit) :=
  I0 s off.toNat len.toNat 0 (IntKind.i64.wrap (((len.toNat : Nat) : Int) - 1))

def slices_Reverse_s_byte_byte (K : Nat) (s : List Int) (off : Int) (len : Int) : Option ((List Int) × Unit) := slices_Reverse_s_byte_byte_b (slices_Reverse_s_byte_byte_l0 K K) s off len

def S.slices_Reverse_s_byte_byte (x : List Int × Int × Int × Unit) : Option (List Int × Unit) := if x.2.1 = 0 ∧ x.2.2.1 = x.1.length ∧ x.1.length < 9223372036854775807 then some (x.1.reverse, ()) else none
theorem list_ends {α : Type} (m : List α) : m = [] ∨ (∃ x, m = [x]) ∨ ∃ x m2 y, m = x :: (m2 ++ [y]) := by
  match m with
  | [] => exact .inl rfl
  | [x] => exact .inr (.inl ⟨x, rfl⟩)
  | x :: z :: m' => exact .inr (.inr ⟨x, (z :: m').dropLast, (z :: m').getLast (List.cons_ne_nil _ _), by rw [List.dropLast_concat_getLast]⟩)
theorem set_mid (a b : List Int) (x y : Int) : (a ++ x :: b).set a.length y = a ++ y :: b := by
  rw [List.set_append_right _ _ (Nat.le_refl _)]; simp
theorem getD_mid (a b : List Int) (x : Int) : (a ++ x :: b).getD a.length 0 = x := by simp [List.getD]
theorem Reverse_loop (K L : Nat) (hL : L < 9223372036854775807) : ∀ (n : Nat) (a m b : List Int), m.length < n → a.length + m.length + b.length = L →
    slices_Reverse_s_byte_byte_l0 K n (a ++ (m ++ b)) 0 L (a.length : Int) ((a.length : Int) + m.length - 1) = some (a ++ (m.reverse ++ b), ()) := by
  intro n
  induction n with
  | zero => intro a m b h; omega
  | succ n ih =>
    intro a m b h hl
    simp only [slices_Reverse_s_byte_byte_l0, slices_Reverse_s_byte_byte_s0]
    rcases list_ends m with rfl | ⟨x, rfl⟩ | ⟨x, m2, y, rfl⟩
    · rw [cf (by simp only [List.length_nil]; omega)]; rfl
    · rw [cf (by simp only [List.length_cons, List.length_nil]; omega)]; rfl
    · have hm : (x :: (m2 ++ [y])).length = m2.length + 2 := by simp
      rw [ct (by omega), ct (by omega), ct (by omega), ct (by omega), ct (by omega), ct (by omega), ct (by omega), ct (by omega), ct (by omega)]
      have hq : (a ++ x :: m2).length = a.length + m2.length + 1 := by simp; omega
      have hq1 : (a ++ [y]).length = a.length + 1 := by simp
      have j1 : ((a.length : Int) + ((x :: (m2 ++ [y])).length : Int) - 1).toNat = (a ++ x :: m2).length := by omega
      have e0 : a ++ (x :: (m2 ++ [y]) ++ b) = a ++ x :: (m2 ++ y :: b) := by simp
      have e1 : a ++ x :: (m2 ++ y :: b) = (a ++ x :: m2) ++ y :: b := by simp
      rw [j1, e0, Nat.zero_add, Nat.zero_add, Int.toNat_natCast]
      have g1 : (a ++ x :: (m2 ++ y :: b)).getD (a ++ x :: m2).length 0 = y := by rw [e1]; exact getD_mid _ _ _
      rw [g1, getD_mid, set_mid]
      have s2 : (a ++ y :: (m2 ++ y :: b)).set (a ++ x :: m2).length x = a ++ y :: (m2 ++ x :: b) := by
        rw [show a ++ y :: (m2 ++ y :: b) = (a ++ y :: m2) ++ y :: b by simp, show (a ++ x :: m2).length = (a ++ y :: m2).length by simp, set_mid]; simp
      rw [s2]
      have w1 : IntKind.i64.wrap ((a.length : Int) + 1) = ((a ++ [y]).length : Int) := by rw [wi64 (by omega) (by omega)]; omega
      have w2 : IntKind.i64.wrap ((a.length : Int) + ((x :: (m2 ++ [y])).length : Int) - 1 - 1) = ((a ++ [y]).length : Int) + (m2.length : Int) - 1 := by rw [wi64 (by omega) (by omega)]; omega
      rw [w1, w2, show a ++ y :: (m2 ++ x :: b) = (a ++ [y]) ++ (m2 ++ (x :: b)) by simp, ih (a ++ [y]) m2 (x :: b) (by omega) (by simp; omega)]
      simp
theorem slices_Reverse_s_byte_byte_ok (x : List Int × Int × Int × Unit) (y : List Int × Unit) (h : S.slices_Reverse_s_byte_byte x = some y) : ∃ K, slices_Reverse_s_byte_byte K x.1 x.2.1 x.2.2.1 = some y := by
  unfold S.slices_Reverse_s_byte_byte at h
  split at h <;> cases h
  rename_i hh
  obtain ⟨l, off, len, _⟩ := x
  obtain ⟨h1, h2, h3⟩ := hh
  simp only at h1 h2 h3 ⊢
  subst h1 h2
  refine ⟨l.length + 1, ?_⟩
  have := Reverse_loop (l.length + 1) l.length h3 (l.length + 1) [] l [] (by omega) (by simp)
  simp only [List.nil_append, List.append_nil] at this
  rw [← this]
  simp only [slices_Reverse_s_byte_byte, slices_Reverse_s_byte_byte_b, Int.toNat_zero, Int.toNat_natCast]
  rw [show IntKind.i64.wrap ((l.length : Int) - 1) = ((([] : List Int).length : Nat) : Int) + (l.length : Int) - 1 by rw [wi64 (by omega) (by omega)]; simp]
  rfl
theorem slices_Reverse_s_byte_byte_len (x : List Int × Int × Int × Unit) (y : List Int × Unit) (h : S.slices_Reverse_s_byte_byte x = some y) : y.1.length = x.1.length := by
  unfold S.slices_Reverse_s_byte_byte at h
  split at h <;> cases h
  simp
end Go.L

/-! XB -/
namespace Go.L
open Go.PM
set_option exponentiation.threshold 20000
set_option linter.unusedVariables false
set_option linter.unusedSimpArgs false

/-- The lowest k decimal digits, the lowest first. -/
def dg : Nat → Nat → List Nat
  | 0, _ => []
  | k + 1, n => n % 10 :: dg k (n / 10)
def trimz : List Nat → List Nat
  | [] => []
  | x :: l => if x = 0 then trimz l else x :: l
/-- The decimal digits of a number, the highest first. -/
def decL (n : Nat) : List Nat := if n = 0 then [0] else trimz (dg (n.log2 + 1) n).reverse
def dbyte (d : Nat) : UInt8 := UInt8.ofNat (48 + d)
def decS (n : Nat) : ByteArray := mk ((decL n).map dbyte)
theorem dg_len : ∀ k n, (dg k n).length = k
  | 0, _ => rfl
  | k + 1, n => by simp only [dg, List.length_cons, dg_len k]
theorem dg_lt : ∀ k n, ∀ d ∈ dg k n, d < 10
  | 0, _, d, h => by simp [dg] at h
  | k + 1, n, d, h => by
    simp only [dg, List.mem_cons] at h
    rcases h with rfl | h
    · exact Nat.mod_lt _ (by decide)
    · exact dg_lt k _ d h
theorem dg_zero : ∀ k, dg k 0 = List.replicate k 0
  | 0 => rfl
  | k + 1 => by simp only [dg, Nat.zero_mod, Nat.zero_div, dg_zero k, List.replicate_succ]
theorem dg_add : ∀ j k n, dg (j + k) n = dg j n ++ dg k (n / 10 ^ j)
  | 0, k, n => by simp [dg]
  | j + 1, k, n => by
    rw [show j + 1 + k = (j + k) + 1 by omega]
    simp only [dg, dg_add j k, List.cons_append]
    rw [Nat.div_div_eq_div_mul, Nat.pow_succ, Nat.mul_comm 10]
theorem dg_mod : ∀ k n, dg k (n % 10 ^ k) = dg k n
  | 0, _ => rfl
  | k + 1, n => by
    simp only [dg]
    rw [Nat.pow_succ, Nat.mul_comm, Nat.mod_mul_right_mod, Nat.mod_mul_right_div_self, dg_mod k]
theorem trimz_rep (k : Nat) (l : List Nat) : trimz (List.replicate k 0 ++ l) = trimz l := by
  induction k with
  | zero => rfl
  | succ k ih => rw [List.replicate_succ, List.cons_append]; simp only [trimz]; exact ih
theorem dg_more (L : List Nat) {j k n : Nat} (hj : n < 10 ^ j) (hjk : j ≤ k) : trimz (L ++ dg k n).reverse = trimz (L ++ dg j n).reverse := by
  obtain ⟨i, rfl⟩ := Nat.exists_eq_add_of_le hjk
  rw [dg_add, Nat.div_eq_of_lt hj, dg_zero, ← List.append_assoc, List.reverse_append, List.reverse_replicate, trimz_rep]
theorem dg_any (L : List Nat) {j k n : Nat} (hj : n < 10 ^ j) (hk : n < 10 ^ k) : trimz (L ++ dg k n).reverse = trimz (L ++ dg j n).reverse := by
  rcases Nat.le_total j k with h | h
  · exact dg_more L hj h
  · exact (dg_more L hk h).symm
theorem log_ten {n : Nat} (h : n ≠ 0) : n < 10 ^ (n.log2 + 1) := Nat.lt_of_lt_of_le (log2_high h) (Nat.pow_le_pow_left (by decide) _)
/-- The bytes of digits, as numbers. -/
abbrev bys (l : List Nat) : List Int := l.map fun d => ((48 + d : Nat) : Int)
theorem toStr_bys (l : List Nat) : toStr (bys l) = mk (l.map dbyte) := by
  simp only [toStr, bys, List.map_map, mk]
  congr 2
theorem dbyte_nat {d : Nat} (h : d < 10) : (dbyte d).toNat = 48 + d := by
  unfold dbyte
  rw [UInt8.toNat_ofNat']; omega
theorem drop_zeros (l : List Nat) (h : ∀ d ∈ l, d < 10) : ((l.map dbyte).dropWhile fun b => decide ((b.toNat : Int) = 48)) = (trimz l).map dbyte := by
  induction l with
  | nil => rfl
  | cons a l ih =>
    have ha := dbyte_nat (h a (by simp))
    simp only [List.map_cons, List.dropWhile_cons, trimz]
    by_cases h0 : a = 0
    · rw [if_pos h0, if_pos (by rw [decide_eq_true_eq, ha]; omega)]; exact ih fun d hd => h d (by simp [hd])
    · rw [if_neg h0, if_neg (by rw [decide_eq_true_eq, ha]; omega)]; rfl

/-- digits_Text: one round of loop 1. -/
def digits_Text_s1 (κ0 : (List Int) → (List Int) → Option (ByteArray × Unit)) (κ1 : (List Int) → (List Int) → Int → Int → Option (ByteArray × Unit)) (out : List Int) (q : List Int) (n2 : Int) (t27 : Int) : Option (ByteArray × Unit) :=
  cond (decide (t27 < 9))
   (
   let z6 := IntKind.u8.wrap (IntKind.u64.wrap (48 + (n2.tmod 10)))
   cond (decide ((out.length + ([z6]).length) * 1 ≤ 140737488351232)) (κ1 (out ++ ([z6])) q (IntKind.u64.wrap (n2.tdiv 10)) (IntKind.i64.wrap (t27 + 1))) none) (κ0 q out)

def digits_Text_l1 (K : Nat) (κ0 : (List Int) → (List Int) → Option (ByteArray × Unit)) : Nat → (List Int) → (List Int) → Int → Int → Option (ByteArray × Unit)
  | 0, _, _, _, _ => none
  | n + 1, out, q, n2, t27 => digits_Text_s1 κ0 (digits_Text_l1 K κ0 n) out q n2 t27

/-- digits_Text: one round of loop 0. -/
def digits_Text_s0 (I1 : (List Int) → (List Int) → Int → Int → Option (ByteArray × Unit)) (κ0 : (List Int) → (List Int) → Option (ByteArray × Unit)) (a : List Int) (out : List Int) : Option (ByteArray × Unit) :=
  cond (decide (0 < (a.length : Int)))
   (
   (S.limbs_Of (1000000000, ())).bind fun z1 =>
   (S.limbs_Div (a, z1.1, ())).bind fun z2 =>
   (S.limbs_Small (z2.2.1, ())).bind fun z3 =>
   I1 out z2.1 z3.1 0)
   (
   (S.slices_Reverse_s_byte_byte (out, ((0 : Nat) : Int), ((out.length : Nat) : Int), ())).bind fun z10 =>
   (S.strings_TrimLeft ((toStr z10.1), (⟨#[48]⟩ : ByteArray), ())).bind fun z12 =>
   some (z12.1, ()))

def digits_Text_l0 (K : Nat) : Nat → (List Int) → (List Int) → Option (ByteArray × Unit)
  | 0, _, _ => none
  | n + 1, a, out => digits_Text_s0 (digits_Text_l1 K (digits_Text_l0 K n) K) (digits_Text_l0 K n) a out

/-- digits.Text -/
def digits_Text_b (I0 : (List Int) → (List Int) → Option (ByteArray × Unit)) (a : List Int) : Option (ByteArray × Unit) :=
  cond (decide ((a.length : Int) = 0)) (some ((⟨#[48]⟩ : ByteArray), ())) (I0 a [])

def digits_Text (K : Nat) (a : List Int) : Option (ByteArray × Unit) := digits_Text_b (digits_Text_l0 K K) a

def S.digits_Text (x : List Int × Unit) : Option (ByteArray × Unit) := if can x.1 ∧ x.1.length ≤ 512 then some (decS (val W x.1).toNat, ()) else none
theorem text_in (K : Nat) (κ0 : List Int → List Int → Option (ByteArray × Unit)) (q : List Int) : ∀ (r t n v : Nat) (L : List Nat), t + r = 9 → r < n → v < 10000000000 → L.length + r < 1000000010 →
    digits_Text_l1 K κ0 n (bys L) q (v : Int) (t : Int) = κ0 q (bys (L ++ dg r v)) := by
  intro r
  induction r with
  | zero =>
    intro t n v L h hn hv hL
    obtain ⟨n, rfl⟩ := Nat.exists_eq_succ_of_ne_zero (by omega : n ≠ 0)
    simp only [digits_Text_l1, digits_Text_s1]
    rw [cf (by omega), dg, List.append_nil]
  | succ r ih =>
    intro t n v L h hn hv hL
    obtain ⟨n, rfl⟩ := Nat.exists_eq_succ_of_ne_zero (by omega : n ≠ 0)
    simp only [digits_Text_l1, digits_Text_s1]
    have e1 : ((v : Int).tmod 10) = ((v % 10 : Nat) : Int) := (Int.ofNat_tmod v 10).symm
    have e2 : ((v : Int).tdiv 10) = ((v / 10 : Nat) : Int) := (Int.ofNat_tdiv v 10).symm
    have hm := Nat.mod_lt v (show 0 < 10 by decide)
    have l1 : (bys L).length = L.length := by simp
    rw [ct (by omega), ct (by simp only [List.length_map, List.length_cons, List.length_nil]; omega), e1, e2, wu64 (by omega) (by omega), wu8 (by omega) (by omega), wu64 (by omega) (by omega), wi64 (by omega) (by omega)]
    have := ih (t + 1) n (v / 10) (L ++ [v % 10]) (by omega) (by omega) (by omega) (by simp; omega)
    rw [show bys (L ++ [v % 10]) = bys L ++ [48 + ((v % 10 : Nat) : Int)] by simp [bys], show ((t + 1 : Nat) : Int) = (t : Int) + 1 by omega] at this
    rw [this, dg, List.append_assoc]; rfl
theorem text_loop (K : Nat) (hK : 9 < K) : ∀ (n a k : Nat) (L : List Nat), a < n → a < P 512 → a < 10 ^ k → L.length < 999999990 → (a ≠ 0 → L.length + k < 999999980) → (∀ d ∈ L, d < 10) →
    digits_Text_l0 K n (D a) (bys L) = some (mk ((trimz (L ++ dg k a).reverse).map dbyte), ()) := by
  intro n
  induction n with
  | zero => intro a k L h; omega
  | succ n ih =>
    intro a k L h ha hk hL hL2 hd
    simp only [digits_Text_l0, digits_Text_s0, D_len_pos]
    by_cases h0 : a = 0
    · subst h0
      rw [cf (by omega)]
      have hl : (bys L).length = L.length := by simp
      have e0 : S.slices_Reverse_s_byte_byte (bys L, ((0 : Nat) : Int), (((bys L).length : Nat) : Int), ()) = some ((bys L).reverse, ()) := by
        exact if_pos ⟨rfl, rfl, by show (bys L).length < _; omega⟩
      have e1 : toStr (bys L).reverse = mk (L.reverse.map dbyte) := by rw [← toStr_bys, bys, bys, List.map_reverse]
      rw [e0]
      simp only [Option.bind_some]
      rw [e1, TrimLeft_0]
      simp only [Option.bind_some]
      rw [drop_zeros _ (fun d hd' => hd d (List.mem_reverse.1 hd')), dg_zero, List.reverse_append, List.reverse_replicate, trimz_rep]
    · have hb : (1000000000 : Nat) < P 512 := Nat.lt_of_lt_of_le (show 1000000000 < P 1 by decide) (P_mono (by decide))
      have eOf : S.limbs_Of (1000000000, ()) = some (D 1000000000, ()) := limbs_Of_D (n := 1000000000) (by decide)
      have hq : a / 1000000000 < P 512 := Nat.lt_of_le_of_lt (Nat.div_le_self _ _) ha
      have hlt := Nat.mod_lt a (show 0 < 1000000000 by decide)
      have hr : a % 1000000000 < P 1 := Nat.lt_trans hlt (by decide)
      have hs : (D (a % 1000000000)).length ≤ 1 := dlen hr
      rw [ct (by omega), eOf]
      simp only [Option.bind_some, Div_D (P1000 ha (by decide)) hb (by decide), Small_D (P1000 hr (by decide))]
      rw [if_neg (by omega)]
      simp only
      have ht := text_in K (digits_Text_l0 K n) (D (a / 1000000000)) 9 0 K (a % 1000000000) L (by omega) hK (by omega) (by omega)
      rw [show ((0 : Nat) : Int) = (0 : Int) from rfl] at ht
      rw [ht, show dg 9 (a % 1000000000) = dg 9 a from dg_mod 9 a]
      have hq9 : a / 1000000000 < 10 ^ (k - 9) := by
        rcases Nat.lt_or_ge k 9 with hk9 | hk9
        · have : 10 ^ k ≤ 10 ^ 9 := Nat.pow_le_pow_right (by decide) (by omega)
          rw [Nat.div_eq_of_lt (by omega)]
          exact Nat.pow_pos (by decide)
        · have e : 10 ^ k = 10 ^ (k - 9) * 1000000000 := by rw [show (1000000000 : Nat) = 10 ^ 9 from rfl, ← Nat.pow_add]; congr 1; omega
          rw [e] at hk
          exact (Nat.div_lt_iff_lt_mul (by decide)).2 hk
      rw [ih (a / 1000000000) (k - 9) (L ++ dg 9 a) (by omega) hq hq9 (by rw [List.length_append, dg_len]; have := hL2 h0; omega) (by
        intro hq0
        rw [List.length_append, dg_len]; have := hL2 h0
        rcases Nat.lt_or_ge k 9 with hk9 | hk9
        · rw [show k - 9 = 0 by omega] at hq9; simp at hq9; omega
        · omega) (by
        intro d h'
        rcases List.mem_append.1 h' with h' | h'
        · exact hd d h'
        · exact dg_lt 9 a d h')]
      rw [List.append_assoc, show (1000000000 : Nat) = 10 ^ 9 from rfl, ← dg_add, dg_any L hk (show a < 10 ^ (9 + (k - 9)) from Nat.lt_of_lt_of_le hk (Nat.pow_le_pow_right (by decide) (by omega)))]
theorem digits_Text_ok (x : List Int × Unit) (y : ByteArray × Unit) (h : S.digits_Text x = some y) : ∃ K, digits_Text K x.1 = some y := by
  unfold S.digits_Text at h
  split at h <;> cases h
  rename_i hh
  obtain ⟨a, _⟩ := x
  obtain ⟨ca, la⟩ := hh
  simp only at ca la ⊢
  obtain ⟨A, rfl⟩ := can_D_of ca
  have hA := D_lt la
  refine ⟨A + 10, ?_⟩
  rw [val_D, Int.toNat_natCast]
  simp only [digits_Text, digits_Text_b, D_len_zero]
  by_cases h0 : A = 0
  · subst h0; rfl
  · rw [cf h0]
    have hk : A.log2 < 32 * 512 := log2_lt_P h0 hA
    have := text_loop (A + 10) (by omega) (A + 10) A (A.log2 + 1) [] (by omega) hA (log_ten h0) (by simp) (by simp; omega) (by simp)
    rw [show bys [] = [] from rfl] at this
    rw [this]
    simp only [List.nil_append, decS, decL, if_neg h0]
end Go.L

/-! XC -/
namespace Go.L
open Go.PM
set_option exponentiation.threshold 20000
set_option linter.unusedVariables false
set_option linter.unusedSimpArgs false

end Go.L

/-! XD -/
namespace Go.L
open Go.PM
set_option exponentiation.threshold 20000
set_option linter.unusedVariables false
set_option linter.unusedSimpArgs false

theorem e11 : decide ((11 : Int) = 0) = false := rfl
instance instDecInW (a : List Int) : Decidable (inW a) := inferInstanceAs (Decidable (_ ∧ _))
end Go.L

/-! XE -/
namespace Go.L
open Go.PM
set_option exponentiation.threshold 20000
set_option linter.unusedVariables false
set_option linter.unusedSimpArgs false

end Go.L
