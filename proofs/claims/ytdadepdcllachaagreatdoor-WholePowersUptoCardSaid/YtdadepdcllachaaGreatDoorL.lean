/-
  boxes: what their functions make of boxes of dyads. the laws of boxes. the laws of boxes: wider, hulls.
  No condition beyond those that each theorem names.
-/
import Derived.Test.YtdadepdcllachaaGreatDoorK

/-! ZF -/
namespace Go.L
open Go.PM
set_option exponentiation.threshold 20000
set_option linter.unusedVariables false
set_option linter.unusedSimpArgs false

/-- A row of n things. -/
def Vx {β : Type} (n : Nat) (g : Nat → β) : List β := (List.range n).map g
theorem Vx_len {β : Type} (n : Nat) (g : Nat → β) : (Vx n g).length = n := by simp [Vx]
theorem Vx_get {β : Type} {n i : Nat} {g : Nat → β} (h : i < n) (d : β) : (Vx n g).getD i d = g i := by
  unfold Vx; rw [List.getD_eq_getElem?_getD, List.getElem?_map, List.getElem?_range h]; rfl
theorem Vx_of {β : Type} (l : List β) (d : β) : l = Vx l.length (fun i => l.getD i d) := by
  apply List.ext_getElem
  · rw [Vx_len]
  · intro i h1 h2
    have := Vx_get (g := fun i => l.getD i d) h1 d
    rw [List.getD_eq_getElem?_getD, List.getElem?_eq_getElem h2, Option.getD_some] at this
    rw [this, List.getD_eq_getElem?_getD, List.getElem?_eq_getElem h1, Option.getD_some]
theorem Vx_congr {β : Type} {n : Nat} {g h : Nat → β} (e : ∀ i < n, g i = h i) : Vx n g = Vx n h := by
  unfold Vx
  apply List.map_congr_left
  intro i hi
  exact e i (List.mem_range.1 hi)
def Gx {β : Type} (n : Nat) (d : β) (g : Nat → β) (i : Nat) : List β := Vx n (fun j => if j < i then g j else d)
theorem Gx_zero {β : Type} (n : Nat) (d : β) (g : Nat → β) : Gx n d g 0 = List.replicate n d := by
  apply List.ext_getElem
  · unfold Gx; rw [Vx_len, List.length_replicate]
  · intro i h1 h2
    simp [Gx, Vx]
theorem Gx_full {β : Type} (n : Nat) (d : β) (g : Nat → β) : Gx n d g n = Vx n g := Vx_congr fun i hi => by rw [if_pos hi]
theorem Gx_len {β : Type} (n : Nat) (d : β) (g : Nat → β) (i : Nat) : (Gx n d g i).length = n := Vx_len _ _
theorem Gx_set {β : Type} {n i : Nat} (d : β) (g : Nat → β) (h : i < n) : (Gx n d g i).set i (g i) = Gx n d g (i + 1) := by
  apply List.ext_getElem
  · rw [List.length_set, Gx_len, Gx_len]
  · intro j h1 h2
    rw [Gx_len] at h2
    simp only [Gx, Vx, List.getElem_set, List.getElem_map, List.getElem_range]
    by_cases hj : i = j
    · subst hj; simp
    · rw [if_neg hj]
      by_cases h3 : j < i
      · rw [if_pos h3, if_pos (by omega)]
      · rw [if_neg h3, if_neg (by omega)]
/-- A loop that goes up to n. -/
theorem loop_up {R σ : Type} (n : Nat) (st : Nat → σ) (L : Nat → σ → Int → Option R) (res : Option R)
    (step : ∀ k i : Nat, i < n → L (k + 1) (st i) (i : Int) = L k (st (i + 1)) ((i + 1 : Nat) : Int)) (fin : ∀ k, L (k + 1) (st n) (n : Int) = res) (K : Nat) (hK : n < K) : L K (st 0) 0 = res := by
  have h : ∀ r i k, i + r = n → r < k → L k (st i) (i : Int) = res := by
    intro r
    induction r with
    | zero =>
      intro i k h hk
      obtain ⟨k, rfl⟩ := Nat.exists_eq_succ_of_ne_zero (by omega : k ≠ 0)
      obtain rfl : i = n := by omega
      exact fin k
    | succ r ih =>
      intro i k h hk
      obtain ⟨k, rfl⟩ := Nat.exists_eq_succ_of_ne_zero (by omega : k ≠ 0)
      rw [step k i (by omega)]
      exact ih (i + 1) k (by omega) (by omega)
  exact h n 0 K (by omega) hK
/-- A loop that goes up to n, or leaves before. -/
theorem loop_or {R σ : Type} (n : Nat) (st : Nat → σ) (L : Nat → σ → Int → Option R) (bad : Option R → Prop) (Q : Nat → Prop)
    (step : ∀ k i : Nat, n < i + (k + 1) → i < n → (L (k + 1) (st i) (i : Int) = L k (st (i + 1)) ((i + 1 : Nat) : Int) ∧ Q i) ∨ bad (L (k + 1) (st i) (i : Int))) (K : Nat) (hK : n < K) : bad (L K (st 0) 0) ∨ ∃ k, L K (st 0) 0 = L (k + 1) (st n) (n : Int) ∧ ∀ i < n, Q i := by
  have h : ∀ r i k, i + r = n → r < k → bad (L k (st i) (i : Int)) ∨ ∃ k', L k (st i) (i : Int) = L (k' + 1) (st n) (n : Int) ∧ ∀ j, i ≤ j → j < n → Q j := by
    intro r
    induction r with
    | zero =>
      intro i k h hk
      obtain ⟨k, rfl⟩ := Nat.exists_eq_succ_of_ne_zero (by omega : k ≠ 0)
      obtain rfl : i = n := by omega
      exact .inr ⟨k, rfl, fun j h1 h2 => by omega⟩
    | succ r ih =>
      intro i k h hk
      obtain ⟨k, rfl⟩ := Nat.exists_eq_succ_of_ne_zero (by omega : k ≠ 0)
      rcases step k i (by omega) (by omega) with ⟨e, q⟩ | b
      · rcases ih (i + 1) k (by omega) (by omega) with hb | ⟨k', e', h'⟩
        · left; rw [Nat.succ_eq_add_one, e]; exact hb
        · refine .inr ⟨k', by rw [Nat.succ_eq_add_one, e, e'], fun j h1 h2 => ?_⟩
          by_cases hj : j = i
          · subst hj; exact q
          · exact h' j (by omega) h2
      · exact .inl b
  rcases h n 0 K (by omega) hK with h | ⟨k, e, h⟩
  · exact .inl h
  · exact .inr ⟨k, e, fun i hi => h i (by omega) hi⟩
theorem wi1 {i : Nat} (h : i < 1000000) : IntKind.i64.wrap ((i : Int) + 1) = ((i + 1 : Nat) : Int) := by rw [wi64 (by omega) (by omega)]; omega

/-- A box: n spans at one exponent. -/
abbrev Bx (n : Nat) (f : Nat → Int × Int) (e : Int) : List SP := Vx n fun i => Sp (f i).1 (f i).2 e
/-- How big a box's numbers are. -/
def bb (n : Nat) (f : Nat → Int × Int) (k : Nat) : Prop := ∀ i < n, lt2 (f i).1 (f i).2 k
abbrev hulls (f g : Nat → Int × Int) (i : Nat) : Int × Int := (min (f i).1 (g i).1, max (f i).2 (g i).2)
abbrev wide (f : Nat → Int × Int) (d : Nat → Int) (b : Nat) (i : Nat) : Int × Int := (rdn ((f i).1 + -((d i).natAbs : Int)) b, rup ((f i).2 + ((d i).natAbs : Int)) b)
/-- A span that passes the check. -/
def isS (a : SP) : Prop := isY a.1 ∧ isY a.2.1 ∧ S.dyad_Less (a.2.1, a.1, ()) = some (false, ())
/-- The greatest width of the first places. -/
def most (f : Nat → Int × Int) : Nat → Int
  | 0 => 0
  | i + 1 => max (most f i) ((f i).2 - (f i).1)
/-- vec_Inner: one round of loop 0. -/
def vec_Inner_s0 (κ0 : (List (((Bool × (List Int) × Unit) × Int × Unit) × ((Bool × (List Int) × Unit) × Int × Unit) × Unit)) → (List (((Bool × (List Int) × Unit) × Int × Unit) × ((Bool × (List Int) × Unit) × Int × Unit) × Unit)) → Int → Bool → (List Int) → Int → Bool → (List Int) → Int → Bool → (List Int) → Int → Bool → (List Int) → Int → Int → Int → Option ((((Bool × (List Int) × Unit) × Int × Unit) × ((Bool × (List Int) × Unit) × Int × Unit) × Unit) × Int × Unit)) (a : List (((Bool × (List Int) × Unit) × Int × Unit) × ((Bool × (List Int) × Unit) × Int × Unit) × Unit)) (b : List (((Bool × (List Int) × Unit) × Int × Unit) × ((Bool × (List Int) × Unit) × Int × Unit) × Unit)) (bits : Int) (t6_0 : Bool) (t6_1 : List Int) (t6_2 : Int) (t6_3 : Bool) (t6_4 : List Int) (t6_5 : Int) (all_0 : Bool) (all_1 : List Int) (all_2 : Int) (all_3 : Bool) (all_4 : List Int) (all_5 : Int) (t19 : Int) (t20 : Int) : Option ((((Bool × (List Int) × Unit) × Int × Unit) × ((Bool × (List Int) × Unit) × Int × Unit) × Unit) × Int × Unit) :=
  cond (decide (t20 < t19))
   (
   cond (decide (0 ≤ t20))
   (
   cond (decide (t20 < (a.length : Int)))
   (
   let z1 := a.getD t20.toNat (((false, ([], ())), (0, ())), (((false, ([], ())), (0, ())), ()))
   cond (decide (0 ≤ t20))
   (
   cond (decide (t20 < (b.length : Int)))
   (
   let z2 := b.getD t20.toNat (((false, ([], ())), (0, ())), (((false, ([], ())), (0, ())), ()))
   (S.span_Mul ((((z1.1.1.1, z1.1.1.2.1, ()), z1.1.2.1, ()), ((z1.2.1.1.1, z1.2.1.1.2.1, ()), z1.2.1.2.1, ()), ()), (((z2.1.1.1, z2.1.1.2.1, ()), z2.1.2.1, ()), ((z2.2.1.1.1, z2.2.1.1.2.1, ()), z2.2.1.2.1, ()), ()), bits, ())).bind fun z3 =>
   cond (!(decide (z3.2.1 = 0))) (some ((((false, [], ()), 0, ()), ((false, [], ()), 0, ()), ()), z3.2.1, ()))
   (
   (S.span_Add ((((all_0, all_1, ()), all_2, ()), ((all_3, all_4, ()), all_5, ()), ()), (((z3.1.1.1.1, z3.1.1.1.2.1, ()), z3.1.1.2.1, ()), ((z3.1.2.1.1.1, z3.1.2.1.1.2.1, ()), z3.1.2.1.2.1, ()), ()), bits, ())).bind fun z4 =>
   cond (!(decide (z4.2.1 = 0))) (some ((((false, [], ()), 0, ()), ((false, [], ()), 0, ()), ()), z4.2.1, ()))
   (
   κ0 a b bits t6_0 t6_1 t6_2 t6_3 t6_4 t6_5 z4.1.1.1.1 z4.1.1.1.2.1 z4.1.1.2.1 z4.1.2.1.1.1 z4.1.2.1.1.2.1 z4.1.2.1.2.1 t19 (IntKind.i64.wrap (t20 + 1))))) none) none) none) none) (some ((((all_0, all_1, ()), all_2, ()), ((all_3, all_4, ()), all_5, ()), ()), 0, ()))

def vec_Inner_l0 (K : Nat) : Nat → (List (((Bool × (List Int) × Unit) × Int × Unit) × ((Bool × (List Int) × Unit) × Int × Unit) × Unit)) → (List (((Bool × (List Int) × Unit) × Int × Unit) × ((Bool × (List Int) × Unit) × Int × Unit) × Unit)) → Int → Bool → (List Int) → Int → Bool → (List Int) → Int → Bool → (List Int) → Int → Bool → (List Int) → Int → Int → Int → Option ((((Bool × (List Int) × Unit) × Int × Unit) × ((Bool × (List Int) × Unit) × Int × Unit) × Unit) × Int × Unit)
  | 0, _, _, _, _, _, _, _, _, _, _, _, _, _, _, _, _, _ => none
  | n + 1, a, b, bits, t6_0, t6_1, t6_2, t6_3, t6_4, t6_5, all_0, all_1, all_2, all_3, all_4, all_5, t19, t20 => vec_Inner_s0 (vec_Inner_l0 K n) a b bits t6_0 t6_1 t6_2 t6_3 t6_4 t6_5 all_0 all_1 all_2 all_3 all_4 all_5 t19 t20

/-- vec.Inner -/
def vec_Inner_b (I0 : (List (((Bool × (List Int) × Unit) × Int × Unit) × ((Bool × (List Int) × Unit) × Int × Unit) × Unit)) → (List (((Bool × (List Int) × Unit) × Int × Unit) × ((Bool × (List Int) × Unit) × Int × Unit) × Unit)) → Int → Bool → (List Int) → Int → Bool → (List Int) → Int → Bool → (List Int) → Int → Bool → (List Int) → Int → Int → Int → Option ((((Bool × (List Int) × Unit) × Int × Unit) × ((Bool × (List Int) × Unit) × Int × Unit) × Unit) × Int × Unit)) (a : List (((Bool × (List Int) × Unit) × Int × Unit) × ((Bool × (List Int) × Unit) × Int × Unit) × Unit)) (b : List (((Bool × (List Int) × Unit) × Int × Unit) × ((Bool × (List Int) × Unit) × Int × Unit) × Unit)) (bits : Int) : Option ((((Bool × (List Int) × Unit) × Int × Unit) × ((Bool × (List Int) × Unit) × Int × Unit) × Unit) × Int × Unit) :=
  cond (!(decide ((a.length : Int) = (b.length : Int)))) (some ((((false, [], ()), 0, ()), ((false, [], ()), 0, ()), ()), 20, ())) (I0 a b bits false [] 0 false [] 0 false [] 0 false [] 0 (a.length : Int) 0)

def vec_Inner (K : Nat) (a : List (((Bool × (List Int) × Unit) × Int × Unit) × ((Bool × (List Int) × Unit) × Int × Unit) × Unit)) (b : List (((Bool × (List Int) × Unit) × Int × Unit) × ((Bool × (List Int) × Unit) × Int × Unit) × Unit)) (bits : Int) : Option ((((Bool × (List Int) × Unit) × Int × Unit) × ((Bool × (List Int) × Unit) × Int × Unit) × Unit) × Int × Unit) := vec_Inner_b (vec_Inner_l0 K K) a b bits

def S.vec_Inner (x : List SP × List SP × Int × Unit) : Option (SP × Int × Unit) := L.vec_Inner 100 x.1 x.2.1 x.2.2.1
/-- What is together after so many places. -/
def inn (f g : Nat → Int × Int) (b : Nat) : Nat → Int × Int
  | 0 => (0, 0)
  | i + 1 => (rdn ((inn f g b i).1 + rdn (mlo (f i).1 (f i).2 (g i).1 (g i).2) b) b, rup ((inn f g b i).2 + rup (mhi (f i).1 (f i).2 (g i).1 (g i).2) b) b)
theorem lt2_up {l h : Int} {j k : Nat} (hl : lt2 l h j) (hjk : j ≤ k) : lt2 l h k := ⟨nA_up hl.1 hjk, nA_up hl.2 hjk⟩
theorem inn_abs {f g : Nat → Int × Int} {n b j k : Nat} (hf : bb n f j) (hg : bb n g k) : ∀ i ≤ n, lt2 (inn f g b i).1 (inn f g b i).2 (j + k + 1 + 2 * i)
  | 0, _ => ⟨P_pos _, P_pos _⟩
  | i + 1, h => by
    have h1 := inn_abs (b := b) hf hg i (by omega)
    have h2 := mlo_abs (hf i (by omega)) (hg i (by omega))
    have h3 : lt2 (rdn (mlo (f i).1 (f i).2 (g i).1 (g i).2) b) (rup (mhi (f i).1 (f i).2 (g i).1 (g i).2) b) (j + k + 1 + 2 * i) := lt2_up ⟨rdn_abs h2.1, rup_abs h2.2⟩ (by omega)
    exact ⟨rdn_abs (nA_add h1.1 h3.1), rup_abs (nA_add h1.2 h3.2)⟩
theorem vec_Inner_Bx {n : Nat} {f g : Nat → Int × Int} {e e' : Int} {b j k : Nat} (hn : n ≤ 16) (hf : bb n f j) (hg : bb n g k) (hk : j + k ≤ 400) (h0 : -30000 ≤ e) (h1 : e ≤ 10000) (h2 : -30000 ≤ e') (h3 : e' ≤ 10000) (hb : 2 ≤ b) (hb' : b ≤ 4096) : S.vec_Inner (Bx n f e, Bx n g e', (b : Int), ()) = some (Sp (inn f g b n).1 (inn f g b n).2 (e + e'), 0, ()) := by
  simp only [S.vec_Inner, L.vec_Inner, vec_Inner_b, Vx_len, decide_true, Bool.not_true, cond_false]
  have := loop_up n (fun i => Sp (inn f g b i).1 (inn f g b i).2 (e + e')) (fun k s i => vec_Inner_l0 100 k (Bx n f e) (Bx n g e') (b : Int) false [] 0 false [] 0 s.1.1.1 s.1.1.2.1 s.1.2.1 s.2.1.1.1 s.2.1.1.2.1 s.2.1.2.1 (n : Int) i) (some (Sp (inn f g b n).1 (inn f g b n).2 (e + e'), 0, ())) (fun k' i hi => ?_) (fun k => ?_) 100 (by omega)
  · have hz : Sp (inn f g b 0).1 (inn f g b 0).2 (e + e') = sp0 := by simp only [inn, Sp]; rw [Yd_zero]; rfl
    rw [hz] at this
    exact this
  · simp only [vec_Inner_l0, vec_Inner_s0, Vx_len]
    rw [ct (by omega), ct (by omega), ct (by omega), ct (by omega), ct (by omega), Int.toNat_natCast, Vx_get hi, Vx_get hi]
    have e1 := span_Mul_Sp (b := b) (hf i hi) (hg i hi) (by omega) h0 h1 h2 h3 hb hb'
    rw [show S.span_Mul _ = _ from e1, Option.bind_some]
    simp only [decide_true, Bool.not_true, cond_false]
    have m2 := mlo_abs (hf i hi) (hg i hi)
    have m3 : lt2 (rdn (mlo (f i).1 (f i).2 (g i).1 (g i).2) b) (rup (mhi (f i).1 (f i).2 (g i).1 (g i).2) b) (j + k + 1 + 2 * i) := lt2_up ⟨rdn_abs m2.1, rup_abs m2.2⟩ (by omega)
    have e2 := span_Add_Sp (e := e + e') (b := b) (inn_abs (b := b) hf hg i (by omega)) m3 (by omega) (by omega) (by omega) hb hb'
    rw [show S.span_Add _ = _ from e2, Option.bind_some]
    simp only [decide_true, Bool.not_true, cond_false]
    rw [wi1 (by omega)]
    rfl
  · simp only [vec_Inner_l0, vec_Inner_s0]
    rw [cf (by omega)]
end Go.L

/-! ZG -/
namespace Go.L
open Go.PM
set_option exponentiation.threshold 20000
set_option linter.unusedVariables false
set_option linter.unusedSimpArgs false

/-- vec_Near: one round of loop 0. -/
def vec_Near_s0 (κ0 : Int → (List (((Bool × (List Int) × Unit) × Int × Unit) × ((Bool × (List Int) × Unit) × Int × Unit) × Unit)) → (List ((Bool × (List Int) × Unit) × (List Int) × Unit)) → Int → Int → Option ((List (((Bool × (List Int) × Unit) × Int × Unit) × ((Bool × (List Int) × Unit) × Int × Unit) × Unit)) × Int × Unit)) (bits : Int) (out : List (((Bool × (List Int) × Unit) × Int × Unit) × ((Bool × (List Int) × Unit) × Int × Unit) × Unit)) (t14 : List ((Bool × (List Int) × Unit) × (List Int) × Unit)) (t15 : Int) (t16 : Int) : Option ((List (((Bool × (List Int) × Unit) × Int × Unit) × ((Bool × (List Int) × Unit) × Int × Unit) × Unit)) × Int × Unit) :=
  cond (decide (t16 < t15))
   (
   cond (decide (0 ≤ t16))
   (
   cond (decide (t16 < (t14.length : Int)))
   (
   let z2 := t14.getD t16.toNat ((false, ([], ())), ([], ()))
   (S.span_Near (((z2.1.1, z2.1.2.1, ()), z2.2.1, ()), bits, ())).bind fun z3 =>
   cond (!(decide (z3.2.1 = 0))) (some ([], z3.2.1, ()))
   (
   cond (decide (0 ≤ t16))
   (
   cond (decide (t16 < (out.length : Int)))
   (
   κ0 bits (out.set t16.toNat (((z3.1.1.1.1, z3.1.1.1.2.1, ()), z3.1.1.2.1, ()), ((z3.1.2.1.1.1, z3.1.2.1.1.2.1, ()), z3.1.2.1.2.1, ()), ())) t14 t15 (IntKind.i64.wrap (t16 + 1))) none) none)) none) none) (some (out, 0, ()))

def vec_Near_l0 (K : Nat) : Nat → Int → (List (((Bool × (List Int) × Unit) × Int × Unit) × ((Bool × (List Int) × Unit) × Int × Unit) × Unit)) → (List ((Bool × (List Int) × Unit) × (List Int) × Unit)) → Int → Int → Option ((List (((Bool × (List Int) × Unit) × Int × Unit) × ((Bool × (List Int) × Unit) × Int × Unit) × Unit)) × Int × Unit)
  | 0, _, _, _, _, _ => none
  | n + 1, bits, out, t14, t15, t16 => vec_Near_s0 (vec_Near_l0 K n) bits out t14 t15 t16

/-- vec.Near -/
def vec_Near_b (I0 : Int → (List (((Bool × (List Int) × Unit) × Int × Unit) × ((Bool × (List Int) × Unit) × Int × Unit) × Unit)) → (List ((Bool × (List Int) × Unit) × (List Int) × Unit)) → Int → Int → Option ((List (((Bool × (List Int) × Unit) × Int × Unit) × ((Bool × (List Int) × Unit) × Int × Unit) × Unit)) × Int × Unit)) (a : List ((Bool × (List Int) × Unit) × (List Int) × Unit)) (bits : Int) : Option ((List (((Bool × (List Int) × Unit) × Int × Unit) × ((Bool × (List Int) × Unit) × Int × Unit) × Unit)) × Int × Unit) :=
  cond (decide (0 ≤ (a.length : Int)))
   (
   cond (decide ((a.length : Int) * 80 ≤ 140737488351232))
   (
   I0 bits (List.replicate a.length (((false, ([], ())), (0, ())), (((false, ([], ())), (0, ())), ())) : List (((Bool × (List Int) × Unit) × Int × Unit) × ((Bool × (List Int) × Unit) × Int × Unit) × Unit)) a (a.length : Int) 0) none) none

def vec_Near (K : Nat) (a : List ((Bool × (List Int) × Unit) × (List Int) × Unit)) (bits : Int) : Option ((List (((Bool × (List Int) × Unit) × Int × Unit) × ((Bool × (List Int) × Unit) × Int × Unit) × Unit)) × Int × Unit) := vec_Near_b (vec_Near_l0 K K) a bits

def S.vec_Near (x : List RT × Int × Unit) : Option (List SP × Int × Unit) := L.vec_Near 100 x.1 x.2.1
/-- A dyad of the size that is tried. -/
def sz (n B : Nat) (d : DY) : Prop := d.1.2.1.length ≤ n ∧ -(B : Int) ≤ d.2.1 ∧ d.2.1 ≤ B
end Go.L

/-! ZH -/
namespace Go.L
open Go.PM
set_option exponentiation.threshold 20000
set_option linter.unusedVariables false
set_option linter.unusedSimpArgs false

theorem Vx_succ {β : Type} (n : Nat) (g : Nat → β) : Vx n g ++ [g n] = Vx (n + 1) g := by
  unfold Vx; rw [List.range_succ, List.map_append]; rfl
end Go.L
