/-
  boxes: what their functions make of boxes of dyads. the laws of boxes. the laws of boxes: wider, hulls.
  No condition beyond those that each theorem names.
-/
import Derived.Test.YtdgldaahflpndaaDoorK

/-! ZF -/
namespace Go.L
open Go.PM
set_option exponentiation.threshold 20000
set_option linter.unusedVariables false
set_option linter.unusedSimpArgs false

/-- A row of n things. -/
def Vx {β : Type} (n : Nat) (g : Nat → β) : List β := (List.range n).map g
theorem Vx_len {β : Type} (n : Nat) (g : Nat → β) : (Vx n g).length = n := by simp [Vx]
theorem Vx_get {β : Type} {n i : Nat} {g : Nat → β} (h : i < n) (d : β) : (Vx n g).getD i d = g i := by
  unfold Vx; rw [List.getD_eq_getElem?_getD, List.getElem?_map, List.getElem?_range h]; rfl
theorem Vx_of {β : Type} (l : List β) (d : β) : l = Vx l.length (fun i => l.getD i d) := by
  apply List.ext_getElem
  · rw [Vx_len]
  · intro i h1 h2
    have := Vx_get (g := fun i => l.getD i d) h1 d
    rw [List.getD_eq_getElem?_getD, List.getElem?_eq_getElem h2, Option.getD_some] at this
    rw [this, List.getD_eq_getElem?_getD, List.getElem?_eq_getElem h1, Option.getD_some]
theorem Vx_congr {β : Type} {n : Nat} {g h : Nat → β} (e : ∀ i < n, g i = h i) : Vx n g = Vx n h := by
  unfold Vx
  apply List.map_congr_left
  intro i hi
  exact e i (List.mem_range.1 hi)
def Gx {β : Type} (n : Nat) (d : β) (g : Nat → β) (i : Nat) : List β := Vx n (fun j => if j < i then g j else d)
theorem Gx_zero {β : Type} (n : Nat) (d : β) (g : Nat → β) : Gx n d g 0 = List.replicate n d := by
  apply List.ext_getElem
  · unfold Gx; rw [Vx_len, List.length_replicate]
  · intro i h1 h2
    simp [Gx, Vx]
theorem Gx_full {β : Type} (n : Nat) (d : β) (g : Nat → β) : Gx n d g n = Vx n g := Vx_congr fun i hi => by rw [if_pos hi]
theorem Gx_len {β : Type} (n : Nat) (d : β) (g : Nat → β) (i : Nat) : (Gx n d g i).length = n := Vx_len _ _
theorem Gx_set {β : Type} {n i : Nat} (d : β) (g : Nat → β) (h : i < n) : (Gx n d g i).set i (g i) = Gx n d g (i + 1) := by
  apply List.ext_getElem
  · rw [List.length_set, Gx_len, Gx_len]
  · intro j h1 h2
    rw [Gx_len] at h2
    simp only [Gx, Vx, List.getElem_set, List.getElem_map, List.getElem_range]
    by_cases hj : i = j
    · subst hj; simp
    · rw [if_neg hj]
      by_cases h3 : j < i
      · rw [if_pos h3, if_pos (by omega)]
      · rw [if_neg h3, if_neg (by omega)]
/-- A loop that goes up to n. -/
theorem loop_up {R σ : Type} (n : Nat) (st : Nat → σ) (L : Nat → σ → Int → Option R) (res : Option R)
    (step : ∀ k i : Nat, i < n → L (k + 1) (st i) (i : Int) = L k (st (i + 1)) ((i + 1 : Nat) : Int)) (fin : ∀ k, L (k + 1) (st n) (n : Int) = res) (K : Nat) (hK : n < K) : L K (st 0) 0 = res := by
  have h : ∀ r i k, i + r = n → r < k → L k (st i) (i : Int) = res := by
    intro r
    induction r with
    | zero =>
      intro i k h hk
      obtain ⟨k, rfl⟩ := Nat.exists_eq_succ_of_ne_zero (by omega : k ≠ 0)
      obtain rfl : i = n := by omega
      exact fin k
    | succ r ih =>
      intro i k h hk
      obtain ⟨k, rfl⟩ := Nat.exists_eq_succ_of_ne_zero (by omega : k ≠ 0)
      rw [step k i (by omega)]
      exact ih (i + 1) k (by omega) (by omega)
  exact h n 0 K (by omega) hK
/-- A loop that goes up to n, or leaves before. -/
theorem loop_or {R σ : Type} (n : Nat) (st : Nat → σ) (L : Nat → σ → Int → Option R) (bad : Option R → Prop) (Q : Nat → Prop)
    (step : ∀ k i : Nat, n < i + (k + 1) → i < n → (L (k + 1) (st i) (i : Int) = L k (st (i + 1)) ((i + 1 : Nat) : Int) ∧ Q i) ∨ bad (L (k + 1) (st i) (i : Int))) (K : Nat) (hK : n < K) : bad (L K (st 0) 0) ∨ ∃ k, L K (st 0) 0 = L (k + 1) (st n) (n : Int) ∧ ∀ i < n, Q i := by
  have h : ∀ r i k, i + r = n → r < k → bad (L k (st i) (i : Int)) ∨ ∃ k', L k (st i) (i : Int) = L (k' + 1) (st n) (n : Int) ∧ ∀ j, i ≤ j → j < n → Q j := by
    intro r
    induction r with
    | zero =>
      intro i k h hk
      obtain ⟨k, rfl⟩ := Nat.exists_eq_succ_of_ne_zero (by omega : k ≠ 0)
      obtain rfl : i = n := by omega
      exact .inr ⟨k, rfl, fun j h1 h2 => by omega⟩
    | succ r ih =>
      intro i k h hk
      obtain ⟨k, rfl⟩ := Nat.exists_eq_succ_of_ne_zero (by omega : k ≠ 0)
      rcases step k i (by omega) (by omega) with ⟨e, q⟩ | b
      · rcases ih (i + 1) k (by omega) (by omega) with hb | ⟨k', e', h'⟩
        · left; rw [Nat.succ_eq_add_one, e]; exact hb
        · refine .inr ⟨k', by rw [Nat.succ_eq_add_one, e, e'], fun j h1 h2 => ?_⟩
          by_cases hj : j = i
          · subst hj; exact q
          · exact h' j (by omega) h2
      · exact .inl b
  rcases h n 0 K (by omega) hK with h | ⟨k, e, h⟩
  · exact .inl h
  · exact .inr ⟨k, e, fun i hi => h i (by omega) hi⟩
theorem wi1 {i : Nat} (h : i < 1000000) : IntKind.i64.wrap ((i : Int) + 1) = ((i + 1 : Nat) : Int) := by rw [wi64 (by omega) (by omega)]; omega

/-- A box: n spans at one exponent. -/
abbrev Bx (n : Nat) (f : Nat → Int × Int) (e : Int) : List SP := Vx n fun i => Sp (f i).1 (f i).2 e
/-- How big a box's numbers are. -/
def bb (n : Nat) (f : Nat → Int × Int) (k : Nat) : Prop := ∀ i < n, lt2 (f i).1 (f i).2 k
/-- box_Hull: one round of loop 0. -/
def box_Hull_s0 (κ0 : (List (((Bool × (List Int) × Unit) × Int × Unit) × ((Bool × (List Int) × Unit) × Int × Unit) × Unit)) → (List (((Bool × (List Int) × Unit) × Int × Unit) × ((Bool × (List Int) × Unit) × Int × Unit) × Unit)) → (List (((Bool × (List Int) × Unit) × Int × Unit) × ((Bool × (List Int) × Unit) × Int × Unit) × Unit)) → Int → Int → Option ((List (((Bool × (List Int) × Unit) × Int × Unit) × ((Bool × (List Int) × Unit) × Int × Unit) × Unit)) × Int × Unit)) (a : List (((Bool × (List Int) × Unit) × Int × Unit) × ((Bool × (List Int) × Unit) × Int × Unit) × Unit)) (b : List (((Bool × (List Int) × Unit) × Int × Unit) × ((Bool × (List Int) × Unit) × Int × Unit) × Unit)) (out : List (((Bool × (List Int) × Unit) × Int × Unit) × ((Bool × (List Int) × Unit) × Int × Unit) × Unit)) (t17 : Int) (t18 : Int) : Option ((List (((Bool × (List Int) × Unit) × Int × Unit) × ((Bool × (List Int) × Unit) × Int × Unit) × Unit)) × Int × Unit) :=
  cond (decide (t18 < t17))
    (
      cond (decide (0 ≤ t18))
        (
          cond (decide (t18 < (a.length : Int)))
            (
              let z2 := a.getD t18.toNat (((false, ([], ())), (0, ())), (((false, ([], ())), (0, ())), ()))
              cond (decide (0 ≤ t18))
                (
                  cond (decide (t18 < (b.length : Int)))
                    (
                      let z3 := b.getD t18.toNat (((false, ([], ())), (0, ())), (((false, ([], ())), (0, ())), ()))
                      (S.span_Hull ((((z2.1.1.1, z2.1.1.2.1, ()), z2.1.2.1, ()), ((z2.2.1.1.1, z2.2.1.1.2.1, ()), z2.2.1.2.1, ()), ()), (((z3.1.1.1, z3.1.1.2.1, ()), z3.1.2.1, ()), ((z3.2.1.1.1, z3.2.1.1.2.1, ()), z3.2.1.2.1, ()), ()), ())).bind fun z4 =>
                      cond (decide (0 ≤ t18))
                        (
                          cond (decide (t18 < (out.length : Int)))
                            (
                              κ0 a b (out.set t18.toNat (((z4.1.1.1.1, z4.1.1.1.2.1, ()), z4.1.1.2.1, ()), ((z4.1.2.1.1.1, z4.1.2.1.1.2.1, ()), z4.1.2.1.2.1, ()), ())) t17 (IntKind.i64.wrap (t18 + 1))) none) none) none) none) none) none) (some (out, 0, ()))

def box_Hull_l0 (K : Nat) : Nat → (List (((Bool × (List Int) × Unit) × Int × Unit) × ((Bool × (List Int) × Unit) × Int × Unit) × Unit)) → (List (((Bool × (List Int) × Unit) × Int × Unit) × ((Bool × (List Int) × Unit) × Int × Unit) × Unit)) → (List (((Bool × (List Int) × Unit) × Int × Unit) × ((Bool × (List Int) × Unit) × Int × Unit) × Unit)) → Int → Int → Option ((List (((Bool × (List Int) × Unit) × Int × Unit) × ((Bool × (List Int) × Unit) × Int × Unit) × Unit)) × Int × Unit)
  | 0, _, _, _, _, _ => none
  | n + 1, a, b, out, t17, t18 => box_Hull_s0 (box_Hull_l0 K n) a b out t17 t18

/-- box.Hull -/
def box_Hull_b (I0 : (List (((Bool × (List Int) × Unit) × Int × Unit) × ((Bool × (List Int) × Unit) × Int × Unit) × Unit)) → (List (((Bool × (List Int) × Unit) × Int × Unit) × ((Bool × (List Int) × Unit) × Int × Unit) × Unit)) → (List (((Bool × (List Int) × Unit) × Int × Unit) × ((Bool × (List Int) × Unit) × Int × Unit) × Unit)) → Int → Int → Option ((List (((Bool × (List Int) × Unit) × Int × Unit) × ((Bool × (List Int) × Unit) × Int × Unit) × Unit)) × Int × Unit)) (a : List (((Bool × (List Int) × Unit) × Int × Unit) × ((Bool × (List Int) × Unit) × Int × Unit) × Unit)) (b : List (((Bool × (List Int) × Unit) × Int × Unit) × ((Bool × (List Int) × Unit) × Int × Unit) × Unit)) : Option ((List (((Bool × (List Int) × Unit) × Int × Unit) × ((Bool × (List Int) × Unit) × Int × Unit) × Unit)) × Int × Unit) :=
  cond (!(decide ((a.length : Int) = (b.length : Int)))) (some ([], 20, ()))
    (
      cond (decide (0 ≤ (a.length : Int)))
        (
          cond (decide ((a.length : Int) * 80 ≤ 140737488351232))
            (
              I0 a b (List.replicate a.length (((false, ([], ())), (0, ())), (((false, ([], ())), (0, ())), ())) : List (((Bool × (List Int) × Unit) × Int × Unit) × ((Bool × (List Int) × Unit) × Int × Unit) × Unit)) (a.length : Int) 0) none) none)

def box_Hull (K : Nat) (a : List (((Bool × (List Int) × Unit) × Int × Unit) × ((Bool × (List Int) × Unit) × Int × Unit) × Unit)) (b : List (((Bool × (List Int) × Unit) × Int × Unit) × ((Bool × (List Int) × Unit) × Int × Unit) × Unit)) : Option ((List (((Bool × (List Int) × Unit) × Int × Unit) × ((Bool × (List Int) × Unit) × Int × Unit) × Unit)) × Int × Unit) := box_Hull_b (box_Hull_l0 K K) a b

def S.box_Hull (x : List SP × List SP × Unit) : Option (List SP × Int × Unit) := L.box_Hull 100 x.1 x.2.1
abbrev hulls (f g : Nat → Int × Int) (i : Nat) : Int × Int := (min (f i).1 (g i).1, max (f i).2 (g i).2)
/-- box_Wider: one round of loop 0. -/
def box_Wider_s0 (κ0 : (List (((Bool × (List Int) × Unit) × Int × Unit) × ((Bool × (List Int) × Unit) × Int × Unit) × Unit)) → (List ((Bool × (List Int) × Unit) × Int × Unit)) → Int → (List (((Bool × (List Int) × Unit) × Int × Unit) × ((Bool × (List Int) × Unit) × Int × Unit) × Unit)) → Int → Int → Option ((List (((Bool × (List Int) × Unit) × Int × Unit) × ((Bool × (List Int) × Unit) × Int × Unit) × Unit)) × Int × Unit)) (a : List (((Bool × (List Int) × Unit) × Int × Unit) × ((Bool × (List Int) × Unit) × Int × Unit) × Unit)) (by_ : List ((Bool × (List Int) × Unit) × Int × Unit)) (bits : Int) (out : List (((Bool × (List Int) × Unit) × Int × Unit) × ((Bool × (List Int) × Unit) × Int × Unit) × Unit)) (t21 : Int) (t22 : Int) : Option ((List (((Bool × (List Int) × Unit) × Int × Unit) × ((Bool × (List Int) × Unit) × Int × Unit) × Unit)) × Int × Unit) :=
  cond (decide (t22 < t21))
    (
      cond (decide (0 ≤ t22))
        (
          cond (decide (t22 < (a.length : Int)))
            (
              let z2 := a.getD t22.toNat (((false, ([], ())), (0, ())), (((false, ([], ())), (0, ())), ()))
              cond (decide (0 ≤ t22))
                (
                  cond (decide (t22 < (by_.length : Int)))
                    (
                      let z3 := by_.getD t22.toNat ((false, ([], ())), (0, ()))
                      (S.span_Even (((z3.1.1, z3.1.2.1, ()), z3.2.1, ()), ())).bind fun z4 =>
                      (S.span_Add ((((z2.1.1.1, z2.1.1.2.1, ()), z2.1.2.1, ()), ((z2.2.1.1.1, z2.2.1.1.2.1, ()), z2.2.1.2.1, ()), ()), (((z4.1.1.1.1, z4.1.1.1.2.1, ()), z4.1.1.2.1, ()), ((z4.1.2.1.1.1, z4.1.2.1.1.2.1, ()), z4.1.2.1.2.1, ()), ()), bits, ())).bind fun z5 =>
                      cond (!(decide (z5.2.1 = 0))) (some ([], z5.2.1, ()))
                        (
                          cond (decide (0 ≤ t22))
                            (
                              cond (decide (t22 < (out.length : Int)))
                                (
                                  κ0 a by_ bits (out.set t22.toNat (((z5.1.1.1.1, z5.1.1.1.2.1, ()), z5.1.1.2.1, ()), ((z5.1.2.1.1.1, z5.1.2.1.1.2.1, ()), z5.1.2.1.2.1, ()), ())) t21 (IntKind.i64.wrap (t22 + 1))) none) none)) none) none) none) none) (some (out, 0, ()))

def box_Wider_l0 (K : Nat) : Nat → (List (((Bool × (List Int) × Unit) × Int × Unit) × ((Bool × (List Int) × Unit) × Int × Unit) × Unit)) → (List ((Bool × (List Int) × Unit) × Int × Unit)) → Int → (List (((Bool × (List Int) × Unit) × Int × Unit) × ((Bool × (List Int) × Unit) × Int × Unit) × Unit)) → Int → Int → Option ((List (((Bool × (List Int) × Unit) × Int × Unit) × ((Bool × (List Int) × Unit) × Int × Unit) × Unit)) × Int × Unit)
  | 0, _, _, _, _, _, _ => none
  | n + 1, a, by_, bits, out, t21, t22 => box_Wider_s0 (box_Wider_l0 K n) a by_ bits out t21 t22

/-- box.Wider -/
def box_Wider_b (I0 : (List (((Bool × (List Int) × Unit) × Int × Unit) × ((Bool × (List Int) × Unit) × Int × Unit) × Unit)) → (List ((Bool × (List Int) × Unit) × Int × Unit)) → Int → (List (((Bool × (List Int) × Unit) × Int × Unit) × ((Bool × (List Int) × Unit) × Int × Unit) × Unit)) → Int → Int → Option ((List (((Bool × (List Int) × Unit) × Int × Unit) × ((Bool × (List Int) × Unit) × Int × Unit) × Unit)) × Int × Unit)) (a : List (((Bool × (List Int) × Unit) × Int × Unit) × ((Bool × (List Int) × Unit) × Int × Unit) × Unit)) (by_ : List ((Bool × (List Int) × Unit) × Int × Unit)) (bits : Int) : Option ((List (((Bool × (List Int) × Unit) × Int × Unit) × ((Bool × (List Int) × Unit) × Int × Unit) × Unit)) × Int × Unit) :=
  cond (!(decide ((a.length : Int) = (by_.length : Int)))) (some ([], 20, ()))
    (
      cond (decide (0 ≤ (a.length : Int)))
        (
          cond (decide ((a.length : Int) * 80 ≤ 140737488351232))
            (
              I0 a by_ bits (List.replicate a.length (((false, ([], ())), (0, ())), (((false, ([], ())), (0, ())), ())) : List (((Bool × (List Int) × Unit) × Int × Unit) × ((Bool × (List Int) × Unit) × Int × Unit) × Unit)) (a.length : Int) 0) none) none)

def box_Wider (K : Nat) (a : List (((Bool × (List Int) × Unit) × Int × Unit) × ((Bool × (List Int) × Unit) × Int × Unit) × Unit)) (by_ : List ((Bool × (List Int) × Unit) × Int × Unit)) (bits : Int) : Option ((List (((Bool × (List Int) × Unit) × Int × Unit) × ((Bool × (List Int) × Unit) × Int × Unit) × Unit)) × Int × Unit) := box_Wider_b (box_Wider_l0 K K) a by_ bits

def S.box_Wider (x : List SP × List DY × Int × Unit) : Option (List SP × Int × Unit) := L.box_Wider 100 x.1 x.2.1 x.2.2.1
abbrev wide (f : Nat → Int × Int) (d : Nat → Int) (b : Nat) (i : Nat) : Int × Int := (rdn ((f i).1 + -((d i).natAbs : Int)) b, rup ((f i).2 + ((d i).natAbs : Int)) b)
/-- box_Holds: one round of loop 0. -/
def box_Holds_s0 (κ0 : (List (((Bool × (List Int) × Unit) × Int × Unit) × ((Bool × (List Int) × Unit) × Int × Unit) × Unit)) → (List (((Bool × (List Int) × Unit) × Int × Unit) × ((Bool × (List Int) × Unit) × Int × Unit) × Unit)) → Int → Int → Option (Bool × Unit)) (a : List (((Bool × (List Int) × Unit) × Int × Unit) × ((Bool × (List Int) × Unit) × Int × Unit) × Unit)) (b : List (((Bool × (List Int) × Unit) × Int × Unit) × ((Bool × (List Int) × Unit) × Int × Unit) × Unit)) (t12 : Int) (t13 : Int) : Option (Bool × Unit) :=
  cond (decide (t13 < t12))
    (
      cond (decide (0 ≤ t13))
        (
          cond (decide (t13 < (a.length : Int)))
            (
              let z1 := a.getD t13.toNat (((false, ([], ())), (0, ())), (((false, ([], ())), (0, ())), ()))
              cond (decide (0 ≤ t13))
                (
                  cond (decide (t13 < (b.length : Int)))
                    (
                      let z2 := b.getD t13.toNat (((false, ([], ())), (0, ())), (((false, ([], ())), (0, ())), ()))
                      (S.span_Holds ((((z1.1.1.1, z1.1.1.2.1, ()), z1.1.2.1, ()), ((z1.2.1.1.1, z1.2.1.1.2.1, ()), z1.2.1.2.1, ()), ()), (((z2.1.1.1, z2.1.1.2.1, ()), z2.1.2.1, ()), ((z2.2.1.1.1, z2.2.1.1.2.1, ()), z2.2.1.2.1, ()), ()), ())).bind fun z3 =>
                      cond (!z3.1) (some (false, ())) (κ0 a b t12 (IntKind.i64.wrap (t13 + 1)))) none) none) none) none) (some (true, ()))

def box_Holds_l0 (K : Nat) : Nat → (List (((Bool × (List Int) × Unit) × Int × Unit) × ((Bool × (List Int) × Unit) × Int × Unit) × Unit)) → (List (((Bool × (List Int) × Unit) × Int × Unit) × ((Bool × (List Int) × Unit) × Int × Unit) × Unit)) → Int → Int → Option (Bool × Unit)
  | 0, _, _, _, _ => none
  | n + 1, a, b, t12, t13 => box_Holds_s0 (box_Holds_l0 K n) a b t12 t13

/-- box.Holds -/
def box_Holds_b (I0 : (List (((Bool × (List Int) × Unit) × Int × Unit) × ((Bool × (List Int) × Unit) × Int × Unit) × Unit)) → (List (((Bool × (List Int) × Unit) × Int × Unit) × ((Bool × (List Int) × Unit) × Int × Unit) × Unit)) → Int → Int → Option (Bool × Unit)) (a : List (((Bool × (List Int) × Unit) × Int × Unit) × ((Bool × (List Int) × Unit) × Int × Unit) × Unit)) (b : List (((Bool × (List Int) × Unit) × Int × Unit) × ((Bool × (List Int) × Unit) × Int × Unit) × Unit)) : Option (Bool × Unit) :=
  cond (!(decide ((a.length : Int) = (b.length : Int)))) (some (false, ())) (I0 a b (a.length : Int) 0)

def box_Holds (K : Nat) (a : List (((Bool × (List Int) × Unit) × Int × Unit) × ((Bool × (List Int) × Unit) × Int × Unit) × Unit)) (b : List (((Bool × (List Int) × Unit) × Int × Unit) × ((Bool × (List Int) × Unit) × Int × Unit) × Unit)) : Option (Bool × Unit) := box_Holds_b (box_Holds_l0 K K) a b

def S.box_Holds (x : List SP × List SP × Unit) : Option (Bool × Unit) := L.box_Holds 100 x.1 x.2.1
/-- box_Check: one round of loop 0. -/
def box_Check_s0 (κ0 : (List (((Bool × (List Int) × Unit) × Int × Unit) × ((Bool × (List Int) × Unit) × Int × Unit) × Unit)) → Int → Int → Option (Int × Unit)) (t20 : List (((Bool × (List Int) × Unit) × Int × Unit) × ((Bool × (List Int) × Unit) × Int × Unit) × Unit)) (t21 : Int) (t22 : Int) : Option (Int × Unit) :=
  cond (decide (t22 < t21))
    (
      cond (decide (0 ≤ t22))
        (
          cond (decide (t22 < (t20.length : Int)))
            (
              let z1 := t20.getD t22.toNat (((false, ([], ())), (0, ())), (((false, ([], ())), (0, ())), ()))
              (S.span_Check ((((z1.1.1.1, z1.1.1.2.1, ()), z1.1.2.1, ()), ((z1.2.1.1.1, z1.2.1.1.2.1, ()), z1.2.1.2.1, ()), ()), ())).bind fun z2 =>
              cond (!(decide (z2.1 = 0))) (some (z2.1, ())) (κ0 t20 t21 (IntKind.i64.wrap (t22 + 1)))) none) none) (some (0, ()))

def box_Check_l0 (K : Nat) : Nat → (List (((Bool × (List Int) × Unit) × Int × Unit) × ((Bool × (List Int) × Unit) × Int × Unit) × Unit)) → Int → Int → Option (Int × Unit)
  | 0, _, _, _ => none
  | n + 1, t20, t21, t22 => box_Check_s0 (box_Check_l0 K n) t20 t21 t22

/-- box.Check -/
def box_Check_b (I0 : (List (((Bool × (List Int) × Unit) × Int × Unit) × ((Bool × (List Int) × Unit) × Int × Unit) × Unit)) → Int → Int → Option (Int × Unit)) (b : List (((Bool × (List Int) × Unit) × Int × Unit) × ((Bool × (List Int) × Unit) × Int × Unit) × Unit)) (n : Int) : Option (Int × Unit) :=
  cond (decide (n < 0)) (some (20, ()))
    (
      cond (decide (16 < n)) (some (20, ()))
        (
          cond (!(decide ((b.length : Int) = n))) (some (20, ())) (I0 b (b.length : Int) 0)))

def box_Check (K : Nat) (b : List (((Bool × (List Int) × Unit) × Int × Unit) × ((Bool × (List Int) × Unit) × Int × Unit) × Unit)) (n : Int) : Option (Int × Unit) := box_Check_b (box_Check_l0 K K) b n

def S.box_Check (x : List SP × Int × Unit) : Option (Int × Unit) := L.box_Check 100 x.1 x.2.1
/-- A span that passes the check. -/
def isS (a : SP) : Prop := isY a.1 ∧ isY a.2.1 ∧ S.dyad_Less (a.2.1, a.1, ()) = some (false, ())
theorem box_Check_full {l : List SP} (hn : l.length ≤ 16) (h : ∀ s ∈ l, inS s) : (∃ c, c ≠ 0 ∧ S.box_Check (l, (l.length : Int), ()) = some (c, ())) ∨ (S.box_Check (l, (l.length : Int), ()) = some (0, ()) ∧ ∀ i < l.length, isS (l.getD i sp0)) := by
  simp only [S.box_Check, L.box_Check, box_Check_b, decide_true, Bool.not_true, cond_false]
  rw [cf (by omega), cf (by omega)]
  rcases loop_or l.length (fun _ => ()) (fun k s i => box_Check_l0 100 k l (l.length : Int) i) (fun r => ∃ c, c ≠ 0 ∧ r = some (c, ())) (fun i => isS (l.getD i sp0)) (fun k i hk hi => by
      simp only [box_Check_l0, box_Check_s0]
      rw [ct (by omega), ct (by omega), ct (by omega), Int.toNat_natCast]
      have hm : l.getD i sp0 ∈ l := by rw [List.getD_eq_getElem?_getD, List.getElem?_eq_getElem hi]; exact List.getElem_mem hi
      rcases span_Check_full (h _ hm) with ⟨c, c0, e⟩ | ⟨e, q⟩
      · right
        rw [show S.span_Check _ = _ from e, Option.bind_some]
        simp only
        rw [decide_eq_false c0]
        exact ⟨c, c0, rfl⟩
      · left
        rw [show S.span_Check _ = _ from e, Option.bind_some, wi1 (by omega)]
        exact ⟨rfl, q⟩) 100 (by omega) with h | ⟨k, e, h⟩
  · exact .inl h
  · right
    refine ⟨?_, h⟩
    rw [e]
    simp only [box_Check_l0, box_Check_s0]
    rw [cf (by omega)]
/-- box_Widest: one round of loop 0. -/
def box_Widest_s0 (κ0 : Bool → (List Int) → Int → Bool → (List Int) → Int → (List (((Bool × (List Int) × Unit) × Int × Unit) × ((Bool × (List Int) × Unit) × Int × Unit) × Unit)) → Int → Int → Option (((Bool × (List Int) × Unit) × Int × Unit) × Int × Unit)) (t2_0 : Bool) (t2_1 : List Int) (t2_2 : Int) (most_0 : Bool) (most_1 : List Int) (most_2 : Int) (t9 : List (((Bool × (List Int) × Unit) × Int × Unit) × ((Bool × (List Int) × Unit) × Int × Unit) × Unit)) (t10 : Int) (t11 : Int) : Option (((Bool × (List Int) × Unit) × Int × Unit) × Int × Unit) :=
  cond (decide (t11 < t10))
    (
      cond (decide (0 ≤ t11))
        (
          cond (decide (t11 < (t9.length : Int)))
            (
              let z1 := t9.getD t11.toNat (((false, ([], ())), (0, ())), (((false, ([], ())), (0, ())), ()))
              (S.span_Width ((((z1.1.1.1, z1.1.1.2.1, ()), z1.1.2.1, ()), ((z1.2.1.1.1, z1.2.1.1.2.1, ()), z1.2.1.2.1, ()), ()), ())).bind fun z2 =>
              cond (!(decide (z2.2.1 = 0))) (some (((false, [], ()), 0, ()), z2.2.1, ()))
                (
                  (S.dyad_Max (((most_0, most_1, ()), most_2, ()), ((z2.1.1.1, z2.1.1.2.1, ()), z2.1.2.1, ()), ())).bind fun z3 =>
                  κ0 t2_0 t2_1 t2_2 z3.1.1.1 z3.1.1.2.1 z3.1.2.1 t9 t10 (IntKind.i64.wrap (t11 + 1)))) none) none) (some (((most_0, most_1, ()), most_2, ()), 0, ()))

def box_Widest_l0 (K : Nat) : Nat → Bool → (List Int) → Int → Bool → (List Int) → Int → (List (((Bool × (List Int) × Unit) × Int × Unit) × ((Bool × (List Int) × Unit) × Int × Unit) × Unit)) → Int → Int → Option (((Bool × (List Int) × Unit) × Int × Unit) × Int × Unit)
  | 0, _, _, _, _, _, _, _, _, _ => none
  | n + 1, t2_0, t2_1, t2_2, most_0, most_1, most_2, t9, t10, t11 => box_Widest_s0 (box_Widest_l0 K n) t2_0 t2_1 t2_2 most_0 most_1 most_2 t9 t10 t11

/-- box.Widest -/
def box_Widest_b (I0 : Bool → (List Int) → Int → Bool → (List Int) → Int → (List (((Bool × (List Int) × Unit) × Int × Unit) × ((Bool × (List Int) × Unit) × Int × Unit) × Unit)) → Int → Int → Option (((Bool × (List Int) × Unit) × Int × Unit) × Int × Unit)) (a : List (((Bool × (List Int) × Unit) × Int × Unit) × ((Bool × (List Int) × Unit) × Int × Unit) × Unit)) : Option (((Bool × (List Int) × Unit) × Int × Unit) × Int × Unit) :=
  I0 false [] 0 false [] 0 a (a.length : Int) 0

def box_Widest (K : Nat) (a : List (((Bool × (List Int) × Unit) × Int × Unit) × ((Bool × (List Int) × Unit) × Int × Unit) × Unit)) : Option (((Bool × (List Int) × Unit) × Int × Unit) × Int × Unit) := box_Widest_b (box_Widest_l0 K K) a

def S.box_Widest (x : List SP × Unit) : Option (DY × Int × Unit) := L.box_Widest 100 x.1
/-- The greatest width of the first places. -/
def most (f : Nat → Int × Int) : Nat → Int
  | 0 => 0
  | i + 1 => max (most f i) ((f i).2 - (f i).1)
/-- vec_Inner: one round of loop 0. -/
def vec_Inner_s0 (κ0 : (List (((Bool × (List Int) × Unit) × Int × Unit) × ((Bool × (List Int) × Unit) × Int × Unit) × Unit)) → (List (((Bool × (List Int) × Unit) × Int × Unit) × ((Bool × (List Int) × Unit) × Int × Unit) × Unit)) → Int → Bool → (List Int) → Int → Bool → (List Int) → Int → Bool → (List Int) → Int → Bool → (List Int) → Int → Int → Int → Option ((((Bool × (List Int) × Unit) × Int × Unit) × ((Bool × (List Int) × Unit) × Int × Unit) × Unit) × Int × Unit)) (a : List (((Bool × (List Int) × Unit) × Int × Unit) × ((Bool × (List Int) × Unit) × Int × Unit) × Unit)) (b : List (((Bool × (List Int) × Unit) × Int × Unit) × ((Bool × (List Int) × Unit) × Int × Unit) × Unit)) (bits : Int) (t6_0 : Bool) (t6_1 : List Int) (t6_2 : Int) (t6_3 : Bool) (t6_4 : List Int) (t6_5 : Int) (all_0 : Bool) (all_1 : List Int) (all_2 : Int) (all_3 : Bool) (all_4 : List Int) (all_5 : Int) (t19 : Int) (t20 : Int) : Option ((((Bool × (List Int) × Unit) × Int × Unit) × ((Bool × (List Int) × Unit) × Int × Unit) × Unit) × Int × Unit) :=
  cond (decide (t20 < t19))
    (
      cond (decide (0 ≤ t20))
        (
          cond (decide (t20 < (a.length : Int)))
            (
              let z1 := a.getD t20.toNat (((false, ([], ())), (0, ())), (((false, ([], ())), (0, ())), ()))
              cond (decide (0 ≤ t20))
                (
                  cond (decide (t20 < (b.length : Int)))
                    (
                      let z2 := b.getD t20.toNat (((false, ([], ())), (0, ())), (((false, ([], ())), (0, ())), ()))
                      (S.span_Mul ((((z1.1.1.1, z1.1.1.2.1, ()), z1.1.2.1, ()), ((z1.2.1.1.1, z1.2.1.1.2.1, ()), z1.2.1.2.1, ()), ()), (((z2.1.1.1, z2.1.1.2.1, ()), z2.1.2.1, ()), ((z2.2.1.1.1, z2.2.1.1.2.1, ()), z2.2.1.2.1, ()), ()), bits, ())).bind fun z3 =>
                      cond (!(decide (z3.2.1 = 0))) (some ((((false, [], ()), 0, ()), ((false, [], ()), 0, ()), ()), z3.2.1, ()))
                        (
                          (S.span_Add ((((all_0, all_1, ()), all_2, ()), ((all_3, all_4, ()), all_5, ()), ()), (((z3.1.1.1.1, z3.1.1.1.2.1, ()), z3.1.1.2.1, ()), ((z3.1.2.1.1.1, z3.1.2.1.1.2.1, ()), z3.1.2.1.2.1, ()), ()), bits, ())).bind fun z4 =>
                          cond (!(decide (z4.2.1 = 0))) (some ((((false, [], ()), 0, ()), ((false, [], ()), 0, ()), ()), z4.2.1, ()))
                            (
                              κ0 a b bits t6_0 t6_1 t6_2 t6_3 t6_4 t6_5 z4.1.1.1.1 z4.1.1.1.2.1 z4.1.1.2.1 z4.1.2.1.1.1 z4.1.2.1.1.2.1 z4.1.2.1.2.1 t19 (IntKind.i64.wrap (t20 + 1))))) none) none) none) none) (some ((((all_0, all_1, ()), all_2, ()), ((all_3, all_4, ()), all_5, ()), ()), 0, ()))

def vec_Inner_l0 (K : Nat) : Nat → (List (((Bool × (List Int) × Unit) × Int × Unit) × ((Bool × (List Int) × Unit) × Int × Unit) × Unit)) → (List (((Bool × (List Int) × Unit) × Int × Unit) × ((Bool × (List Int) × Unit) × Int × Unit) × Unit)) → Int → Bool → (List Int) → Int → Bool → (List Int) → Int → Bool → (List Int) → Int → Bool → (List Int) → Int → Int → Int → Option ((((Bool × (List Int) × Unit) × Int × Unit) × ((Bool × (List Int) × Unit) × Int × Unit) × Unit) × Int × Unit)
  | 0, _, _, _, _, _, _, _, _, _, _, _, _, _, _, _, _, _ => none
  | n + 1, a, b, bits, t6_0, t6_1, t6_2, t6_3, t6_4, t6_5, all_0, all_1, all_2, all_3, all_4, all_5, t19, t20 => vec_Inner_s0 (vec_Inner_l0 K n) a b bits t6_0 t6_1 t6_2 t6_3 t6_4 t6_5 all_0 all_1 all_2 all_3 all_4 all_5 t19 t20

/-- vec.Inner -/
def vec_Inner_b (I0 : (List (((Bool × (List Int) × Unit) × Int × Unit) × ((Bool × (List Int) × Unit) × Int × Unit) × Unit)) → (List (((Bool × (List Int) × Unit) × Int × Unit) × ((Bool × (List Int) × Unit) × Int × Unit) × Unit)) → Int → Bool → (List Int) → Int → Bool → (List Int) → Int → Bool → (List Int) → Int → Bool → (List Int) → Int → Int → Int → Option ((((Bool × (List Int) × Unit) × Int × Unit) × ((Bool × (List Int) × Unit) × Int × Unit) × Unit) × Int × Unit)) (a : List (((Bool × (List Int) × Unit) × Int × Unit) × ((Bool × (List Int) × Unit) × Int × Unit) × Unit)) (b : List (((Bool × (List Int) × Unit) × Int × Unit) × ((Bool × (List Int) × Unit) × Int × Unit) × Unit)) (bits : Int) : Option ((((Bool × (List Int) × Unit) × Int × Unit) × ((Bool × (List Int) × Unit) × Int × Unit) × Unit) × Int × Unit) :=
  cond (!(decide ((a.length : Int) = (b.length : Int)))) (some ((((false, [], ()), 0, ()), ((false, [], ()), 0, ()), ()), 20, ())) (I0 a b bits false [] 0 false [] 0 false [] 0 false [] 0 (a.length : Int) 0)

def vec_Inner (K : Nat) (a : List (((Bool × (List Int) × Unit) × Int × Unit) × ((Bool × (List Int) × Unit) × Int × Unit) × Unit)) (b : List (((Bool × (List Int) × Unit) × Int × Unit) × ((Bool × (List Int) × Unit) × Int × Unit) × Unit)) (bits : Int) : Option ((((Bool × (List Int) × Unit) × Int × Unit) × ((Bool × (List Int) × Unit) × Int × Unit) × Unit) × Int × Unit) := vec_Inner_b (vec_Inner_l0 K K) a b bits

def S.vec_Inner (x : List SP × List SP × Int × Unit) : Option (SP × Int × Unit) := L.vec_Inner 100 x.1 x.2.1 x.2.2.1
/-- What is together after so many places. -/
def inn (f g : Nat → Int × Int) (b : Nat) : Nat → Int × Int
  | 0 => (0, 0)
  | i + 1 => (rdn ((inn f g b i).1 + rdn (mlo (f i).1 (f i).2 (g i).1 (g i).2) b) b, rup ((inn f g b i).2 + rup (mhi (f i).1 (f i).2 (g i).1 (g i).2) b) b)
theorem lt2_up {l h : Int} {j k : Nat} (hl : lt2 l h j) (hjk : j ≤ k) : lt2 l h k := ⟨nA_up hl.1 hjk, nA_up hl.2 hjk⟩
theorem inn_abs {f g : Nat → Int × Int} {n b j k : Nat} (hf : bb n f j) (hg : bb n g k) : ∀ i ≤ n, lt2 (inn f g b i).1 (inn f g b i).2 (j + k + 1 + 2 * i)
  | 0, _ => ⟨P_pos _, P_pos _⟩
  | i + 1, h => by
    have h1 := inn_abs (b := b) hf hg i (by omega)
    have h2 := mlo_abs (hf i (by omega)) (hg i (by omega))
    have h3 : lt2 (rdn (mlo (f i).1 (f i).2 (g i).1 (g i).2) b) (rup (mhi (f i).1 (f i).2 (g i).1 (g i).2) b) (j + k + 1 + 2 * i) := lt2_up ⟨rdn_abs h2.1, rup_abs h2.2⟩ (by omega)
    exact ⟨rdn_abs (nA_add h1.1 h3.1), rup_abs (nA_add h1.2 h3.2)⟩
theorem vec_Inner_Bx {n : Nat} {f g : Nat → Int × Int} {e e' : Int} {b j k : Nat} (hn : n ≤ 16) (hf : bb n f j) (hg : bb n g k) (hk : j + k ≤ 400) (h0 : -30000 ≤ e) (h1 : e ≤ 10000) (h2 : -30000 ≤ e') (h3 : e' ≤ 10000) (hb : 2 ≤ b) (hb' : b ≤ 4096) : S.vec_Inner (Bx n f e, Bx n g e', (b : Int), ()) = some (Sp (inn f g b n).1 (inn f g b n).2 (e + e'), 0, ()) := by
  simp only [S.vec_Inner, L.vec_Inner, vec_Inner_b, Vx_len, decide_true, Bool.not_true, cond_false]
  have := loop_up n (fun i => Sp (inn f g b i).1 (inn f g b i).2 (e + e')) (fun k s i => vec_Inner_l0 100 k (Bx n f e) (Bx n g e') (b : Int) false [] 0 false [] 0 s.1.1.1 s.1.1.2.1 s.1.2.1 s.2.1.1.1 s.2.1.1.2.1 s.2.1.2.1 (n : Int) i) (some (Sp (inn f g b n).1 (inn f g b n).2 (e + e'), 0, ())) (fun k' i hi => ?_) (fun k => ?_) 100 (by omega)
  · have hz : Sp (inn f g b 0).1 (inn f g b 0).2 (e + e') = sp0 := by simp only [inn, Sp]; rw [Yd_zero]; rfl
    rw [hz] at this
    exact this
  · simp only [vec_Inner_l0, vec_Inner_s0, Vx_len]
    rw [ct (by omega), ct (by omega), ct (by omega), ct (by omega), ct (by omega), Int.toNat_natCast, Vx_get hi, Vx_get hi]
    have e1 := span_Mul_Sp (b := b) (hf i hi) (hg i hi) (by omega) h0 h1 h2 h3 hb hb'
    rw [show S.span_Mul _ = _ from e1, Option.bind_some]
    simp only [decide_true, Bool.not_true, cond_false]
    have m2 := mlo_abs (hf i hi) (hg i hi)
    have m3 : lt2 (rdn (mlo (f i).1 (f i).2 (g i).1 (g i).2) b) (rup (mhi (f i).1 (f i).2 (g i).1 (g i).2) b) (j + k + 1 + 2 * i) := lt2_up ⟨rdn_abs m2.1, rup_abs m2.2⟩ (by omega)
    have e2 := span_Add_Sp (e := e + e') (b := b) (inn_abs (b := b) hf hg i (by omega)) m3 (by omega) (by omega) (by omega) hb hb'
    rw [show S.span_Add _ = _ from e2, Option.bind_some]
    simp only [decide_true, Bool.not_true, cond_false]
    rw [wi1 (by omega)]
    rfl
  · simp only [vec_Inner_l0, vec_Inner_s0]
    rw [cf (by omega)]
/-- box.Support -/
def box_Support (a : List (((Bool × (List Int) × Unit) × Int × Unit) × ((Bool × (List Int) × Unit) × Int × Unit) × Unit)) (dir : List (((Bool × (List Int) × Unit) × Int × Unit) × ((Bool × (List Int) × Unit) × Int × Unit) × Unit)) (bits : Int) : Option (((Bool × (List Int) × Unit) × Int × Unit) × Int × Unit) :=
  (S.vec_Inner (a, dir, bits, ())).bind fun z1 =>
  some (((z1.1.2.1.1.1, z1.1.2.1.1.2.1, ()), z1.1.2.1.2.1, ()), z1.2.1, ())

def S.box_Support (x : List SP × List SP × Int × Unit) : Option (DY × Int × Unit) := L.box_Support x.1 x.2.1 x.2.2.1
theorem box_Support_Bx {n : Nat} {f g : Nat → Int × Int} {e e' : Int} {b j k : Nat} (hn : n ≤ 16) (hf : bb n f j) (hg : bb n g k) (hk : j + k ≤ 400) (h0 : -30000 ≤ e) (h1 : e ≤ 10000) (h2 : -30000 ≤ e') (h3 : e' ≤ 10000) (hb : 2 ≤ b) (hb' : b ≤ 4096) : S.box_Support (Bx n f e, Bx n g e', (b : Int), ()) = some (Yd (inn f g b n).2 (e + e'), 0, ()) := by
  have e0 : ∀ (a c : List SP) (b : Int), S.box_Support (a, c, b, ()) = (S.vec_Inner (a, c, b, ())).bind fun z1 => some (z1.1.2.1, z1.2.1, ()) := fun _ _ _ => rfl
  rw [e0, vec_Inner_Bx hn hf hg hk h0 h1 h2 h3 hb hb', Option.bind_some]
/-- vec_Holds: one round of loop 0. -/
def vec_Holds_s0 (κ0 : (List (((Bool × (List Int) × Unit) × Int × Unit) × ((Bool × (List Int) × Unit) × Int × Unit) × Unit)) → (List ((Bool × (List Int) × Unit) × (List Int) × Unit)) → Int → Int → Option (Bool × Int × Unit)) (a : List (((Bool × (List Int) × Unit) × Int × Unit) × ((Bool × (List Int) × Unit) × Int × Unit) × Unit)) (x : List ((Bool × (List Int) × Unit) × (List Int) × Unit)) (t15 : Int) (t16 : Int) : Option (Bool × Int × Unit) :=
  cond (decide (t16 < t15))
    (
      cond (decide (0 ≤ t16))
        (
          cond (decide (t16 < (a.length : Int)))
            (
              let z1 := a.getD t16.toNat (((false, ([], ())), (0, ())), (((false, ([], ())), (0, ())), ()))
              cond (decide (0 ≤ t16))
                (
                  cond (decide (t16 < (x.length : Int)))
                    (
                      let z2 := x.getD t16.toNat ((false, ([], ())), ([], ()))
                      (S.span_HasRatio ((((z1.1.1.1, z1.1.1.2.1, ()), z1.1.2.1, ()), ((z1.2.1.1.1, z1.2.1.1.2.1, ()), z1.2.1.2.1, ()), ()), ((z2.1.1, z2.1.2.1, ()), z2.2.1, ()), ())).bind fun z3 =>
                      cond (!(decide (z3.2.1 = 0))) (some (false, z3.2.1, ()))
                        (
                          cond (!z3.1) (some (false, z3.2.1, ())) (κ0 a x t15 (IntKind.i64.wrap (t16 + 1))))) none) none) none) none) (some (true, 0, ()))

def vec_Holds_l0 (K : Nat) : Nat → (List (((Bool × (List Int) × Unit) × Int × Unit) × ((Bool × (List Int) × Unit) × Int × Unit) × Unit)) → (List ((Bool × (List Int) × Unit) × (List Int) × Unit)) → Int → Int → Option (Bool × Int × Unit)
  | 0, _, _, _, _ => none
  | n + 1, a, x, t15, t16 => vec_Holds_s0 (vec_Holds_l0 K n) a x t15 t16

/-- vec.Holds -/
def vec_Holds_b (I0 : (List (((Bool × (List Int) × Unit) × Int × Unit) × ((Bool × (List Int) × Unit) × Int × Unit) × Unit)) → (List ((Bool × (List Int) × Unit) × (List Int) × Unit)) → Int → Int → Option (Bool × Int × Unit)) (a : List (((Bool × (List Int) × Unit) × Int × Unit) × ((Bool × (List Int) × Unit) × Int × Unit) × Unit)) (x : List ((Bool × (List Int) × Unit) × (List Int) × Unit)) : Option (Bool × Int × Unit) :=
  cond (!(decide ((a.length : Int) = (x.length : Int)))) (some (false, 20, ())) (I0 a x (a.length : Int) 0)

def vec_Holds (K : Nat) (a : List (((Bool × (List Int) × Unit) × Int × Unit) × ((Bool × (List Int) × Unit) × Int × Unit) × Unit)) (x : List ((Bool × (List Int) × Unit) × (List Int) × Unit)) : Option (Bool × Int × Unit) := vec_Holds_b (vec_Holds_l0 K K) a x

def S.vec_Holds (x : List SP × List RT × Unit) : Option (Bool × Int × Unit) := L.vec_Holds 100 x.1 x.2.1
/-- box.Has -/
def box_Has (a : List (((Bool × (List Int) × Unit) × Int × Unit) × ((Bool × (List Int) × Unit) × Int × Unit) × Unit)) (x : List ((Bool × (List Int) × Unit) × (List Int) × Unit)) : Option (Bool × Int × Unit) :=
  (S.vec_Holds (a, x, ())).bind fun z1 =>
  some (z1.1, z1.2.1, ())

def S.box_Has (x : List SP × List RT × Unit) : Option (Bool × Int × Unit) := L.box_Has x.1 x.2.1
end Go.L

/-! ZG -/
namespace Go.L
open Go.PM
set_option exponentiation.threshold 20000
set_option linter.unusedVariables false
set_option linter.unusedSimpArgs false

/-- vec_Near: one round of loop 0. -/
def vec_Near_s0 (κ0 : Int → (List (((Bool × (List Int) × Unit) × Int × Unit) × ((Bool × (List Int) × Unit) × Int × Unit) × Unit)) → (List ((Bool × (List Int) × Unit) × (List Int) × Unit)) → Int → Int → Option ((List (((Bool × (List Int) × Unit) × Int × Unit) × ((Bool × (List Int) × Unit) × Int × Unit) × Unit)) × Int × Unit)) (bits : Int) (out : List (((Bool × (List Int) × Unit) × Int × Unit) × ((Bool × (List Int) × Unit) × Int × Unit) × Unit)) (t14 : List ((Bool × (List Int) × Unit) × (List Int) × Unit)) (t15 : Int) (t16 : Int) : Option ((List (((Bool × (List Int) × Unit) × Int × Unit) × ((Bool × (List Int) × Unit) × Int × Unit) × Unit)) × Int × Unit) :=
  cond (decide (t16 < t15))
    (
      cond (decide (0 ≤ t16))
        (
          cond (decide (t16 < (t14.length : Int)))
            (
              let z2 := t14.getD t16.toNat ((false, ([], ())), ([], ()))
              (S.span_Near (((z2.1.1, z2.1.2.1, ()), z2.2.1, ()), bits, ())).bind fun z3 =>
              cond (!(decide (z3.2.1 = 0))) (some ([], z3.2.1, ()))
                (
                  cond (decide (0 ≤ t16))
                    (
                      cond (decide (t16 < (out.length : Int)))
                        (
                          κ0 bits (out.set t16.toNat (((z3.1.1.1.1, z3.1.1.1.2.1, ()), z3.1.1.2.1, ()), ((z3.1.2.1.1.1, z3.1.2.1.1.2.1, ()), z3.1.2.1.2.1, ()), ())) t14 t15 (IntKind.i64.wrap (t16 + 1))) none) none)) none) none) (some (out, 0, ()))

def vec_Near_l0 (K : Nat) : Nat → Int → (List (((Bool × (List Int) × Unit) × Int × Unit) × ((Bool × (List Int) × Unit) × Int × Unit) × Unit)) → (List ((Bool × (List Int) × Unit) × (List Int) × Unit)) → Int → Int → Option ((List (((Bool × (List Int) × Unit) × Int × Unit) × ((Bool × (List Int) × Unit) × Int × Unit) × Unit)) × Int × Unit)
  | 0, _, _, _, _, _ => none
  | n + 1, bits, out, t14, t15, t16 => vec_Near_s0 (vec_Near_l0 K n) bits out t14 t15 t16

/-- vec.Near -/
def vec_Near_b (I0 : Int → (List (((Bool × (List Int) × Unit) × Int × Unit) × ((Bool × (List Int) × Unit) × Int × Unit) × Unit)) → (List ((Bool × (List Int) × Unit) × (List Int) × Unit)) → Int → Int → Option ((List (((Bool × (List Int) × Unit) × Int × Unit) × ((Bool × (List Int) × Unit) × Int × Unit) × Unit)) × Int × Unit)) (a : List ((Bool × (List Int) × Unit) × (List Int) × Unit)) (bits : Int) : Option ((List (((Bool × (List Int) × Unit) × Int × Unit) × ((Bool × (List Int) × Unit) × Int × Unit) × Unit)) × Int × Unit) :=
  cond (decide (0 ≤ (a.length : Int)))
    (
      cond (decide ((a.length : Int) * 80 ≤ 140737488351232))
        (
          I0 bits (List.replicate a.length (((false, ([], ())), (0, ())), (((false, ([], ())), (0, ())), ())) : List (((Bool × (List Int) × Unit) × Int × Unit) × ((Bool × (List Int) × Unit) × Int × Unit) × Unit)) a (a.length : Int) 0) none) none

def vec_Near (K : Nat) (a : List ((Bool × (List Int) × Unit) × (List Int) × Unit)) (bits : Int) : Option ((List (((Bool × (List Int) × Unit) × Int × Unit) × ((Bool × (List Int) × Unit) × Int × Unit) × Unit)) × Int × Unit) := vec_Near_b (vec_Near_l0 K K) a bits

def S.vec_Near (x : List RT × Int × Unit) : Option (List SP × Int × Unit) := L.vec_Near 100 x.1 x.2.1
/-- box.Of -/
def box_Of (x : List ((Bool × (List Int) × Unit) × (List Int) × Unit)) (bits : Int) : Option ((List (((Bool × (List Int) × Unit) × Int × Unit) × ((Bool × (List Int) × Unit) × Int × Unit) × Unit)) × Int × Unit) :=
  (S.vec_Near (x, bits, ())).bind fun z1 =>
  some (z1.1, z1.2.1, ())

def S.box_Of (x : List RT × Int × Unit) : Option (List SP × Int × Unit) := L.box_Of x.1 x.2.1
/-- girdlelaw15.holds -/
def w15_holds  : Option (Bool × Unit) :=
  (S.ratio_Of (1, 1, ())).bind fun z1 =>
  (S.ratio_Zero (())).bind fun z2 =>
  (S.box_Of ([((z1.1.1.1, z1.1.1.2.1, ()), z1.1.2.1, ()), ((z2.1.1.1, z2.1.1.2.1, ()), z2.1.2.1, ())], 20, ())).bind fun z3 =>
  (S.ratio_Of (3, 1, ())).bind fun z4 =>
  (S.ratio_Of ((-1 : Int), 1, ())).bind fun z5 =>
  (S.box_Of ([((z4.1.1.1, z4.1.1.2.1, ()), z4.1.2.1, ()), ((z5.1.1.1, z5.1.1.2.1, ()), z5.1.2.1, ())], 20, ())).bind fun z6 =>
  (S.box_Hull (z3.1, z6.1, ())).bind fun z7 =>
  (S.dyad_Of (1, 0, ())).bind fun z8 =>
  (S.box_Wider (z7.1, [((z8.1.1.1, z8.1.1.2.1, ()), z8.1.2.1, ()), ((false, [], ()), 0, ())], 20, ())).bind fun z9 =>
  (S.dyad_Of (1, 0, ())).bind fun z10 =>
  (S.span_Point (((z10.1.1.1, z10.1.1.2.1, ()), z10.1.2.1, ()), ())).bind fun z11 =>
  (S.dyad_Of ((-1 : Int), 0, ())).bind fun z12 =>
  (S.span_Point (((z12.1.1.1, z12.1.1.2.1, ()), z12.1.2.1, ()), ())).bind fun z13 =>
  (S.box_Support (z7.1, [(((z11.1.1.1.1, z11.1.1.1.2.1, ()), z11.1.1.2.1, ()), ((z11.1.2.1.1.1, z11.1.2.1.1.2.1, ()), z11.1.2.1.2.1, ()), ()), (((z13.1.1.1.1, z13.1.1.1.2.1, ()), z13.1.1.2.1, ()), ((z13.1.2.1.1.1, z13.1.2.1.1.2.1, ()), z13.1.2.1.2.1, ()), ())], 20, ())).bind fun z14 =>
  (S.box_Widest (z9.1, ())).bind fun z15 =>
  (S.ratio_Of (2, 1, ())).bind fun z16 =>
  (S.ratio_Of ((-1 : Int), 2, ())).bind fun z17 =>
  (S.box_Has (z7.1, [((z16.1.1.1, z16.1.1.2.1, ()), z16.1.2.1, ()), ((z17.1.1.1, z17.1.1.2.1, ()), z17.1.2.1, ())], ())).bind fun z18 =>
  (S.box_Hull (z3.1, [], ())).bind fun z19 =>
  cond (decide ((IntKind.i64.wrap ((IntKind.i64.wrap ((IntKind.i64.wrap ((IntKind.i64.wrap ((IntKind.i64.wrap ((IntKind.i64.wrap (z3.2.1 + z6.2.1)) + z7.2.1)) + z9.2.1)) + z14.2.1)) + z15.2.1)) + z18.2.1)) = 0))
    (
      cond (decide (z19.2.1 = 20))
        (
          cond (decide ((z7.1.length : Int) = 2))
            (
              cond (z18.1)
                (
                  (S.box_Holds (z7.1, z3.1, ())).bind fun z26 =>
                  cond (z26.1)
                    (
                      (S.box_Holds (z9.1, z7.1, ())).bind fun z27 =>
                      cond (z27.1)
                        (
                          (S.box_Holds (z3.1, z6.1, ())).bind fun z28 =>
                          cond (!z28.1)
                            (
                              (S.dyad_Of (4, 0, ())).bind fun z29 =>
                              (S.dyad_Compare (((z14.1.1.1, z14.1.1.2.1, ()), z14.1.2.1, ()), ((z29.1.1.1, z29.1.1.2.1, ()), z29.1.2.1, ()), ())).bind fun z30 =>
                              cond (decide (z30.1 = 0))
                                (
                                  (S.dyad_Of (4, 0, ())).bind fun z31 =>
                                  (S.dyad_Compare (((z15.1.1.1, z15.1.1.2.1, ()), z15.1.2.1, ()), ((z31.1.1.1, z31.1.1.2.1, ()), z31.1.2.1, ()), ())).bind fun z32 =>
                                  cond (decide (z32.1 = 0))
                                    (
                                      (S.box_Check (z7.1, 2, ())).bind fun z33 =>
                                      cond (decide (z33.1 = 0))
                                        (
                                          (S.box_Check (z7.1, 3, ())).bind fun z34 =>
                                          some (decide (z34.1 = 20), ())) (some (false, ()))) (some (false, ()))) (some (false, ()))) (some (false, ()))) (some (false, ()))) (some (false, ()))) (some (false, ()))) (some (false, ()))) (some (false, ()))) (some (false, ()))

def S.w15_holds (x : Unit) : Option (Bool × Unit) := L.w15_holds
theorem w15_holds_true : S.w15_holds () = some (true, ()) := by
  show L.w15_holds = _
  decide +kernel
/-- w15_fit: one round of loop 2. -/
def w15_fit_s2 (κ0 : (List (List (((Bool × (List Int) × Unit) × Int × Unit) × ((Bool × (List Int) × Unit) × Int × Unit) × Unit))) → (List (List (((Bool × (List Int) × Unit) × Int × Unit) × ((Bool × (List Int) × Unit) × Int × Unit) × Unit))) → Int → Int → Option (Bool × Unit)) (κ1 : (List (List (((Bool × (List Int) × Unit) × Int × Unit) × ((Bool × (List Int) × Unit) × Int × Unit) × Unit))) → (List (List (((Bool × (List Int) × Unit) × Int × Unit) × ((Bool × (List Int) × Unit) × Int × Unit) × Unit))) → Int → Int → (List (((Bool × (List Int) × Unit) × Int × Unit) × ((Bool × (List Int) × Unit) × Int × Unit) × Unit)) → Int → Int → Option (Bool × Unit)) (κ2 : (List (List (((Bool × (List Int) × Unit) × Int × Unit) × ((Bool × (List Int) × Unit) × Int × Unit) × Unit))) → (List (List (((Bool × (List Int) × Unit) × Int × Unit) × ((Bool × (List Int) × Unit) × Int × Unit) × Unit))) → Int → Int → (List (((Bool × (List Int) × Unit) × Int × Unit) × ((Bool × (List Int) × Unit) × Int × Unit) × Unit)) → Int → Int → (List ((Bool × (List Int) × Unit) × Int × Unit)) → Int → Int → Option (Bool × Unit)) (list : List (List (((Bool × (List Int) × Unit) × Int × Unit) × ((Bool × (List Int) × Unit) × Int × Unit) × Unit))) (t9 : List (List (((Bool × (List Int) × Unit) × Int × Unit) × ((Bool × (List Int) × Unit) × Int × Unit) × Unit))) (t10 : Int) (t11 : Int) (t34 : List (((Bool × (List Int) × Unit) × Int × Unit) × ((Bool × (List Int) × Unit) × Int × Unit) × Unit)) (t35 : Int) (t36 : Int) (t44 : List ((Bool × (List Int) × Unit) × Int × Unit)) (t45 : Int) (t46 : Int) : Option (Bool × Unit) :=
  cond (decide (t46 < t45))
    (
      cond (decide (0 ≤ t46))
        (
          cond (decide (t46 < (t44.length : Int)))
            (
              let z5 := t44.getD t46.toNat ((false, ([], ())), (0, ()))
              cond (decide (5 < (z5.1.2.1.length : Int))) (some (false, ()))
                (
                  cond (decide (100 < z5.2.1)) (some (false, ()))
                    (
                      cond (decide (z5.2.1 < (-100 : Int))) (some (false, ())) (κ2 list t9 t10 t11 t34 t35 t36 t44 t45 (IntKind.i64.wrap (t46 + 1)))))) none) none) (κ1 list t9 t10 t11 t34 t35 (IntKind.i64.wrap (t36 + 1)))

def w15_fit_l2 (K : Nat) (κ0 : (List (List (((Bool × (List Int) × Unit) × Int × Unit) × ((Bool × (List Int) × Unit) × Int × Unit) × Unit))) → (List (List (((Bool × (List Int) × Unit) × Int × Unit) × ((Bool × (List Int) × Unit) × Int × Unit) × Unit))) → Int → Int → Option (Bool × Unit)) (κ1 : (List (List (((Bool × (List Int) × Unit) × Int × Unit) × ((Bool × (List Int) × Unit) × Int × Unit) × Unit))) → (List (List (((Bool × (List Int) × Unit) × Int × Unit) × ((Bool × (List Int) × Unit) × Int × Unit) × Unit))) → Int → Int → (List (((Bool × (List Int) × Unit) × Int × Unit) × ((Bool × (List Int) × Unit) × Int × Unit) × Unit)) → Int → Int → Option (Bool × Unit)) : Nat → (List (List (((Bool × (List Int) × Unit) × Int × Unit) × ((Bool × (List Int) × Unit) × Int × Unit) × Unit))) → (List (List (((Bool × (List Int) × Unit) × Int × Unit) × ((Bool × (List Int) × Unit) × Int × Unit) × Unit))) → Int → Int → (List (((Bool × (List Int) × Unit) × Int × Unit) × ((Bool × (List Int) × Unit) × Int × Unit) × Unit)) → Int → Int → (List ((Bool × (List Int) × Unit) × Int × Unit)) → Int → Int → Option (Bool × Unit)
  | 0, _, _, _, _, _, _, _, _, _, _ => none
  | n + 1, list, t9, t10, t11, t34, t35, t36, t44, t45, t46 => w15_fit_s2 κ0 κ1 (w15_fit_l2 K κ0 κ1 n) list t9 t10 t11 t34 t35 t36 t44 t45 t46

/-- w15_fit: one round of loop 1. -/
def w15_fit_s1 (I2 : (List (List (((Bool × (List Int) × Unit) × Int × Unit) × ((Bool × (List Int) × Unit) × Int × Unit) × Unit))) → (List (List (((Bool × (List Int) × Unit) × Int × Unit) × ((Bool × (List Int) × Unit) × Int × Unit) × Unit))) → Int → Int → (List (((Bool × (List Int) × Unit) × Int × Unit) × ((Bool × (List Int) × Unit) × Int × Unit) × Unit)) → Int → Int → (List ((Bool × (List Int) × Unit) × Int × Unit)) → Int → Int → Option (Bool × Unit)) (κ0 : (List (List (((Bool × (List Int) × Unit) × Int × Unit) × ((Bool × (List Int) × Unit) × Int × Unit) × Unit))) → (List (List (((Bool × (List Int) × Unit) × Int × Unit) × ((Bool × (List Int) × Unit) × Int × Unit) × Unit))) → Int → Int → Option (Bool × Unit)) (κ1 : (List (List (((Bool × (List Int) × Unit) × Int × Unit) × ((Bool × (List Int) × Unit) × Int × Unit) × Unit))) → (List (List (((Bool × (List Int) × Unit) × Int × Unit) × ((Bool × (List Int) × Unit) × Int × Unit) × Unit))) → Int → Int → (List (((Bool × (List Int) × Unit) × Int × Unit) × ((Bool × (List Int) × Unit) × Int × Unit) × Unit)) → Int → Int → Option (Bool × Unit)) (list : List (List (((Bool × (List Int) × Unit) × Int × Unit) × ((Bool × (List Int) × Unit) × Int × Unit) × Unit))) (t9 : List (List (((Bool × (List Int) × Unit) × Int × Unit) × ((Bool × (List Int) × Unit) × Int × Unit) × Unit))) (t10 : Int) (t11 : Int) (t34 : List (((Bool × (List Int) × Unit) × Int × Unit) × ((Bool × (List Int) × Unit) × Int × Unit) × Unit)) (t35 : Int) (t36 : Int) : Option (Bool × Unit) :=
  cond (decide (t36 < t35))
    (
      cond (decide (0 ≤ t36))
        (
          cond (decide (t36 < (t34.length : Int)))
            (
              let z4 := t34.getD t36.toNat (((false, ([], ())), (0, ())), (((false, ([], ())), (0, ())), ()))
              I2 list t9 t10 t11 t34 t35 t36 ([((z4.1.1.1, z4.1.1.2.1, ()), z4.1.2.1, ()), ((z4.2.1.1.1, z4.2.1.1.2.1, ()), z4.2.1.2.1, ())]) (([((z4.1.1.1, z4.1.1.2.1, ()), z4.1.2.1, ()), ((z4.2.1.1.1, z4.2.1.1.2.1, ()), z4.2.1.2.1, ())]).length : Int) 0) none) none) (κ0 list t9 t10 (IntKind.i64.wrap (t11 + 1)))

def w15_fit_l1 (K : Nat) (κ0 : (List (List (((Bool × (List Int) × Unit) × Int × Unit) × ((Bool × (List Int) × Unit) × Int × Unit) × Unit))) → (List (List (((Bool × (List Int) × Unit) × Int × Unit) × ((Bool × (List Int) × Unit) × Int × Unit) × Unit))) → Int → Int → Option (Bool × Unit)) : Nat → (List (List (((Bool × (List Int) × Unit) × Int × Unit) × ((Bool × (List Int) × Unit) × Int × Unit) × Unit))) → (List (List (((Bool × (List Int) × Unit) × Int × Unit) × ((Bool × (List Int) × Unit) × Int × Unit) × Unit))) → Int → Int → (List (((Bool × (List Int) × Unit) × Int × Unit) × ((Bool × (List Int) × Unit) × Int × Unit) × Unit)) → Int → Int → Option (Bool × Unit)
  | 0, _, _, _, _, _, _, _ => none
  | n + 1, list, t9, t10, t11, t34, t35, t36 => w15_fit_s1 (w15_fit_l2 K κ0 (w15_fit_l1 K κ0 n) K) κ0 (w15_fit_l1 K κ0 n) list t9 t10 t11 t34 t35 t36

/-- w15_fit: one round of loop 0. -/
def w15_fit_s0 (I1 : (List (List (((Bool × (List Int) × Unit) × Int × Unit) × ((Bool × (List Int) × Unit) × Int × Unit) × Unit))) → (List (List (((Bool × (List Int) × Unit) × Int × Unit) × ((Bool × (List Int) × Unit) × Int × Unit) × Unit))) → Int → Int → (List (((Bool × (List Int) × Unit) × Int × Unit) × ((Bool × (List Int) × Unit) × Int × Unit) × Unit)) → Int → Int → Option (Bool × Unit)) (κ0 : (List (List (((Bool × (List Int) × Unit) × Int × Unit) × ((Bool × (List Int) × Unit) × Int × Unit) × Unit))) → (List (List (((Bool × (List Int) × Unit) × Int × Unit) × ((Bool × (List Int) × Unit) × Int × Unit) × Unit))) → Int → Int → Option (Bool × Unit)) (list : List (List (((Bool × (List Int) × Unit) × Int × Unit) × ((Bool × (List Int) × Unit) × Int × Unit) × Unit))) (t9 : List (List (((Bool × (List Int) × Unit) × Int × Unit) × ((Bool × (List Int) × Unit) × Int × Unit) × Unit))) (t10 : Int) (t11 : Int) : Option (Bool × Unit) :=
  cond (decide (t11 < t10))
    (
      cond (decide (0 ≤ t11))
        (
          cond (decide (t11 < (t9.length : Int)))
            (
              let z1 := t9.getD t11.toNat []
              cond (decide (6 < (z1.length : Int))) (some (false, ()))
                (
                  cond (decide (0 < (list.length : Int)))
                    (
                      cond (!(decide ((z1.length : Int) = ((list.getD 0 []).length : Int)))) (some (false, ()))
                        (
                          (S.box_Check (z1, (z1.length : Int), ())).bind fun z3 =>
                          cond (!(decide (z3.1 = 0))) (some (false, ())) (I1 list t9 t10 t11 z1 (z1.length : Int) 0))) none)) none) none) (some (true, ()))

def w15_fit_l0 (K : Nat) : Nat → (List (List (((Bool × (List Int) × Unit) × Int × Unit) × ((Bool × (List Int) × Unit) × Int × Unit) × Unit))) → (List (List (((Bool × (List Int) × Unit) × Int × Unit) × ((Bool × (List Int) × Unit) × Int × Unit) × Unit))) → Int → Int → Option (Bool × Unit)
  | 0, _, _, _, _ => none
  | n + 1, list, t9, t10, t11 => w15_fit_s0 (w15_fit_l1 K (w15_fit_l0 K n) K) (w15_fit_l0 K n) list t9 t10 t11

/-- girdlelaw15.fit -/
def w15_fit_b (I0 : (List (List (((Bool × (List Int) × Unit) × Int × Unit) × ((Bool × (List Int) × Unit) × Int × Unit) × Unit))) → (List (List (((Bool × (List Int) × Unit) × Int × Unit) × ((Bool × (List Int) × Unit) × Int × Unit) × Unit))) → Int → Int → Option (Bool × Unit)) (list : List (List (((Bool × (List Int) × Unit) × Int × Unit) × ((Bool × (List Int) × Unit) × Int × Unit) × Unit))) : Option (Bool × Unit) :=
  I0 list list (list.length : Int) 0

def w15_fit (K : Nat) (list : List (List (((Bool × (List Int) × Unit) × Int × Unit) × ((Bool × (List Int) × Unit) × Int × Unit) × Unit))) : Option (Bool × Unit) := w15_fit_b (w15_fit_l0 K K) list

def S.w15_fit (x : List (List SP) × Unit) : Option (Bool × Unit) := L.w15_fit 100 x.1
/-- A dyad of the size that is tried. -/
def sz (n B : Nat) (d : DY) : Prop := d.1.2.1.length ≤ n ∧ -(B : Int) ≤ d.2.1 ∧ d.2.1 ≤ B
theorem fit15_two {K k : Nat} {κ0 : List (List SP) → List (List SP) → Int → Int → Option (Bool × Unit)} {κ1 : List (List SP) → List (List SP) → Int → Int → List SP → Int → Int → Option (Bool × Unit)} {a b : List (List SP)} {p q : Int} {l : List SP} {r s : Int} (x y : DY) :
    w15_fit_l2 K κ0 κ1 (k + 3) a b p q l r s [x, y] (([x, y] : List DY).length : Int) 0 = some (false, ()) ∨ (w15_fit_l2 K κ0 κ1 (k + 3) a b p q l r s [x, y] (([x, y] : List DY).length : Int) 0 = κ1 a b p q l r (IntKind.i64.wrap (s + 1)) ∧ sz 5 100 x ∧ sz 5 100 y) := by
  rcases loop_or 2 (fun _ => ()) (fun k' _ i => w15_fit_l2 K κ0 κ1 k' a b p q l r s [x, y] (([x, y] : List DY).length : Int) i) (fun r => r = some (false, ())) (fun i => sz 5 100 (([x, y] : List DY).getD i dy0)) (fun k' i hk hi => by
    simp only [w15_fit_l2, w15_fit_s2]
    have hl : (([x, y] : List DY).length : Int) = 2 := rfl
    rw [ct (by omega), ct (by omega), ct (by omega), Int.toNat_natCast]
    generalize hd : ([x, y] : List DY).getD i ((false, ([], ())), (0, ())) = d
    by_cases h1 : 5 < d.1.2.1.length
    · right; rw [ct (by omega)]
    rw [cf (by omega)]
    by_cases h2 : 100 < d.2.1
    · right; rw [ct h2]
    rw [cf h2]
    by_cases h3 : d.2.1 < -100
    · right; rw [ct h3]
    · left; rw [cf h3, wi1 (by omega)]; exact ⟨rfl, by unfold sz; omega⟩) (k + 3) (by omega) with h | ⟨k', e, h⟩
  · exact .inl h
  · right
    refine ⟨?_, h 0 (by decide), h 1 (by decide)⟩
    have e' : w15_fit_l2 K κ0 κ1 (k + 3) a b p q l r s [x, y] (([x, y] : List DY).length : Int) 0 = _ := e
    rw [e']
    simp only [w15_fit_l2, w15_fit_s2]
    have hl : (([x, y] : List DY).length : Int) = 2 := rfl
    rw [cf (by omega)]
theorem fit15_spans {k : Nat} {κ0 : List (List SP) → List (List SP) → Int → Int → Option (Bool × Unit)} {a b : List (List SP)} {p q : Int} {l : List SP} (hl : l.length ≤ 16) :
    w15_fit_l1 100 κ0 100 a b p q l (l.length : Int) 0 = some (false, ()) ∨ (w15_fit_l1 100 κ0 100 a b p q l (l.length : Int) 0 = κ0 a b p (IntKind.i64.wrap (q + 1)) ∧ ∀ i < l.length, sz 5 100 (l.getD i sp0).1 ∧ sz 5 100 (l.getD i sp0).2.1) := by
  rcases loop_or l.length (fun _ => ()) (fun k' _ i => w15_fit_l1 100 κ0 k' a b p q l (l.length : Int) i) (fun r => r = some (false, ())) (fun i => sz 5 100 (l.getD i sp0).1 ∧ sz 5 100 (l.getD i sp0).2.1) (fun k' i hk hi => by
    simp only [w15_fit_l1, w15_fit_s1]
    rw [ct (by omega), ct (by omega), ct (by omega), Int.toNat_natCast]
    rcases fit15_two (K := 100) (k := 97) (κ0 := κ0) (κ1 := w15_fit_l1 100 κ0 k') (a := a) (b := b) (p := p) (q := q) (l := l) (r := (l.length : Int)) (s := (i : Int)) (l.getD i sp0).1 (l.getD i sp0).2.1 with h | ⟨h, h2⟩
    · right; exact h
    · left; refine ⟨?_, h2⟩
      rw [← wi1 (by omega)]; exact h) 100 (by omega) with h | ⟨k', e, h⟩
  · exact .inl h
  · right
    refine ⟨?_, h⟩
    have e' : w15_fit_l1 100 κ0 100 a b p q l (l.length : Int) 0 = _ := e
    rw [e']
    simp only [w15_fit_l1, w15_fit_s1]
    rw [cf (by omega)]
/-- What a box is that fits. -/
def fits15 (n : Nat) (l : List SP) : Prop := ∃ f, l = Bx n f (-((100 : Nat) : Int)) ∧ bb n f 12 ∧ ∀ i < n, (f i).1 ≤ (f i).2
theorem fits15_of {l : List SP} (h1 : ∀ i < l.length, isS (l.getD i sp0)) (h2 : ∀ i < l.length, sz 5 100 (l.getD i sp0).1 ∧ sz 5 100 (l.getD i sp0).2.1) : fits15 l.length l := by
  have h : ∀ i, ∃ p : Int × Int, i < l.length → l.getD i sp0 = Sp p.1 p.2 (-((100 : Nat) : Int)) ∧ lt2 p.1 p.2 12 ∧ p.1 ≤ p.2 := by
    intro i
    by_cases hi : i < l.length
    · obtain ⟨y1, y2, hl⟩ := h1 i hi
      obtain ⟨⟨a1, a2, a3⟩, b1, b2, b3⟩ := h2 i hi
      obtain ⟨p, q, e, hk, hpq⟩ := isS_Sp (B := 100) (n := 5) (k := 12) y1 y2 hl a1 b1 a2 a3 b2 b3 (by decide) (by decide) (by decide)
      exact ⟨(p, q), fun _ => ⟨e, hk, hpq⟩⟩
    · exact ⟨(0, 0), fun h => absurd h hi⟩
  refine ⟨fun i => (h i).choose, ?_, fun i hi => ((h i).choose_spec hi).2.1, fun i hi => ((h i).choose_spec hi).2.2⟩
  have e1 := Vx_of l sp0
  rw [Vx_congr (fun i hi => ((h i).choose_spec hi).1)] at e1
  exact e1
def inB (l : List SP) : Prop := ∀ s ∈ l, inS s
theorem w15_fit_in {ls : List (List SP)} (hl : ls.length ≤ 16) (h : ∀ l ∈ ls, inB l) : S.w15_fit (ls, ()) = some (false, ()) ∨ (S.w15_fit (ls, ()) = some (true, ()) ∧ ∀ i < ls.length, (ls.getD i []).length ≤ 6 ∧ fits15 (ls.getD 0 []).length (ls.getD i [])) := by
  simp only [S.w15_fit, L.w15_fit, w15_fit_b]
  rcases loop_or ls.length (fun _ => ()) (fun k' _ i => w15_fit_l0 100 k' ls ls (ls.length : Int) i) (fun r => r = some (false, ())) (fun i => (ls.getD i []).length ≤ 6 ∧ fits15 (ls.getD 0 []).length (ls.getD i [])) (fun k' i hk hi => by
    simp only [w15_fit_l0, w15_fit_s0]
    rw [ct (by omega), ct (by omega), ct (by omega), Int.toNat_natCast]
    have hm : ls.getD i [] ∈ ls := by rw [List.getD_eq_getElem?_getD, List.getElem?_eq_getElem hi]; exact List.getElem_mem hi
    have hin := h _ hm
    generalize hd : ls.getD i [] = l at hin
    by_cases h6 : 6 < l.length
    · right; rw [ct (by omega)]
    rw [cf (by omega), ct (by omega)]
    by_cases hn : (l.length : Int) = ((ls.getD 0 []).length : Int)
    · have hn' : (ls.getD 0 []).length = l.length := by omega
      rw [decide_eq_true hn]
      simp only [Bool.not_true, cond_false]
      rcases box_Check_full (l := l) (by omega) hin with ⟨c, c0, e⟩ | ⟨e, q⟩
      · right; rw [e, Option.bind_some]; simp only; rw [decide_eq_false c0]; rfl
      · rw [e, Option.bind_some]
        simp only [decide_true, Bool.not_true, cond_false]
        rcases fit15_spans (k := 0) (κ0 := w15_fit_l0 100 k') (a := ls) (b := ls) (p := (ls.length : Int)) (q := (i : Int)) (l := l) (by omega) with h | ⟨h, h2⟩
        · right; exact h
        · left; refine ⟨?_, by omega, ?_⟩
          · rw [← wi1 (by omega)]; exact h
          · rw [hn']; exact fits15_of q h2
    · right; rw [decide_eq_false hn]; rfl) 100 (by omega) with h | ⟨k', e, h⟩
  · exact .inl h
  · right
    refine ⟨?_, h⟩
    have e' : w15_fit_l0 100 100 ls ls (ls.length : Int) 0 = _ := e
    rw [e']
    simp only [w15_fit_l0, w15_fit_s0]
    rw [cf (by omega)]
theorem w15_fit1 {a : List SP} (ha : inB a) : S.w15_fit ([a], ()) = some (false, ()) ∨ (S.w15_fit ([a], ()) = some (true, ()) ∧ a.length ≤ 6 ∧ fits15 a.length a) := by
  rcases w15_fit_in (ls := [a]) (by simp) (fun l hl => by rcases List.mem_cons.1 hl with rfl | h; exact ha; cases h) with h | ⟨h, h2⟩
  · exact .inl h
  · exact .inr ⟨h, h2 0 (by simp)⟩
/-- girdlelaw15.BoxNests -/
def w15_BoxNests (a : List (((Bool × (List Int) × Unit) × Int × Unit) × ((Bool × (List Int) × Unit) × Int × Unit) × Unit)) (b : List (((Bool × (List Int) × Unit) × Int × Unit) × ((Bool × (List Int) × Unit) × Int × Unit) × Unit)) (dir : List (((Bool × (List Int) × Unit) × Int × Unit) × ((Bool × (List Int) × Unit) × Int × Unit) × Unit)) : Option (Bool × Unit) :=
  (S.w15_holds (())).bind fun z1 =>
  cond (!z1.1) (some (false, ()))
    (
      (S.w15_fit ([a, b], ())).bind fun z2 =>
      cond (!z2.1) (some (true, ()))
        (
          (S.w15_fit ([dir], ())).bind fun z3 =>
          cond (!z3.1) (some (true, ()))
            (
              cond (!(decide ((dir.length : Int) = (a.length : Int)))) (some (true, ()))
                (
                  (S.box_Hull (a, b, ())).bind fun z4 =>
                  (S.box_Support (a, dir, 80, ())).bind fun z5 =>
                  (S.box_Support (z4.1, dir, 80, ())).bind fun z6 =>
                  (S.box_Widest (a, ())).bind fun z7 =>
                  (S.box_Widest (z4.1, ())).bind fun z8 =>
                  cond (decide (z4.2.1 = 0))
                    (
                      cond (decide (z5.2.1 = 0))
                        (
                          cond (decide (z6.2.1 = 0))
                            (
                              cond (decide (z7.2.1 = 0))
                                (
                                  cond (decide (z8.2.1 = 0))
                                    (
                                      (S.dyad_Less (((z6.1.1.1, z6.1.1.2.1, ()), z6.1.2.1, ()), ((z5.1.1.1, z5.1.1.2.1, ()), z5.1.2.1, ()), ())).bind fun z9 =>
                                      cond (!z9.1)
                                        (
                                          (S.dyad_Less (((z8.1.1.1, z8.1.1.2.1, ()), z8.1.2.1, ()), ((z7.1.1.1, z7.1.1.2.1, ()), z7.1.2.1, ()), ())).bind fun z10 =>
                                          some (!z10.1, ())) (some (false, ()))) (some (false, ()))) (some (false, ()))) (some (false, ()))) (some (false, ()))) (some (false, ()))))))

/-- w15_BoxWidest: one round of loop 0. -/
def w15_BoxWidest_s0 (κ0 : Bool → (List Int) → Int → Int → Bool → (List (((Bool × (List Int) × Unit) × Int × Unit) × ((Bool × (List Int) × Unit) × Int × Unit) × Unit)) → Int → Int → Option (Bool × Unit)) (w_0 : Bool) (w_1 : List Int) (w_2 : Int) (e : Int) (found : Bool) (t24 : List (((Bool × (List Int) × Unit) × Int × Unit) × ((Bool × (List Int) × Unit) × Int × Unit) × Unit)) (t25 : Int) (t26 : Int) : Option (Bool × Unit) :=
  cond (decide (t26 < t25))
    (
      cond (decide (0 ≤ t26))
        (
          cond (decide (t26 < (t24.length : Int)))
            (
              let z4 := t24.getD t26.toNat (((false, ([], ())), (0, ())), (((false, ([], ())), (0, ())), ()))
              (S.span_Width ((((z4.1.1.1, z4.1.1.2.1, ()), z4.1.2.1, ()), ((z4.2.1.1.1, z4.2.1.1.2.1, ()), z4.2.1.2.1, ()), ()), ())).bind fun z5 =>
              (S.dyad_Less (((w_0, w_1, ()), w_2, ()), ((z5.1.1.1, z5.1.1.2.1, ()), z5.1.2.1, ()), ())).bind fun z6 =>
              cond (z6.1) (some (false, ()))
                (
                  cond (found) (κ0 w_0 w_1 w_2 e true t24 t25 (IntKind.i64.wrap (t26 + 1)))
                    (
                      (S.dyad_Compare (((w_0, w_1, ()), w_2, ()), ((z5.1.1.1, z5.1.1.2.1, ()), z5.1.2.1, ()), ())).bind fun z8 =>
                      κ0 w_0 w_1 w_2 e (decide (z8.1 = 0)) t24 t25 (IntKind.i64.wrap (t26 + 1))))) none) none)
    (
      cond (decide (e = 0)) (some (found, ())) (some (false, ())))

def w15_BoxWidest_l0 (K : Nat) : Nat → Bool → (List Int) → Int → Int → Bool → (List (((Bool × (List Int) × Unit) × Int × Unit) × ((Bool × (List Int) × Unit) × Int × Unit) × Unit)) → Int → Int → Option (Bool × Unit)
  | 0, _, _, _, _, _, _, _, _ => none
  | n + 1, w_0, w_1, w_2, e, found, t24, t25, t26 => w15_BoxWidest_s0 (w15_BoxWidest_l0 K n) w_0 w_1 w_2 e found t24 t25 t26

/-- girdlelaw15.BoxWidest -/
def w15_BoxWidest_b (I0 : Bool → (List Int) → Int → Int → Bool → (List (((Bool × (List Int) × Unit) × Int × Unit) × ((Bool × (List Int) × Unit) × Int × Unit) × Unit)) → Int → Int → Option (Bool × Unit)) (b : List (((Bool × (List Int) × Unit) × Int × Unit) × ((Bool × (List Int) × Unit) × Int × Unit) × Unit)) : Option (Bool × Unit) :=
  (S.w15_holds (())).bind fun z1 =>
  cond (!z1.1) (some (false, ()))
    (
      (S.w15_fit ([b], ())).bind fun z2 =>
      cond (!z2.1) (some (true, ()))
        (
          (S.box_Widest (b, ())).bind fun z3 =>
          I0 z3.1.1.1 z3.1.1.2.1 z3.1.2.1 z3.2.1 (decide ((b.length : Int) = 0)) b (b.length : Int) 0))

def w15_BoxWidest (K : Nat) (b : List (((Bool × (List Int) × Unit) × Int × Unit) × ((Bool × (List Int) × Unit) × Int × Unit) × Unit)) : Option (Bool × Unit) := w15_BoxWidest_b (w15_BoxWidest_l0 K K) b

def S.w15_BoxWidest (x : List SP × Unit) : Option (Bool × Unit) := L.w15_BoxWidest 100 x.1
end Go.L

/-! ZH -/
namespace Go.L
open Go.PM
set_option exponentiation.threshold 20000
set_option linter.unusedVariables false
set_option linter.unusedSimpArgs false

/-- w15_BoxWider: one round of loop 1. -/
def w15_BoxWider_s1 (κ0 : (List (((Bool × (List Int) × Unit) × Int × Unit) × ((Bool × (List Int) × Unit) × Int × Unit) × Unit)) → (List ((Bool × (List Int) × Unit) × Int × Unit)) → (List ((Bool × (List Int) × Unit) × Int × Unit)) → Int → Int → Option (Bool × Unit)) (κ1 : (List (((Bool × (List Int) × Unit) × Int × Unit) × ((Bool × (List Int) × Unit) × Int × Unit) × Unit)) → (List ((Bool × (List Int) × Unit) × Int × Unit)) → (List (((Bool × (List Int) × Unit) × Int × Unit) × ((Bool × (List Int) × Unit) × Int × Unit) × Unit)) → Int → Int → Option (Bool × Unit)) (b : List (((Bool × (List Int) × Unit) × Int × Unit) × ((Bool × (List Int) × Unit) × Int × Unit) × Unit)) (by_ : List ((Bool × (List Int) × Unit) × Int × Unit)) (w : List (((Bool × (List Int) × Unit) × Int × Unit) × ((Bool × (List Int) × Unit) × Int × Unit) × Unit)) (t76 : Int) (t77 : Int) : Option (Bool × Unit) :=
  cond (decide (t77 < t76))
    (
      cond (decide (0 ≤ t77))
        (
          cond (decide (t77 < (w.length : Int)))
            (
              let z8 := ((w.getD t77.toNat (((false, ([], ())), (0, ())), (((false, ([], ())), (0, ())), ()))).2).1
              cond (decide (0 ≤ t77))
                (
                  cond (decide (t77 < (b.length : Int)))
                    (
                      let z9 := ((b.getD t77.toNat (((false, ([], ())), (0, ())), (((false, ([], ())), (0, ())), ()))).2).1
                      (S.dyad_Sub (((z8.1.1, z8.1.2.1, ()), z8.2.1, ()), ((z9.1.1, z9.1.2.1, ()), z9.2.1, ()), ())).bind fun z10 =>
                      cond (decide (0 ≤ t77))
                        (
                          cond (decide (t77 < (b.length : Int)))
                            (
                              let z11 := (b.getD t77.toNat (((false, ([], ())), (0, ())), (((false, ([], ())), (0, ())), ()))).1
                              cond (decide (0 ≤ t77))
                                (
                                  cond (decide (t77 < (w.length : Int)))
                                    (
                                      let z12 := (w.getD t77.toNat (((false, ([], ())), (0, ())), (((false, ([], ())), (0, ())), ()))).1
                                      (S.dyad_Sub (((z11.1.1, z11.1.2.1, ()), z11.2.1, ()), ((z12.1.1, z12.1.2.1, ()), z12.2.1, ()), ())).bind fun z13 =>
                                      cond (decide (0 ≤ t77))
                                        (
                                          cond (decide (t77 < (by_.length : Int)))
                                            (
                                              let z14 := by_.getD t77.toNat ((false, ([], ())), (0, ()))
                                              (S.dyad_Abs (((z14.1.1, z14.1.2.1, ()), z14.2.1, ()), ())).bind fun z15 =>
                                              (S.dyad_Compare (((z10.1.1.1, z10.1.1.2.1, ()), z10.1.2.1, ()), ((z15.1.1.1, z15.1.1.2.1, ()), z15.1.2.1, ()), ())).bind fun z16 =>
                                              cond (!(decide (z16.1 = 0))) (some (false, ()))
                                                (
                                                  cond (decide (0 ≤ t77))
                                                    (
                                                      cond (decide (t77 < (by_.length : Int)))
                                                        (
                                                          let z17 := by_.getD t77.toNat ((false, ([], ())), (0, ()))
                                                          (S.dyad_Abs (((z17.1.1, z17.1.2.1, ()), z17.2.1, ()), ())).bind fun z18 =>
                                                          (S.dyad_Compare (((z13.1.1.1, z13.1.1.2.1, ()), z13.1.2.1, ()), ((z18.1.1.1, z18.1.1.2.1, ()), z18.1.2.1, ()), ())).bind fun z19 =>
                                                          cond (!(decide (z19.1 = 0))) (some (false, ())) (κ1 b by_ w t76 (IntKind.i64.wrap (t77 + 1)))) none) none)) none) none) none) none) none) none) none) none) none) none) (some (true, ()))

def w15_BoxWider_l1 (K : Nat) (κ0 : (List (((Bool × (List Int) × Unit) × Int × Unit) × ((Bool × (List Int) × Unit) × Int × Unit) × Unit)) → (List ((Bool × (List Int) × Unit) × Int × Unit)) → (List ((Bool × (List Int) × Unit) × Int × Unit)) → Int → Int → Option (Bool × Unit)) : Nat → (List (((Bool × (List Int) × Unit) × Int × Unit) × ((Bool × (List Int) × Unit) × Int × Unit) × Unit)) → (List ((Bool × (List Int) × Unit) × Int × Unit)) → (List (((Bool × (List Int) × Unit) × Int × Unit) × ((Bool × (List Int) × Unit) × Int × Unit) × Unit)) → Int → Int → Option (Bool × Unit)
  | 0, _, _, _, _, _ => none
  | n + 1, b, by_, w, t76, t77 => w15_BoxWider_s1 κ0 (w15_BoxWider_l1 K κ0 n) b by_ w t76 t77

/-- w15_BoxWider: one round of loop 0. -/
def w15_BoxWider_s0 (I1 : (List (((Bool × (List Int) × Unit) × Int × Unit) × ((Bool × (List Int) × Unit) × Int × Unit) × Unit)) → (List ((Bool × (List Int) × Unit) × Int × Unit)) → (List (((Bool × (List Int) × Unit) × Int × Unit) × ((Bool × (List Int) × Unit) × Int × Unit) × Unit)) → Int → Int → Option (Bool × Unit)) (κ0 : (List (((Bool × (List Int) × Unit) × Int × Unit) × ((Bool × (List Int) × Unit) × Int × Unit) × Unit)) → (List ((Bool × (List Int) × Unit) × Int × Unit)) → (List ((Bool × (List Int) × Unit) × Int × Unit)) → Int → Int → Option (Bool × Unit)) (b : List (((Bool × (List Int) × Unit) × Int × Unit) × ((Bool × (List Int) × Unit) × Int × Unit) × Unit)) (by_ : List ((Bool × (List Int) × Unit) × Int × Unit)) (t27 : List ((Bool × (List Int) × Unit) × Int × Unit)) (t28 : Int) (t29 : Int) : Option (Bool × Unit) :=
  cond (decide (t29 < t28))
    (
      cond (decide (0 ≤ t29))
        (
          cond (decide (t29 < (t27.length : Int)))
            (
              let z3 := t27.getD t29.toNat ((false, ([], ())), (0, ()))
              (S.dyad_Check (((z3.1.1, z3.1.2.1, ()), z3.2.1, ()), ())).bind fun z4 =>
              cond (!(decide (z4.1 = 0))) (some (true, ()))
                (
                  cond (decide (5 < (z3.1.2.1.length : Int))) (some (true, ()))
                    (
                      cond (decide (100 < z3.2.1)) (some (true, ()))
                        (
                          cond (decide (z3.2.1 < (-100 : Int))) (some (true, ())) (κ0 b by_ t27 t28 (IntKind.i64.wrap (t29 + 1))))))) none) none)
    (
      (S.box_Wider (b, by_, 2000, ())).bind fun z6 =>
      cond (!(decide (z6.2.1 = 0))) (some (false, ()))
        (
          cond (!(decide ((z6.1.length : Int) = (b.length : Int)))) (some (false, ()))
            (
              (S.box_Holds (z6.1, b, ())).bind fun z7 =>
              cond (!z7.1) (some (false, ())) (I1 b by_ z6.1 (b.length : Int) 0))))

def w15_BoxWider_l0 (K : Nat) : Nat → (List (((Bool × (List Int) × Unit) × Int × Unit) × ((Bool × (List Int) × Unit) × Int × Unit) × Unit)) → (List ((Bool × (List Int) × Unit) × Int × Unit)) → (List ((Bool × (List Int) × Unit) × Int × Unit)) → Int → Int → Option (Bool × Unit)
  | 0, _, _, _, _, _ => none
  | n + 1, b, by_, t27, t28, t29 => w15_BoxWider_s0 (w15_BoxWider_l1 K (w15_BoxWider_l0 K n) K) (w15_BoxWider_l0 K n) b by_ t27 t28 t29

/-- girdlelaw15.BoxWider -/
def w15_BoxWider_b (I0 : (List (((Bool × (List Int) × Unit) × Int × Unit) × ((Bool × (List Int) × Unit) × Int × Unit) × Unit)) → (List ((Bool × (List Int) × Unit) × Int × Unit)) → (List ((Bool × (List Int) × Unit) × Int × Unit)) → Int → Int → Option (Bool × Unit)) (b : List (((Bool × (List Int) × Unit) × Int × Unit) × ((Bool × (List Int) × Unit) × Int × Unit) × Unit)) (by_ : List ((Bool × (List Int) × Unit) × Int × Unit)) : Option (Bool × Unit) :=
  (S.w15_holds (())).bind fun z1 =>
  cond (!z1.1) (some (false, ()))
    (
      (S.w15_fit ([b], ())).bind fun z2 =>
      cond (!z2.1) (some (true, ()))
        (
          cond (!(decide ((by_.length : Int) = (b.length : Int)))) (some (true, ())) (I0 b by_ by_ (by_.length : Int) 0)))

def w15_BoxWider (K : Nat) (b : List (((Bool × (List Int) × Unit) × Int × Unit) × ((Bool × (List Int) × Unit) × Int × Unit) × Unit)) (by_ : List ((Bool × (List Int) × Unit) × Int × Unit)) : Option (Bool × Unit) := w15_BoxWider_b (w15_BoxWider_l0 K K) b by_

def S.w15_BoxWider (x : List SP × List DY × Unit) : Option (Bool × Unit) := L.w15_BoxWider 100 x.1 x.2.1
/-- w15_corner: one round of loop 0. -/
def w15_corner_s0 (κ0 : Int → (List ((Bool × (List Int) × Unit) × (List Int) × Unit)) → (List (((Bool × (List Int) × Unit) × Int × Unit) × ((Bool × (List Int) × Unit) × Int × Unit) × Unit)) → Int → Int → Option ((List ((Bool × (List Int) × Unit) × (List Int) × Unit)) × Unit)) (which : Int) (out : List ((Bool × (List Int) × Unit) × (List Int) × Unit)) (t11 : List (((Bool × (List Int) × Unit) × Int × Unit) × ((Bool × (List Int) × Unit) × Int × Unit) × Unit)) (t12 : Int) (t13 : Int) : Option ((List ((Bool × (List Int) × Unit) × (List Int) × Unit)) × Unit) :=
  cond (decide (t13 < t12))
    (
      cond (decide (0 ≤ t13))
        (
          cond (decide (t13 < (t11.length : Int)))
            (
              let z1 := t11.getD t13.toNat (((false, ([], ())), (0, ())), (((false, ([], ())), (0, ())), ()))
              cond (decide (0 ≤ t13))
                (
                  cond (decide ((ibits .and .i64 (which.fdiv (2 ^ (min t13.toNat 64))) 1) = 1))
                    (
                      (S.dyad_Ratio (((z1.2.1.1.1, z1.2.1.1.2.1, ()), z1.2.1.2.1, ()), ())).bind fun z4 =>
                      cond (decide ((out.length + ([((z4.1.1.1, z4.1.1.2.1, ()), z4.1.2.1, ())]).length) * 56 ≤ 140737488351232))
                        (
                          κ0 which (out ++ ([((z4.1.1.1, z4.1.1.2.1, ()), z4.1.2.1, ())])) t11 t12 (IntKind.i64.wrap (t13 + 1))) none)
                    (
                      (S.dyad_Ratio (((z1.1.1.1, z1.1.1.2.1, ()), z1.1.2.1, ()), ())).bind fun z7 =>
                      cond (decide ((out.length + ([((z7.1.1.1, z7.1.1.2.1, ()), z7.1.2.1, ())]).length) * 56 ≤ 140737488351232))
                        (
                          κ0 which (out ++ ([((z7.1.1.1, z7.1.1.2.1, ()), z7.1.2.1, ())])) t11 t12 (IntKind.i64.wrap (t13 + 1))) none)) none) none) none) (some (out, ()))

def w15_corner_l0 (K : Nat) : Nat → Int → (List ((Bool × (List Int) × Unit) × (List Int) × Unit)) → (List (((Bool × (List Int) × Unit) × Int × Unit) × ((Bool × (List Int) × Unit) × Int × Unit) × Unit)) → Int → Int → Option ((List ((Bool × (List Int) × Unit) × (List Int) × Unit)) × Unit)
  | 0, _, _, _, _, _ => none
  | n + 1, which, out, t11, t12, t13 => w15_corner_s0 (w15_corner_l0 K n) which out t11 t12 t13

/-- girdlelaw15.corner -/
def w15_corner_b (I0 : Int → (List ((Bool × (List Int) × Unit) × (List Int) × Unit)) → (List (((Bool × (List Int) × Unit) × Int × Unit) × ((Bool × (List Int) × Unit) × Int × Unit) × Unit)) → Int → Int → Option ((List ((Bool × (List Int) × Unit) × (List Int) × Unit)) × Unit)) (b : List (((Bool × (List Int) × Unit) × Int × Unit) × ((Bool × (List Int) × Unit) × Int × Unit) × Unit)) (which : Int) : Option ((List ((Bool × (List Int) × Unit) × (List Int) × Unit)) × Unit) :=
  I0 which [] b (b.length : Int) 0

def w15_corner (K : Nat) (b : List (((Bool × (List Int) × Unit) × Int × Unit) × ((Bool × (List Int) × Unit) × Int × Unit) × Unit)) (which : Int) : Option ((List ((Bool × (List Int) × Unit) × (List Int) × Unit)) × Unit) := w15_corner_b (w15_corner_l0 K K) b which

def S.w15_corner (x : List SP × Int × Unit) : Option (List RT × Unit) := L.w15_corner 100 x.1 x.2.1
/-- An end of a span, as some bits tell. -/
def cnr (f : Nat → Int × Int) (w : Int) (i : Nat) : Int := bif decide ((ibits .and .i64 (w.fdiv (2 ^ (min i 64))) 1) = 1) then (f i).2 else (f i).1
theorem cnr_is (f : Nat → Int × Int) (w : Int) (i : Nat) : cnr f w i = (f i).1 ∨ cnr f w i = (f i).2 := by
  unfold cnr; cases decide ((ibits .and .i64 (w.fdiv (2 ^ (min i 64))) 1) = 1)
  · exact .inl rfl
  · exact .inr rfl
theorem Vx_succ {β : Type} (n : Nat) (g : Nat → β) : Vx n g ++ [g n] = Vx (n + 1) g := by
  unfold Vx; rw [List.range_succ, List.map_append]; rfl
theorem w15_corner_Bx {n : Nat} {f : Nat → Int × Int} {e w : Int} {k : Nat} (hn : n ≤ 16) (hf : bb n f k) (hk1 : 1 ≤ k) (hk : k ≤ 40) (he0 : -700 ≤ e) (he1 : e ≤ 700) : S.w15_corner (Bx n f e, w, ()) = some (Vx n (fun i => R (dv (cnr f w i) e)), ()) := by
  simp only [S.w15_corner, L.w15_corner, w15_corner_b, Vx_len]
  refine loop_up n (fun i => Vx i (fun i => R (dv (cnr f w i) e))) (fun k s i => w15_corner_l0 100 k w s (Bx n f e) (n : Int) i) _ (fun k' i hi => ?_) (fun k => ?_) 100 (by omega)
  · simp only [w15_corner_l0, w15_corner_s0, Vx_len]
    rw [ct (by omega), ct (by omega), ct (by omega), Int.toNat_natCast, Vx_get hi, ct (by omega)]
    have h1 := (dyad_Ratio_Yd (hf i hi).1 hk1 hk he0 he1).1
    have h2 := (dyad_Ratio_Yd (hf i hi).2 hk1 hk he0 he1).1
    have hs := Vx_succ i (fun i => R (dv (cnr f w i) e))
    cases hb : decide ((ibits .and .i64 (w.fdiv (2 ^ (min i 64))) 1) = 1) with
    | true =>
      have hc : cnr f w i = (f i).2 := by unfold cnr; rw [hb]; rfl
      rw [← hc] at h2
      simp only [cond_true]
      rw [hc] at h2
      rw [show S.dyad_Ratio _ = _ from h2, Option.bind_some, ct (by simp only [List.length_singleton]; omega), wi1 (by omega), ← hs, hc]
    | false =>
      have hc : cnr f w i = (f i).1 := by unfold cnr; rw [hb]; rfl
      simp only [cond_false]
      rw [show S.dyad_Ratio _ = _ from h1, Option.bind_some, ct (by simp only [List.length_singleton]; omega), wi1 (by omega), ← hs, hc]
  · simp only [w15_corner_l0, w15_corner_s0]
    rw [cf (by omega)]
/-- w15_BoxHulls: one round of loop 2. -/
def w15_BoxHulls_s2 (κ0 : (List (((Bool × (List Int) × Unit) × Int × Unit) × ((Bool × (List Int) × Unit) × Int × Unit) × Unit)) → (List (((Bool × (List Int) × Unit) × Int × Unit) × ((Bool × (List Int) × Unit) × Int × Unit) × Unit)) → (List ((Bool × (List Int) × Unit) × Int × Unit)) → (List ((Bool × (List Int) × Unit) × Int × Unit)) → Int → Int → Option (Bool × Unit)) (κ1 : (List (((Bool × (List Int) × Unit) × Int × Unit) × ((Bool × (List Int) × Unit) × Int × Unit) × Unit)) → (List (((Bool × (List Int) × Unit) × Int × Unit) × ((Bool × (List Int) × Unit) × Int × Unit) × Unit)) → (List (((Bool × (List Int) × Unit) × Int × Unit) × ((Bool × (List Int) × Unit) × Int × Unit) × Unit)) → Int → Int → Option (Bool × Unit)) (κ2 : (List (((Bool × (List Int) × Unit) × Int × Unit) × ((Bool × (List Int) × Unit) × Int × Unit) × Unit)) → (List (((Bool × (List Int) × Unit) × Int × Unit) × ((Bool × (List Int) × Unit) × Int × Unit) × Unit)) → Int → Int → Option (Bool × Unit)) (a : List (((Bool × (List Int) × Unit) × Int × Unit) × ((Bool × (List Int) × Unit) × Int × Unit) × Unit)) (h : List (((Bool × (List Int) × Unit) × Int × Unit) × ((Bool × (List Int) × Unit) × Int × Unit) × Unit)) (t147 : Int) (t148 : Int) : Option (Bool × Unit) :=
  cond (decide (t148 < t147))
    (
      (S.w15_corner (a, t148, ())).bind fun z24 =>
      (S.box_Has (h, z24.1, ())).bind fun z25 =>
      cond (!(decide (z25.2.1 = 0))) (some (false, ()))
        (
          cond (!z25.1) (some (false, ())) (κ2 a h t147 (IntKind.i64.wrap (t148 + 1))))) (some (true, ()))

def w15_BoxHulls_l2 (K : Nat) (κ0 : (List (((Bool × (List Int) × Unit) × Int × Unit) × ((Bool × (List Int) × Unit) × Int × Unit) × Unit)) → (List (((Bool × (List Int) × Unit) × Int × Unit) × ((Bool × (List Int) × Unit) × Int × Unit) × Unit)) → (List ((Bool × (List Int) × Unit) × Int × Unit)) → (List ((Bool × (List Int) × Unit) × Int × Unit)) → Int → Int → Option (Bool × Unit)) (κ1 : (List (((Bool × (List Int) × Unit) × Int × Unit) × ((Bool × (List Int) × Unit) × Int × Unit) × Unit)) → (List (((Bool × (List Int) × Unit) × Int × Unit) × ((Bool × (List Int) × Unit) × Int × Unit) × Unit)) → (List (((Bool × (List Int) × Unit) × Int × Unit) × ((Bool × (List Int) × Unit) × Int × Unit) × Unit)) → Int → Int → Option (Bool × Unit)) : Nat → (List (((Bool × (List Int) × Unit) × Int × Unit) × ((Bool × (List Int) × Unit) × Int × Unit) × Unit)) → (List (((Bool × (List Int) × Unit) × Int × Unit) × ((Bool × (List Int) × Unit) × Int × Unit) × Unit)) → Int → Int → Option (Bool × Unit)
  | 0, _, _, _, _ => none
  | n + 1, a, h, t147, t148 => w15_BoxHulls_s2 κ0 κ1 (w15_BoxHulls_l2 K κ0 κ1 n) a h t147 t148

/-- w15_BoxHulls: one round of loop 1. -/
def w15_BoxHulls_s1 (I2 : (List (((Bool × (List Int) × Unit) × Int × Unit) × ((Bool × (List Int) × Unit) × Int × Unit) × Unit)) → (List (((Bool × (List Int) × Unit) × Int × Unit) × ((Bool × (List Int) × Unit) × Int × Unit) × Unit)) → Int → Int → Option (Bool × Unit)) (κ0 : (List (((Bool × (List Int) × Unit) × Int × Unit) × ((Bool × (List Int) × Unit) × Int × Unit) × Unit)) → (List (((Bool × (List Int) × Unit) × Int × Unit) × ((Bool × (List Int) × Unit) × Int × Unit) × Unit)) → (List ((Bool × (List Int) × Unit) × Int × Unit)) → (List ((Bool × (List Int) × Unit) × Int × Unit)) → Int → Int → Option (Bool × Unit)) (κ1 : (List (((Bool × (List Int) × Unit) × Int × Unit) × ((Bool × (List Int) × Unit) × Int × Unit) × Unit)) → (List (((Bool × (List Int) × Unit) × Int × Unit) × ((Bool × (List Int) × Unit) × Int × Unit) × Unit)) → (List (((Bool × (List Int) × Unit) × Int × Unit) × ((Bool × (List Int) × Unit) × Int × Unit) × Unit)) → Int → Int → Option (Bool × Unit)) (a : List (((Bool × (List Int) × Unit) × Int × Unit) × ((Bool × (List Int) × Unit) × Int × Unit) × Unit)) (b : List (((Bool × (List Int) × Unit) × Int × Unit) × ((Bool × (List Int) × Unit) × Int × Unit) × Unit)) (h : List (((Bool × (List Int) × Unit) × Int × Unit) × ((Bool × (List Int) × Unit) × Int × Unit) × Unit)) (t102 : Int) (t103 : Int) : Option (Bool × Unit) :=
  cond (decide (t103 < t102))
    (
      cond (decide (0 ≤ t103))
        (
          cond (decide (t103 < (h.length : Int)))
            (
              let z12 := (h.getD t103.toNat (((false, ([], ())), (0, ())), (((false, ([], ())), (0, ())), ()))).1
              cond (decide (0 ≤ t103))
                (
                  cond (decide (t103 < (a.length : Int)))
                    (
                      let z13 := (a.getD t103.toNat (((false, ([], ())), (0, ())), (((false, ([], ())), (0, ())), ()))).1
                      cond (decide (0 ≤ t103))
                        (
                          cond (decide (t103 < (b.length : Int)))
                            (
                              let z14 := (b.getD t103.toNat (((false, ([], ())), (0, ())), (((false, ([], ())), (0, ())), ()))).1
                              (S.dyad_Min (((z13.1.1, z13.1.2.1, ()), z13.2.1, ()), ((z14.1.1, z14.1.2.1, ()), z14.2.1, ()), ())).bind fun z15 =>
                              (S.dyad_Compare (((z12.1.1, z12.1.2.1, ()), z12.2.1, ()), ((z15.1.1.1, z15.1.1.2.1, ()), z15.1.2.1, ()), ())).bind fun z16 =>
                              cond (!(decide (z16.1 = 0))) (some (false, ()))
                                (
                                  cond (decide (0 ≤ t103))
                                    (
                                      cond (decide (t103 < (h.length : Int)))
                                        (
                                          let z17 := ((h.getD t103.toNat (((false, ([], ())), (0, ())), (((false, ([], ())), (0, ())), ()))).2).1
                                          cond (decide (0 ≤ t103))
                                            (
                                              cond (decide (t103 < (a.length : Int)))
                                                (
                                                  let z18 := ((a.getD t103.toNat (((false, ([], ())), (0, ())), (((false, ([], ())), (0, ())), ()))).2).1
                                                  cond (decide (0 ≤ t103))
                                                    (
                                                      cond (decide (t103 < (b.length : Int)))
                                                        (
                                                          let z19 := ((b.getD t103.toNat (((false, ([], ())), (0, ())), (((false, ([], ())), (0, ())), ()))).2).1
                                                          (S.dyad_Max (((z18.1.1, z18.1.2.1, ()), z18.2.1, ()), ((z19.1.1, z19.1.2.1, ()), z19.2.1, ()), ())).bind fun z20 =>
                                                          (S.dyad_Compare (((z17.1.1, z17.1.2.1, ()), z17.2.1, ()), ((z20.1.1.1, z20.1.1.2.1, ()), z20.1.2.1, ()), ())).bind fun z21 =>
                                                          cond (!(decide (z21.1 = 0))) (some (false, ())) (κ1 a b h t102 (IntKind.i64.wrap (t103 + 1)))) none) none) none) none) none) none)) none) none) none) none) none) none)
    (
      cond (decide (0 ≤ (a.length : Int))) (I2 a h (IntKind.i64.wrap (1 * 2 ^ (min (a.length : Int).toNat 64))) 0) none)

def w15_BoxHulls_l1 (K : Nat) (κ0 : (List (((Bool × (List Int) × Unit) × Int × Unit) × ((Bool × (List Int) × Unit) × Int × Unit) × Unit)) → (List (((Bool × (List Int) × Unit) × Int × Unit) × ((Bool × (List Int) × Unit) × Int × Unit) × Unit)) → (List ((Bool × (List Int) × Unit) × Int × Unit)) → (List ((Bool × (List Int) × Unit) × Int × Unit)) → Int → Int → Option (Bool × Unit)) : Nat → (List (((Bool × (List Int) × Unit) × Int × Unit) × ((Bool × (List Int) × Unit) × Int × Unit) × Unit)) → (List (((Bool × (List Int) × Unit) × Int × Unit) × ((Bool × (List Int) × Unit) × Int × Unit) × Unit)) → (List (((Bool × (List Int) × Unit) × Int × Unit) × ((Bool × (List Int) × Unit) × Int × Unit) × Unit)) → Int → Int → Option (Bool × Unit)
  | 0, _, _, _, _, _ => none
  | n + 1, a, b, h, t102, t103 => w15_BoxHulls_s1 (w15_BoxHulls_l2 K κ0 (w15_BoxHulls_l1 K κ0 n) K) κ0 (w15_BoxHulls_l1 K κ0 n) a b h t102 t103

/-- w15_BoxHulls: one round of loop 0. -/
def w15_BoxHulls_s0 (I1 : (List (((Bool × (List Int) × Unit) × Int × Unit) × ((Bool × (List Int) × Unit) × Int × Unit) × Unit)) → (List (((Bool × (List Int) × Unit) × Int × Unit) × ((Bool × (List Int) × Unit) × Int × Unit) × Unit)) → (List (((Bool × (List Int) × Unit) × Int × Unit) × ((Bool × (List Int) × Unit) × Int × Unit) × Unit)) → Int → Int → Option (Bool × Unit)) (κ0 : (List (((Bool × (List Int) × Unit) × Int × Unit) × ((Bool × (List Int) × Unit) × Int × Unit) × Unit)) → (List (((Bool × (List Int) × Unit) × Int × Unit) × ((Bool × (List Int) × Unit) × Int × Unit) × Unit)) → (List ((Bool × (List Int) × Unit) × Int × Unit)) → (List ((Bool × (List Int) × Unit) × Int × Unit)) → Int → Int → Option (Bool × Unit)) (a : List (((Bool × (List Int) × Unit) × Int × Unit) × ((Bool × (List Int) × Unit) × Int × Unit) × Unit)) (b : List (((Bool × (List Int) × Unit) × Int × Unit) × ((Bool × (List Int) × Unit) × Int × Unit) × Unit)) (by_ : List ((Bool × (List Int) × Unit) × Int × Unit)) (t31 : List ((Bool × (List Int) × Unit) × Int × Unit)) (t32 : Int) (t33 : Int) : Option (Bool × Unit) :=
  cond (decide (t33 < t32))
    (
      cond (decide (0 ≤ t33))
        (
          cond (decide (t33 < (t31.length : Int)))
            (
              let z3 := t31.getD t33.toNat ((false, ([], ())), (0, ()))
              cond (decide (5 < (z3.1.2.1.length : Int))) (some (true, ()))
                (
                  cond (decide (100 < z3.2.1)) (some (true, ()))
                    (
                      cond (decide (z3.2.1 < (-100 : Int))) (some (true, ()))
                        (
                          (S.dyad_Check (((z3.1.1, z3.1.2.1, ()), z3.2.1, ()), ())).bind fun z4 =>
                          cond (!(decide (z4.1 = 0))) (some (true, ())) (κ0 a b by_ t31 t32 (IntKind.i64.wrap (t33 + 1))))))) none) none)
    (
      (S.box_Hull (a, b, ())).bind fun z6 =>
      (S.box_Wider (z6.1, by_, 100, ())).bind fun z7 =>
      cond (!(decide (z6.2.1 = 0))) (some (false, ()))
        (
          cond (!(decide (z7.2.1 = 0))) (some (false, ()))
            (
              (S.box_Holds (z6.1, a, ())).bind fun z8 =>
              cond (!z8.1) (some (false, ()))
                (
                  (S.box_Holds (z6.1, b, ())).bind fun z9 =>
                  cond (!z9.1) (some (false, ()))
                    (
                      (S.box_Holds (z7.1, z6.1, ())).bind fun z10 =>
                      cond (!z10.1) (some (false, ()))
                        (
                          (S.box_Check (z7.1, (a.length : Int), ())).bind fun z11 =>
                          cond (!(decide (z11.1 = 0))) (some (false, ())) (I1 a b z6.1 (z6.1.length : Int) 0)))))))

def w15_BoxHulls_l0 (K : Nat) : Nat → (List (((Bool × (List Int) × Unit) × Int × Unit) × ((Bool × (List Int) × Unit) × Int × Unit) × Unit)) → (List (((Bool × (List Int) × Unit) × Int × Unit) × ((Bool × (List Int) × Unit) × Int × Unit) × Unit)) → (List ((Bool × (List Int) × Unit) × Int × Unit)) → (List ((Bool × (List Int) × Unit) × Int × Unit)) → Int → Int → Option (Bool × Unit)
  | 0, _, _, _, _, _, _ => none
  | n + 1, a, b, by_, t31, t32, t33 => w15_BoxHulls_s0 (w15_BoxHulls_l1 K (w15_BoxHulls_l0 K n) K) (w15_BoxHulls_l0 K n) a b by_ t31 t32 t33

/-- girdlelaw15.BoxHulls -/
def w15_BoxHulls_b (I0 : (List (((Bool × (List Int) × Unit) × Int × Unit) × ((Bool × (List Int) × Unit) × Int × Unit) × Unit)) → (List (((Bool × (List Int) × Unit) × Int × Unit) × ((Bool × (List Int) × Unit) × Int × Unit) × Unit)) → (List ((Bool × (List Int) × Unit) × Int × Unit)) → (List ((Bool × (List Int) × Unit) × Int × Unit)) → Int → Int → Option (Bool × Unit)) (a : List (((Bool × (List Int) × Unit) × Int × Unit) × ((Bool × (List Int) × Unit) × Int × Unit) × Unit)) (b : List (((Bool × (List Int) × Unit) × Int × Unit) × ((Bool × (List Int) × Unit) × Int × Unit) × Unit)) (by_ : List ((Bool × (List Int) × Unit) × Int × Unit)) : Option (Bool × Unit) :=
  (S.w15_holds (())).bind fun z1 =>
  cond (!z1.1) (some (false, ()))
    (
      (S.w15_fit ([a, b], ())).bind fun z2 =>
      cond (!z2.1) (some (true, ()))
        (
          cond (!(decide ((by_.length : Int) = (a.length : Int)))) (some (true, ())) (I0 a b by_ by_ (by_.length : Int) 0)))

def w15_BoxHulls (K : Nat) (a : List (((Bool × (List Int) × Unit) × Int × Unit) × ((Bool × (List Int) × Unit) × Int × Unit) × Unit)) (b : List (((Bool × (List Int) × Unit) × Int × Unit) × ((Bool × (List Int) × Unit) × Int × Unit) × Unit)) (by_ : List ((Bool × (List Int) × Unit) × Int × Unit)) : Option (Bool × Unit) := w15_BoxHulls_b (w15_BoxHulls_l0 K K) a b by_

def S.w15_BoxHulls (x : List SP × List SP × List DY × Unit) : Option (Bool × Unit) := L.w15_BoxHulls 100 x.1 x.2.1 x.2.2.1
theorem two_le64 {n : Nat} (h : n ≤ 6) : 2 ^ n ≤ 64 := Nat.pow_le_pow_right (show 0 < 2 by decide) h
end Go.L
