/-
  sets: what is kept of ratios; boxes of sets. sets and their boxes go as far as each other along the places. sets and their boxes go as far as each other along the places: the law.
  No condition beyond those that each theorem names.
-/
import Derived.Test.YtdgldaahflpndaaGreatDoorR

/-! BD -/
namespace Go.L
open Go.PM
set_option exponentiation.threshold 20000
set_option linter.unusedVariables false
set_option linter.unusedSimpArgs false

theorem nrs_in {n : Nat} {q : Nat → Rat} {b B j : Nat} (hq : ∀ i < n, big (q i) j) (hB : b + 32 * j + 1 ≤ B) : ∀ i < n, dv (nrs q b B i).1 (-(B : Int)) ≤ q i ∧ q i ≤ dv (nrs q b B i).2 (-(B : Int)) := fun i hi => by
  have := nsh_le (b := b) (hq i hi)
  exact ⟨nr_lo (by omega), nr_hi (by omega)⟩
theorem mo_ge {f : Nat → Int × Int} {q : Rat} {e : Int} {b i : Nat} (h1 : dv (f i).1 e ≤ q) (h2 : q ≤ dv (f i).2 e) : qabs (q - dv (md f b i) (e - 1)) ≤ dv (mo f b i) (e - 1) := by
  have a1 := (dv_le (e := e - 1)).2 (rdn_le ((f i).1 * 2 - md f b i) b)
  have a2 := (dv_le (e := e - 1)).2 (rup_ge ((f i).2 * 2 - md f b i) b)
  rw [dv_sub, dv_dbl] at a1 a2
  exact qabs_le (by grind) (by grind)
theorem zr_ge {q0 : Nat → Rat} {q : Nat → Nat → Rat} {b B i : Nat} {e : Int} : ∀ k, dv (mo (nrs q0 b B) b i) e + sumQ (fun k => dv (mo (nrs (q k) b B) b i) e) k ≤ dv (zr q0 q b B k i) e
  | 0 => by simp only [sumQ, zr]; grind
  | k + 1 => by
    have h1 := zr_ge (q0 := q0) (q := q) (b := b) (B := B) (i := i) (e := e) k
    have h2 := (dv_le (e := e)).2 (rup_ge (zr q0 q b B k i + mo (nrs (q k) b B) b i) b)
    rw [dv_add] at h2
    simp only [sumQ, zr]; grind
end Go.L

/-! BE -/
namespace Go.L
open Go.PM
set_option exponentiation.threshold 20000
set_option linter.unusedVariables false
set_option linter.unusedSimpArgs false

/-- vec_Check: one round of loop 0. -/
def vec_Check_s0 (κ0 : (List RT) → Int → Int → Option (Int × Unit)) (t20 : List RT) (t21 : Int) (t22 : Int) : Option (Int × Unit) :=
  cond (decide (t22 < t21))
    (
      cond (decide (0 ≤ t22))
        (
          cond (decide (t22 < (t20.length : Int)))
            (
              let z1 := t20.getD t22.toNat ((false, ([], ())), ([], ()))
              (S.ratio_Check (((z1.1.1, z1.1.2.1, ()), z1.2.1, ()), ())).bind fun z2 =>
              cond (!(decide (z2.1 = 0))) (some (z2.1, ())) (κ0 t20 t21 (IntKind.i64.wrap (t22 + 1)))) none) none) (some (0, ()))

def vec_Check_l0 (K : Nat) : Nat → (List RT) → Int → Int → Option (Int × Unit)
  | 0, _, _, _ => none
  | n + 1, t20, t21, t22 => vec_Check_s0 (vec_Check_l0 K n) t20 t21 t22

/-- vec.Check -/
def vec_Check_b (I0 : (List RT) → Int → Int → Option (Int × Unit)) (a : List RT) (n : Int) : Option (Int × Unit) :=
  cond (decide (n < 0)) (some (20, ()))
    (
      cond (decide (16 < n)) (some (20, ()))
        (
          cond (!(decide ((a.length : Int) = n))) (some (20, ())) (I0 a (a.length : Int) 0)))

def vec_Check (K : Nat) (a : List RT) (n : Int) : Option (Int × Unit) := vec_Check_b (vec_Check_l0 K K) a n

def S.vec_Check (x : List RT × Int × Unit) : Option (Int × Unit) := L.vec_Check 100 x.1 x.2.1
theorem vec_Check_in {l : List RT} {n : Nat} (hn : n ≤ 16) (h : ∀ d ∈ l, inR d) : (∃ c, c ≠ 0 ∧ S.vec_Check (l, (n : Int), ()) = some (c, ())) ∨ (S.vec_Check (l, (n : Int), ()) = some (0, ()) ∧ ∃ q : Nat → Rat, l = Rx n q ∧ ∀ i < n, big (q i) 512) := by
  simp only [S.vec_Check, L.vec_Check, vec_Check_b]
  rw [cf (by omega), cf (by omega)]
  by_cases hl : (l.length : Int) = n
  · rw [decide_eq_true hl]
    simp only [Bool.not_true, cond_false]
    have hl' : l.length = n := by omega
    subst hl'
    rcases loop_or l.length (fun _ => ()) (fun k s i => vec_Check_l0 100 k l (l.length : Int) i) (fun r => ∃ c, c ≠ 0 ∧ r = some (c, ())) (fun i => ∃ q : Rat, l.getD i rt0 = R q ∧ big q 512) (fun k i hk hi => by
      simp only [vec_Check_l0, vec_Check_s0]
      rw [ct (by omega), ct (by omega), ct (by omega), Int.toNat_natCast]
      have hin := inR_get h hi
      generalize hx : l.getD i ((false, ([], ())), ([], ())) = x
      have hx' : l.getD i rt0 = x := hx
      rw [hx'] at hin
      rcases ratio_Check_in hin with ⟨c, c0, e⟩ | ⟨e, q, hq, hq2⟩
      · right; rw [show S.ratio_Check _ = _ from e, Option.bind_some]; simp only; rw [decide_eq_false c0]; exact ⟨c, c0, rfl⟩
      rw [show S.ratio_Check _ = _ from e, Option.bind_some]
      simp only [decide_true, Bool.not_true, cond_false]
      left; rw [wi1 (by omega)]; exact ⟨rfl, q, hq, hq2⟩) 100 (by omega) with h | ⟨k, e2, h⟩
    · exact .inl h
    right
    have e3 : vec_Check_l0 100 100 l (l.length : Int) 0 = _ := e2
    rw [e3]
    simp only [vec_Check_l0, vec_Check_s0]
    rw [cf (by omega)]
    exact ⟨rfl, Vx_rt h⟩
  · rw [decide_eq_false hl]
    exact .inl ⟨20, by decide, rfl⟩
/-- vec_Zero: one round of loop 0. -/
def vec_Zero_s0 (κ0 : (List RT) → Int → Int → Option ((List RT) × Unit)) (out : List RT) (t10 : Int) (t11 : Int) : Option ((List RT) × Unit) :=
  cond (decide (t11 < t10))
    (
      (S.ratio_Zero (())).bind fun z4 =>
      cond (decide (0 ≤ t11))
        (
          cond (decide (t11 < (out.length : Int)))
            (
              κ0 (out.set t11.toNat ((z4.1.1.1, z4.1.1.2.1, ()), z4.1.2.1, ())) t10 (IntKind.i64.wrap (t11 + 1))) none) none) (some (out, ()))

def vec_Zero_l0 (K : Nat) : Nat → (List RT) → Int → Int → Option ((List RT) × Unit)
  | 0, _, _, _ => none
  | n + 1, out, t10, t11 => vec_Zero_s0 (vec_Zero_l0 K n) out t10 t11

/-- vec.Zero -/
def vec_Zero_b (I0 : (List RT) → Int → Int → Option ((List RT) × Unit)) (n : Int) : Option ((List RT) × Unit) :=
  cond (decide (0 ≤ (min (max n 0) 16)))
    (
      cond (decide ((min (max n 0) 16) * 56 ≤ 140737488351232))
        (
          let z3 := (List.replicate (min (max n 0) 16).toNat ((false, ([], ())), ([], ())) : List RT)
          I0 z3 (z3.length : Int) 0) none) none

def vec_Zero (K : Nat) (n : Int) : Option ((List RT) × Unit) := vec_Zero_b (vec_Zero_l0 K K) n

def S.vec_Zero (x : Int × Unit) : Option (List RT × Unit) := L.vec_Zero 100 x.1
theorem Vx_set {β : Type} {n i : Nat} {g : Nat → β} {x : β} (hi : i < n) : (Vx n g).set i x = Vx n (fun j => if j = i then x else g j) := by
  apply List.ext_getElem
  · rw [List.length_set, Vx_len, Vx_len]
  · intro j h1 h2
    simp only [Vx, List.getElem_set, List.getElem_map, List.getElem_range]
    by_cases h : i = j
    · subst h; simp
    · rw [if_neg h, if_neg (by omega)]
abbrev ZR := List RT × List (List RT) × Unit
/-- A set of ratios: what its numbers are. -/
def inZ (z : ZR) : Prop := (∀ d ∈ z.1, inR d) ∧ ∀ l ∈ z.2.1, ∀ d ∈ l, inR d
theorem inZ_get {z : ZR} (h : inZ z) {i : Nat} (hi : i < ([z.1] ++ z.2.1).length) : ∀ d ∈ ([z.1] ++ z.2.1).getD i [], inR d := by
  have : ([z.1] ++ z.2.1).getD i [] ∈ [z.1] ++ z.2.1 := by
    rw [List.getD_eq_getElem?_getD, List.getElem?_eq_getElem hi, Option.getD_some]
    exact List.getElem_mem hi
  rw [List.mem_append, List.mem_singleton] at this
  rcases this with h1 | h1
  · rw [h1]; exact h.1
  · exact h.2 _ h1
/-- The lists of a set, all at once. -/
theorem rows_of {z : ZR} {n m : Nat} {Q : (Nat → Rat) → Prop} (hm : z.2.1.length = m) (h : ∀ i < m + 1, ∃ q : Nat → Rat, ([z.1] ++ z.2.1).getD i [] = Rx n q ∧ Q q) : ∃ (q0 : Nat → Rat) (q : Nat → Nat → Rat), z = (Rx n q0, Vx m (fun k => Rx n (q k)), ()) ∧ Q q0 ∧ ∀ k < m, Q (q k) := by
  obtain ⟨q0, e0, h0⟩ := h 0 (by omega)
  have h' : ∀ k, ∃ q : Nat → Rat, k < m → z.2.1.getD k [] = Rx n q ∧ Q q := by
    intro k
    by_cases hk : k < m
    · obtain ⟨q, h1, h2⟩ := h (k + 1) (by omega)
      exact ⟨q, fun _ => ⟨h1, h2⟩⟩
    · exact ⟨fun _ => 0, fun h => absurd h hk⟩
  refine ⟨q0, fun k => (h' k).choose, ?_, h0, fun k hk => ((h' k).choose_spec hk).2⟩
  obtain ⟨a, l, u⟩ := z
  simp only at hm h' ⊢
  have e1 := Vx_of l []
  rw [hm, Vx_congr (fun i hi => ((h' i).choose_spec hi).1)] at e1
  have e2 : a = Rx n q0 := e0
  rw [e2]
  exact congrArg (fun y => (Rx n q0, y, ())) e1
end Go.L

/-! BF -/
namespace Go.L
open Go.PM
set_option exponentiation.threshold 20000
set_option linter.unusedVariables false
set_option linter.unusedSimpArgs false

/-- zono.Point -/
def zono_Point (n : Int) : Option (ZN × Unit) :=
  cond (decide (0 ≤ (min (max n 0) 16)))
    (
      cond (decide ((min (max n 0) 16) * 40 ≤ 140737488351232))
        (
          cond (decide (0 ≤ (min (max n 0) 16)))
            (
              cond (decide ((min (max n 0) 16) * 40 ≤ 140737488351232))
                (
                  some (((List.replicate (min (max n 0) 16).toNat ((false, ([], ())), (0, ())) : List DY), [], (List.replicate (min (max n 0) 16).toNat ((false, ([], ())), (0, ())) : List DY), ()), ())) none) none) none) none

def S.zono_Point (x : Int × Unit) : Option (ZN × Unit) := L.zono_Point x.1
end Go.L
