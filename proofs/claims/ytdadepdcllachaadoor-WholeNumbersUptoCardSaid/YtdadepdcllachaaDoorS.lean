/-
  sets: what is kept of ratios; boxes of sets. sets and their boxes go as far as each other along the places. sets and their boxes go as far as each other along the places: the law.
  No condition beyond those that each theorem names.
-/
import Derived.Test.YtdadepdcllachaaDoorR

/-! BD -/
namespace Go.L
open Go.PM
set_option exponentiation.threshold 20000
set_option linter.unusedVariables false
set_option linter.unusedSimpArgs false

theorem nr_gap {q : Rat} {b B : Nat} (hb : 60 ≤ b) (h : qabs q ≤ 2048) (hB : nsh q b ≤ B) : dv (nr true q b B) (-(B : Int)) - dv (nr false q b B) (-(B : Int)) ≤ 1 / 140737488355328 := by
  by_cases h0 : q = 0
  · unfold nr; rw [if_pos h0, if_pos h0, dv_zero]; decide +kernel
  · have g := nz_gap (q := q) (b := b) (by omega)
    rw [nr_dv h0 hB, nr_dv h0 hB]
    unfold nz ne at g
    rw [if_neg h0, if_neg h0, if_neg h0] at g
    have hp : (2 : Int) ^ 58 ≤ 2 ^ (b - 2) := int_pow_le (by omega)
    have hp' : ((2 ^ 58 : Int) : Rat) ≤ ((2 ^ (b - 2) : Int) : Rat) := Rat.intCast_le_intCast.2 hp
    have h58 : ((2 ^ 58 : Int) : Rat) = 288230376151711744 := by decide +kernel
    rw [h58] at hp'
    by_cases hd : 0 ≤ dv (rnd true (nq true q b) b) (-nsh q b) - dv (rnd false (nq false q b) b) (-nsh q b)
    · have := Rat.mul_le_mul_of_nonneg_left hp' hd
      grind
    · grind
theorem nrs_in {n : Nat} {q : Nat → Rat} {b B j : Nat} (hq : ∀ i < n, big (q i) j) (hB : b + 32 * j + 1 ≤ B) : ∀ i < n, dv (nrs q b B i).1 (-(B : Int)) ≤ q i ∧ q i ≤ dv (nrs q b B i).2 (-(B : Int)) := fun i hi => by
  have := nsh_le (b := b) (hq i hi)
  exact ⟨nr_lo (by omega), nr_hi (by omega)⟩
theorem nrs_near {n : Nat} {q : Nat → Rat} {b B j : Nat} (hb : 60 ≤ b) (hq : ∀ i < n, big (q i) j) (hB : b + 32 * j + 1 ≤ B) (h : ∀ i < n, qabs (q i) ≤ 2048) : nq' (nrs q b B) q (-(B : Int)) n := fun i hi => by
  have hs := nsh_le (b := b) (hq i hi)
  have h1 := nrs_in (b := b) hq hB i hi
  have h2 := nr_gap hb (h i hi) (show nsh (q i) b ≤ B by omega)
  exact ⟨h1, ⟨by grind, by grind⟩, h i hi⟩
theorem dv_half (x e : Int) : dv x (e - 1) + dv x (e - 1) = dv x e := by
  rw [← dv_add, show x + x = x * 2 by omega, dv_dbl]
theorem mo_ge {f : Nat → Int × Int} {q : Rat} {e : Int} {b i : Nat} (h1 : dv (f i).1 e ≤ q) (h2 : q ≤ dv (f i).2 e) : qabs (q - dv (md f b i) (e - 1)) ≤ dv (mo f b i) (e - 1) := by
  have a1 := (dv_le (e := e - 1)).2 (rdn_le ((f i).1 * 2 - md f b i) b)
  have a2 := (dv_le (e := e - 1)).2 (rup_ge ((f i).2 * 2 - md f b i) b)
  rw [dv_sub, dv_dbl] at a1 a2
  exact qabs_le (by grind) (by grind)
theorem md_near {f : Nat → Int × Int} {q : Rat} {e : Int} {b i : Nat} (hb : 60 ≤ b) (h1 : dv (f i).1 e ≤ q) (h2 : q ≤ dv (f i).2 e) (h3 : q - 1 / 140737488355328 ≤ dv (f i).1 e) (h4 : dv (f i).2 e ≤ q + 1 / 140737488355328) (hq : qabs q ≤ 2048) : qabs (dv (md f b i) (e - 1) - q) ≤ 1 / 268435456 ∧ dv (mo f b i) (e - 1) ≤ 1 / 134217728 := by
  have aq := qabs_ge q
  have s1 := dv_half (f i).1 e
  have s2 := dv_half (f i).2 e
  have m1 := rdn_near (x := (f i).1 + (f i).2) (e := e - 1) hb (by rw [dv_add]; exact qabs_le' (by grind) (by grind))
  have m2 := (dv_le (e := e - 1)).2 (rdn_le ((f i).1 + (f i).2) b)
  rw [dv_add] at m1 m2
  have hm : rdn ((f i).1 + (f i).2) b = md f b i := rfl
  rw [hm] at m1 m2
  have r1 := rdn_near (x := (f i).1 * 2 - md f b i) (e := e - 1) hb (by rw [dv_sub, dv_dbl]; exact qabs_le' (by grind) (by grind))
  have r2 := rup_near (x := (f i).2 * 2 - md f b i) (e := e - 1) hb (by rw [dv_sub, dv_dbl]; exact qabs_le' (by grind) (by grind))
  have a1 := (dv_le (e := e - 1)).2 (rdn_le ((f i).1 * 2 - md f b i) b)
  have a2 := (dv_le (e := e - 1)).2 (rup_ge ((f i).2 * 2 - md f b i) b)
  rw [dv_sub, dv_dbl] at r1 r2 a1 a2
  refine ⟨qabs_le' (by grind) (by grind), ?_⟩
  unfold mo
  rw [dv_max, dv_abs, dv_abs]
  have b1 : qabs (dv (rdn ((f i).1 * 2 - md f b i) b) (e - 1)) ≤ 1 / 134217728 := qabs_le' (by grind) (by grind)
  have b2 : qabs (dv (rup ((f i).2 * 2 - md f b i) b) (e - 1)) ≤ 1 / 134217728 := qabs_le' (by grind) (by grind)
  grind
theorem zr_ge {q0 : Nat → Rat} {q : Nat → Nat → Rat} {b B i : Nat} {e : Int} : ∀ k, dv (mo (nrs q0 b B) b i) e + sumQ (fun k => dv (mo (nrs (q k) b B) b i) e) k ≤ dv (zr q0 q b B k i) e
  | 0 => by simp only [sumQ, zr]; grind
  | k + 1 => by
    have h1 := zr_ge (q0 := q0) (q := q) (b := b) (B := B) (i := i) (e := e) k
    have h2 := (dv_le (e := e)).2 (rup_ge (zr q0 q b B k i + mo (nrs (q k) b B) b i) b)
    rw [dv_add] at h2
    simp only [sumQ, zr]; grind
theorem zr_near {q0 : Nat → Rat} {q : Nat → Nat → Rat} {b B i m : Nat} {e : Int} (hb : 60 ≤ b) (hm : m ≤ 6) (h0 : dv (mo (nrs q0 b B) b i) e ≤ 1 / 134217728) (h : ∀ k < m, dv (mo (nrs (q k) b B) b i) e ≤ 1 / 134217728) : ∀ k ≤ m, dv (zr q0 q b B k i) e ≤ 1 / 67108864 + sumQ (fun _ => 1 / 67108864) k
  | 0, _ => by simp only [sumQ, zr]; grind
  | k + 1, hk => by
    have h1 := zr_near hb hm h0 h k (by omega)
    have h2 := h k (by omega)
    have s := sumC (a := 1 / 67108864) (by decide +kernel) k (by omega)
    have p1 := (dv_le (e := e)).2 (zr_pos q0 q b B i k)
    have p2 := (dv_le (e := e)).2 (mo_pos (nrs (q k) b B) b i)
    rw [dv_zero] at p1 p2
    have r := rup_near (x := zr q0 q b B k i + mo (nrs (q k) b B) b i) (e := e) hb (by rw [dv_add]; exact qabs_le' (by grind) (by grind))
    rw [dv_add] at r
    simp only [sumQ, zr]; grind
/-- How far a set goes at one place, both ways. -/
def Sq (r : Nat → Rat) (g : Nat → Nat → Rat) (m i : Nat) : Rat := r i + sumQ (fun k => qabs (g k i)) m
theorem zw_ge {r : Nat → Int} {g : Nat → Nat → Int} {b i : Nat} {e : Int} (hr : 0 ≤ r i) : ∀ k, dv (zw r g b i k).1 e ≤ -Sq (fun i => dv (r i) e) (fun k i => dv (g k i) e) k i ∧ Sq (fun i => dv (r i) e) (fun k i => dv (g k i) e) k i ≤ dv (zw r g b i k).2 e
  | 0 => by
    unfold Sq
    simp only [sumQ, zw]
    rw [dv_neg, show ((r i).natAbs : Int) = r i by omega]; grind
  | k + 1 => by
    obtain ⟨h1, h2⟩ := zw_ge (g := g) (b := b) (e := e) hr k
    have h3 := (dv_le (e := e)).2 (rdn_le ((zw r g b i k).1 + -((g k i).natAbs : Int)) b)
    have h4 := (dv_le (e := e)).2 (rup_ge ((zw r g b i k).2 + ((g k i).natAbs : Int)) b)
    rw [dv_add, dv_neg, dv_abs] at h3
    rw [dv_add, dv_abs] at h4
    unfold Sq at h1 h2 ⊢
    simp only [sumQ, zw]
    grind
theorem zbx_ge {c r : Nat → Int} {g : Nat → Nat → Int} {b m i : Nat} {e : Int} (hr : 0 ≤ r i) : dv (zbx c r g b m i).1 e ≤ dv (c i) e - Sq (fun i => dv (r i) e) (fun k i => dv (g k i) e) m i ∧ dv (c i) e + Sq (fun i => dv (r i) e) (fun k i => dv (g k i) e) m i ≤ dv (zbx c r g b m i).2 e := by
  obtain ⟨h1, h2⟩ := zw_ge (g := g) (b := b) (e := e) hr m
  have h3 := (dv_le (e := e)).2 (rdn_le ((zw r g b i m).1 + c i) b)
  have h4 := (dv_le (e := e)).2 (rup_ge ((zw r g b i m).2 + c i) b)
  rw [dv_add] at h3 h4
  unfold zbx
  grind
theorem zw_near {r : Nat → Int} {g : Nat → Nat → Int} {b i m : Nat} {e : Int} (hb : 60 ≤ b) (hm : m ≤ 6) (hr : 0 ≤ r i) (hr' : dv (r i) e ≤ 16384) (hg : ∀ k < m, qabs (dv (g k i) e) ≤ 2048) : ∀ k ≤ m, -Sq (fun i => dv (r i) e) (fun k i => dv (g k i) e) k i - sumQ (fun _ => 1 / 536870912) k ≤ dv (zw r g b i k).1 e ∧ dv (zw r g b i k).2 e ≤ Sq (fun i => dv (r i) e) (fun k i => dv (g k i) e) k i + sumQ (fun _ => 1 / 536870912) k ∧ 0 ≤ Sq (fun i => dv (r i) e) (fun k i => dv (g k i) e) k i ∧ Sq (fun i => dv (r i) e) (fun k i => dv (g k i) e) k i ≤ 16384 + sumQ (fun _ => 2048) k
  | 0, _ => by
    have p1 := (dv_le (e := e)).2 hr
    rw [dv_zero] at p1
    unfold Sq
    simp only [sumQ, zw]
    rw [dv_neg, show ((r i).natAbs : Int) = r i by omega]; grind
  | k + 1, hk => by
    obtain ⟨h1, h2, h5, h6⟩ := zw_near hb hm hr hr' hg k (by omega)
    obtain ⟨l1, l2⟩ := zw_ge (g := g) (b := b) (e := e) hr k
    have hg1 := hg k (by omega)
    have a := qabs_pos (dv (g k i) e)
    have s := sumC (a := 1 / 536870912) (by decide +kernel) k (by omega)
    have s2 := sumC (a := 2048) (by decide +kernel) k (by omega)
    have r1 := rdn_near (x := (zw r g b i k).1 + -((g k i).natAbs : Int)) (e := e) hb (by rw [dv_add, dv_neg, dv_abs]; exact qabs_le' (by grind) (by grind))
    have r2 := rup_near (x := (zw r g b i k).2 + ((g k i).natAbs : Int)) (e := e) hb (by rw [dv_add, dv_abs]; exact qabs_le' (by grind) (by grind))
    rw [dv_add, dv_neg, dv_abs] at r1
    rw [dv_add, dv_abs] at r2
    unfold Sq at h1 h2 h5 h6 l1 l2 ⊢
    simp only [sumQ, zw]
    grind
theorem zbx_near {c r : Nat → Int} {g : Nat → Nat → Int} {b m i : Nat} {e : Int} (hb : 60 ≤ b) (hm : m ≤ 6) (hc : qabs (dv (c i) e) ≤ 2048) (hr : 0 ≤ r i) (hr' : dv (r i) e ≤ 16384) (hg : ∀ k < m, qabs (dv (g k i) e) ≤ 2048) : dv (c i) e - Sq (fun i => dv (r i) e) (fun k i => dv (g k i) e) m i - 7 / 536870912 ≤ dv (zbx c r g b m i).1 e ∧ dv (zbx c r g b m i).2 e ≤ dv (c i) e + Sq (fun i => dv (r i) e) (fun k i => dv (g k i) e) m i + 7 / 536870912 ∧ 0 ≤ Sq (fun i => dv (r i) e) (fun k i => dv (g k i) e) m i ∧ Sq (fun i => dv (r i) e) (fun k i => dv (g k i) e) m i ≤ 28672 := by
  obtain ⟨h1, h2, h5, h6⟩ := zw_near (b := b) hb hm hr hr' hg m (Nat.le_refl _)
  obtain ⟨l1, l2⟩ := zw_ge (g := g) (b := b) (e := e) hr m
  have s := (sumC (a := 1 / 536870912) (by decide +kernel) m hm).2.1
  have s2 := (sumC (a := 2048) (by decide +kernel) m hm).2.1
  have ac := qabs_ge (dv (c i) e)
  have r1 := rdn_near (x := (zw r g b i m).1 + c i) (e := e) hb (by rw [dv_add]; exact qabs_le' (by grind) (by grind))
  have r2 := rup_near (x := (zw r g b i m).2 + c i) (e := e) hb (by rw [dv_add]; exact qabs_le' (by grind) (by grind))
  rw [dv_add] at r1 r2
  unfold zbx
  exact ⟨by grind, by grind, h5, by grind⟩
/-- The most a set's box goes in a direction. -/
def Tb (c s : Nat → Rat) (q : Nat → Rat) (n : Nat) : Rat := sumQ (fun i => c i * q i + s i * qabs (q i)) n
theorem bsup_ge {n : Nat} {f d : Nat → Int × Int} {c s q : Nat → Rat} {e e' : Int} {b : Nat} (hf : ∀ i < n, dv (f i).1 e ≤ c i - s i ∧ c i + s i ≤ dv (f i).2 e ∧ 0 ≤ s i) (hq : ∀ i < n, dv (d i).1 e' ≤ q i ∧ q i ≤ dv (d i).2 e') : Tb c s q n ≤ dv (inn f d b n).2 (e + e') := by
  have h := (inn_sum (f := f) (x := fun i => if 0 ≤ q i then (f i).2 else (f i).1) (q := q) (e := e) (b := b) (n := n) (fun i hi => by
    obtain ⟨h1, h2, h3⟩ := hf i hi
    have : (f i).1 ≤ (f i).2 := (dv_le (e := e)).1 (by grind)
    show (f i).1 ≤ (if 0 ≤ q i then (f i).2 else (f i).1) ∧ (if 0 ≤ q i then (f i).2 else (f i).1) ≤ (f i).2
    split <;> omega) hq n (Nat.le_refl _)).2
  refine Rat.le_trans (sumQ_le fun i hi => ?_) h
  obtain ⟨h1, h2, h3⟩ := hf i hi
  show c i * q i + s i * qabs (q i) ≤ dv (if 0 ≤ q i then (f i).2 else (f i).1) e * q i
  by_cases hp : 0 ≤ q i
  · rw [if_pos hp, qabs_of hp]
    have := Rat.mul_le_mul_of_nonneg_right h2 hp
    grind
  · rw [if_neg hp, ← qabs_neg, qabs_of (show 0 ≤ -q i by grind)]
    have := Rat.mul_le_mul_of_nonneg_right h1 (show 0 ≤ -q i by grind)
    grind
theorem Tq_le_Tb {c r : Nat → Rat} {g : Nat → Nat → Rat} {q : Nat → Rat} {n m : Nat} : Tq c r g q n m ≤ Tb c (Sq r g m) q n := by
  have h1 : sumQ (fun k => qabs (sumQ (fun i => g k i * q i) n)) m ≤ sumQ (fun k => sumQ (fun i => qabs (g k i) * qabs (q i)) n) m := sumQ_le fun k _ => by
    refine Rat.le_trans (sumQ_abs n) ?_
    rw [sumQ_congr fun i _ => qabs_mul (g k i) (q i)]
    exact Rat.le_refl
  have h2 : Tb c (Sq r g m) q n = sumQ (fun i => c i * q i) n + (sumQ (fun i => r i * qabs (q i)) n + sumQ (fun i => sumQ (fun k => qabs (g k i) * qabs (q i)) m) n) := by
    rw [← sumQ_add, ← sumQ_add]
    unfold Tb Sq
    refine sumQ_congr fun i _ => ?_
    have := sumQ_mul (f := fun k => qabs (g k i)) (qabs (q i)) m
    rw [sumQ_congr (f := fun k => qabs (g k i) * qabs (q i)) (g := fun k => qabs (q i) * qabs (g k i)) fun k _ => Rat.mul_comm _ _]
    grind
  rw [h2, sumQ_comm]
  unfold Tq
  grind
end Go.L

/-! BE -/
namespace Go.L
open Go.PM
set_option exponentiation.threshold 20000
set_option linter.unusedVariables false
set_option linter.unusedSimpArgs false

/-- vec_Check: one round of loop 0. -/
def vec_Check_s0 (κ0 : (List ((Bool × (List Int) × Unit) × (List Int) × Unit)) → Int → Int → Option (Int × Unit)) (t20 : List ((Bool × (List Int) × Unit) × (List Int) × Unit)) (t21 : Int) (t22 : Int) : Option (Int × Unit) :=
  cond (decide (t22 < t21))
    (
      cond (decide (0 ≤ t22))
        (
          cond (decide (t22 < (t20.length : Int)))
            (
              let z1 := t20.getD t22.toNat ((false, ([], ())), ([], ()))
              (S.ratio_Check (((z1.1.1, z1.1.2.1, ()), z1.2.1, ()), ())).bind fun z2 =>
              cond (!(decide (z2.1 = 0))) (some (z2.1, ())) (κ0 t20 t21 (IntKind.i64.wrap (t22 + 1)))) none) none) (some (0, ()))

def vec_Check_l0 (K : Nat) : Nat → (List ((Bool × (List Int) × Unit) × (List Int) × Unit)) → Int → Int → Option (Int × Unit)
  | 0, _, _, _ => none
  | n + 1, t20, t21, t22 => vec_Check_s0 (vec_Check_l0 K n) t20 t21 t22

/-- vec.Check -/
def vec_Check_b (I0 : (List ((Bool × (List Int) × Unit) × (List Int) × Unit)) → Int → Int → Option (Int × Unit)) (a : List ((Bool × (List Int) × Unit) × (List Int) × Unit)) (n : Int) : Option (Int × Unit) :=
  cond (decide (n < 0)) (some (20, ()))
    (
      cond (decide (16 < n)) (some (20, ()))
        (
          cond (!(decide ((a.length : Int) = n))) (some (20, ())) (I0 a (a.length : Int) 0)))

def vec_Check (K : Nat) (a : List ((Bool × (List Int) × Unit) × (List Int) × Unit)) (n : Int) : Option (Int × Unit) := vec_Check_b (vec_Check_l0 K K) a n

def S.vec_Check (x : List RT × Int × Unit) : Option (Int × Unit) := L.vec_Check 100 x.1 x.2.1
theorem vec_Check_in {l : List RT} {n : Nat} (hn : n ≤ 16) (h : ∀ d ∈ l, inR d) : (∃ c, c ≠ 0 ∧ S.vec_Check (l, (n : Int), ()) = some (c, ())) ∨ (S.vec_Check (l, (n : Int), ()) = some (0, ()) ∧ ∃ q : Nat → Rat, l = Rx n q ∧ ∀ i < n, big (q i) 512) := by
  simp only [S.vec_Check, L.vec_Check, vec_Check_b]
  rw [cf (by omega), cf (by omega)]
  by_cases hl : (l.length : Int) = n
  · rw [decide_eq_true hl]
    simp only [Bool.not_true, cond_false]
    have hl' : l.length = n := by omega
    subst hl'
    rcases loop_or l.length (fun _ => ()) (fun k s i => vec_Check_l0 100 k l (l.length : Int) i) (fun r => ∃ c, c ≠ 0 ∧ r = some (c, ())) (fun i => ∃ q : Rat, l.getD i rt0 = R q ∧ big q 512) (fun k i hk hi => by
      simp only [vec_Check_l0, vec_Check_s0]
      rw [ct (by omega), ct (by omega), ct (by omega), Int.toNat_natCast]
      have hin := inR_get h hi
      generalize hx : l.getD i ((false, ([], ())), ([], ())) = x
      have hx' : l.getD i rt0 = x := hx
      rw [hx'] at hin
      rcases ratio_Check_in hin with ⟨c, c0, e⟩ | ⟨e, q, hq, hq2⟩
      · right; rw [show S.ratio_Check _ = _ from e, Option.bind_some]; simp only; rw [decide_eq_false c0]; exact ⟨c, c0, rfl⟩
      rw [show S.ratio_Check _ = _ from e, Option.bind_some]
      simp only [decide_true, Bool.not_true, cond_false]
      left; rw [wi1 (by omega)]; exact ⟨rfl, q, hq, hq2⟩) 100 (by omega) with h | ⟨k, e2, h⟩
    · exact .inl h
    right
    have e3 : vec_Check_l0 100 100 l (l.length : Int) 0 = _ := e2
    rw [e3]
    simp only [vec_Check_l0, vec_Check_s0]
    rw [cf (by omega)]
    exact ⟨rfl, Vx_rt h⟩
  · rw [decide_eq_false hl]
    exact .inl ⟨20, by decide, rfl⟩
/-- vec_Zero: one round of loop 0. -/
def vec_Zero_s0 (κ0 : (List ((Bool × (List Int) × Unit) × (List Int) × Unit)) → Int → Int → Option ((List ((Bool × (List Int) × Unit) × (List Int) × Unit)) × Unit)) (out : List ((Bool × (List Int) × Unit) × (List Int) × Unit)) (t10 : Int) (t11 : Int) : Option ((List ((Bool × (List Int) × Unit) × (List Int) × Unit)) × Unit) :=
  cond (decide (t11 < t10))
    (
      (S.ratio_Zero (())).bind fun z4 =>
      cond (decide (0 ≤ t11))
        (
          cond (decide (t11 < (out.length : Int)))
            (
              κ0 (out.set t11.toNat ((z4.1.1.1, z4.1.1.2.1, ()), z4.1.2.1, ())) t10 (IntKind.i64.wrap (t11 + 1))) none) none) (some (out, ()))

def vec_Zero_l0 (K : Nat) : Nat → (List ((Bool × (List Int) × Unit) × (List Int) × Unit)) → Int → Int → Option ((List ((Bool × (List Int) × Unit) × (List Int) × Unit)) × Unit)
  | 0, _, _, _ => none
  | n + 1, out, t10, t11 => vec_Zero_s0 (vec_Zero_l0 K n) out t10 t11

/-- vec.Zero -/
def vec_Zero_b (I0 : (List ((Bool × (List Int) × Unit) × (List Int) × Unit)) → Int → Int → Option ((List ((Bool × (List Int) × Unit) × (List Int) × Unit)) × Unit)) (n : Int) : Option ((List ((Bool × (List Int) × Unit) × (List Int) × Unit)) × Unit) :=
  cond (decide (0 ≤ (min (max n 0) 16)))
    (
      cond (decide ((min (max n 0) 16) * 56 ≤ 140737488351232))
        (
          let z3 := (List.replicate (min (max n 0) 16).toNat ((false, ([], ())), ([], ())) : List ((Bool × (List Int) × Unit) × (List Int) × Unit))
          I0 z3 (z3.length : Int) 0) none) none

def vec_Zero (K : Nat) (n : Int) : Option ((List ((Bool × (List Int) × Unit) × (List Int) × Unit)) × Unit) := vec_Zero_b (vec_Zero_l0 K K) n

def S.vec_Zero (x : Int × Unit) : Option (List RT × Unit) := L.vec_Zero 100 x.1
theorem vec_Zero_R {n : Nat} (hn : n ≤ 16) : S.vec_Zero ((n : Int), ()) = some (Rx n (fun _ => 0), ()) := by
  simp only [S.vec_Zero, L.vec_Zero, vec_Zero_b]
  rw [show min (max (n : Int) 0) 16 = n by omega, ct (by omega), ct (by omega), List.length_replicate, Int.toNat_natCast, ← Gx_zero n _ (fun _ => R 0)]
  refine loop_up n (Gx n _ (fun _ => R 0)) (fun k s i => vec_Zero_l0 100 k s (n : Int) i) _ (fun k' i hi => ?_) (fun k => ?_) 100 (by omega)
  · simp only [vec_Zero_l0, vec_Zero_s0, Gx_len]
    rw [ct (by omega), show S.ratio_Zero _ = _ from ratio_Zero_R, Option.bind_some, ct (by omega), ct (by omega), wi1 (by omega)]
    exact congrArg (fun s => vec_Zero_l0 100 k' s (n : Int) ((i + 1 : Nat) : Int)) (Gx_set ((false, ([], ())), ([], ())) (fun _ => R 0) hi)
  · simp only [vec_Zero_l0, vec_Zero_s0]
    rw [cf (by omega), Gx_full]
theorem Vx_set {β : Type} {n i : Nat} {g : Nat → β} {x : β} (hi : i < n) : (Vx n g).set i x = Vx n (fun j => if j = i then x else g j) := by
  apply List.ext_getElem
  · rw [List.length_set, Vx_len, Vx_len]
  · intro j h1 h2
    simp only [Vx, List.getElem_set, List.getElem_map, List.getElem_range]
    by_cases h : i = j
    · subst h; simp
    · rw [if_neg h, if_neg (by omega)]
theorem qabs_int (z : Int) : qabs (z : Rat) = ((z.natAbs : Int) : Rat) := by
  have := dv_abs z 0
  unfold dv at this
  rw [Rat.zpow_zero, Rat.mul_one, Rat.mul_one] at this
  exact this.symm
theorem bsup_near {n : Nat} {f d : Nat → Int × Int} {c s q : Nat → Rat} {e e' : Int} {b : Nat} (hb : 60 ≤ b) (hn : n ≤ 4) (hf : ∀ i < n, (c i - s i - 7 / 536870912 ≤ dv (f i).1 e ∧ dv (f i).2 e ≤ c i + s i + 7 / 536870912) ∧ (dv (f i).1 e ≤ c i - s i ∧ c i + s i ≤ dv (f i).2 e ∧ 0 ≤ s i) ∧ s i ≤ 28672 ∧ qabs (c i) ≤ 2048) (hd : nq' d q e' n) (hq : ∀ i < n, qabs (q i) ≤ 1) : ∀ i ≤ n, dv (inn f d b i).2 (e + e') ≤ Tb c s q i + sumQ (fun _ => 1 / 33554432) i ∧ qabs (Tb c s q i) ≤ sumQ (fun _ => 32768) i
  | 0, _ => by unfold Tb; simp only [inn, sumQ, dv_zero]; exact ⟨by decide +kernel, by decide +kernel⟩
  | i + 1, h => by
    obtain ⟨i1, i3⟩ := bsup_near hb hn hf hd hq i (by omega)
    obtain ⟨⟨q1, q2⟩, ⟨q3, q4⟩, q5⟩ := hd i (by omega)
    obtain ⟨⟨f1, f2⟩, ⟨f3, f4, f5⟩, f6, f7⟩ := hf i (by omega)
    have hq1 := hq i (by omega)
    have low := bsup_ge (b := b) (e := e) (e' := e') (n := i) (fun j hj => (hf j (by omega)).2.1) (fun j hj => (hd j (by omega)).1)
    have ac := qabs_ge (c i)
    have aq := qabs_ge (q i)
    have pq := qabs_pos (q i)
    have pr : ∀ x l : Rat, c i - s i - 7 / 536870912 ≤ x → x ≤ c i + s i + 7 / 536870912 → q i - 1 / 140737488355328 ≤ l → l ≤ q i + 1 / 140737488355328 → x * l ≤ c i * q i + s i * qabs (q i) + 1 / 67108864 ∧ qabs (x * l) ≤ 65536 := by
      intro x l x1 x2 l1 l2
      have hx : qabs x ≤ 32768 := qabs_le' (by grind) (by grind)
      have hl : qabs (l - q i) ≤ 1 / 140737488355328 := qabs_le' (by grind) (by grind)
      have hl2 : qabs l ≤ 2 := qabs_le' (by grind) (by grind)
      have m1 := qmul_le hx hl (qabs_pos _) (by decide +kernel)
      have m2 := qmul_le hx hl2 (qabs_pos _) (by decide +kernel)
      have hxc : qabs (x - c i) ≤ s i + 7 / 536870912 := qabs_le' (by grind) (by grind)
      have m3 := Rat.mul_le_mul_of_nonneg_right hxc pq
      rw [← qabs_mul] at m1 m2 m3
      have a1 := qabs_ge (x * (l - q i))
      have a2 := qabs_ge ((x - c i) * q i)
      have c1 : (32768 : Rat) * (1 / 140737488355328) = 1 / 4294967296 := by decide +kernel
      have c2 : (32768 : Rat) * 2 = 65536 := by decide +kernel
      exact ⟨by grind, by grind⟩
    have flo : dv (f i).1 e ≤ c i + s i + 7 / 536870912 := by grind
    have fhi : c i - s i - 7 / 536870912 ≤ dv (f i).2 e := by grind
    have dlo : dv (d i).1 e' ≤ q i + 1 / 140737488355328 := by grind
    have dhi : q i - 1 / 140737488355328 ≤ dv (d i).2 e' := by grind
    have mh : dv (mhi (f i).1 (f i).2 (d i).1 (d i).2) (e + e') ≤ c i * q i + s i * qabs (q i) + 1 / 67108864 ∧ qabs (dv (mhi (f i).1 (f i).2 (d i).1 (d i).2) (e + e')) ≤ 65536 := by
      rcases mhi_is (f i).1 (f i).2 (d i).1 (d i).2 with w | w | w | w <;> rw [w, dv_mul]
      · exact pr _ _ f1 flo q3 dlo
      · exact pr _ _ f1 flo dhi q4
      · exact pr _ _ fhi f2 q3 dlo
      · exact pr _ _ fhi f2 dhi q4
    have s1 := (sumC (a := 1 / 33554432) (by decide +kernel) i (by omega)).2.2 (by omega)
    have s2 := (sumC (a := 32768) (by decide +kernel) i (by omega)).2.2 (by omega)
    have a2 := qabs_ge (Tb c s q i)
    have a3 := qabs_ge (dv (mhi (f i).1 (f i).2 (d i).1 (d i).2) (e + e'))
    have r1 := rup_near (x := mhi (f i).1 (f i).2 (d i).1 (d i).2) (e := e + e') hb (by grind)
    have r1' := (dv_le (e := e + e')).2 (rup_ge (mhi (f i).1 (f i).2 (d i).1 (d i).2) b)
    have r3 := rup_near (x := (inn f d b i).2 + rup (mhi (f i).1 (f i).2 (d i).1 (d i).2) b) (e := e + e') hb (by rw [dv_add]; exact qabs_le' (by grind) (by grind))
    rw [dv_add] at r3
    have v1 : qabs (c i * q i + s i * qabs (q i)) ≤ 32768 := by
      have m1 := qmul_le f7 hq1 pq (by decide +kernel)
      have m2 := qmul_le f6 hq1 pq (by decide +kernel)
      have m3 := Rat.mul_nonneg f5 pq
      rw [← qabs_mul] at m1
      have a1 := qabs_ge (c i * q i)
      exact qabs_le' (by grind) (by grind)
    have t3 := qabs_add (Tb c s q i) (c i * q i + s i * qabs (q i))
    have hT : Tb c s q (i + 1) = Tb c s q i + (c i * q i + s i * qabs (q i)) := rfl
    rw [hT]
    simp only [inn, sumQ]
    exact ⟨by grind, by grind⟩
theorem sumQ_one {f : Nat → Rat} {i : Nat} : ∀ {n : Nat}, i < n → (∀ j < n, j ≠ i → f j = 0) → sumQ f n = f i
  | 0, h, _ => by omega
  | n + 1, h, h0 => by
    simp only [sumQ]
    by_cases hi : i = n
    · subst hi
      rw [sumQ_zero fun j hj => h0 j (by omega) (by omega)]; grind
    · rw [sumQ_one (show i < n by omega) fun j hj hji => h0 j (by omega) hji, h0 n (by omega) (fun h => hi h.symm)]; grind
theorem Tb_unit {c r : Nat → Rat} {g : Nat → Nat → Rat} {q : Nat → Rat} {n m i : Nat} (hi : i < n) (hq : ∀ j < n, j ≠ i → q j = 0) : Tb c (Sq r g m) q n = Tq c r g q n m := by
  have z : qabs 0 = 0 := by decide +kernel
  have e1 : Tb c (Sq r g m) q n = c i * q i + Sq r g m i * qabs (q i) := by
    unfold Tb
    refine sumQ_one (f := fun i => c i * q i + Sq r g m i * qabs (q i)) hi fun j hj hji => ?_
    show c j * q j + Sq r g m j * qabs (q j) = 0
    rw [hq j hj hji, z]; grind
  have e2 : sumQ (fun i => c i * q i) n = c i * q i := sumQ_one (f := fun i => c i * q i) hi fun j hj hji => by
    show c j * q j = 0
    rw [hq j hj hji]; grind
  have e3 : sumQ (fun i => r i * qabs (q i)) n = r i * qabs (q i) := sumQ_one (f := fun i => r i * qabs (q i)) hi fun j hj hji => by
    show r j * qabs (q j) = 0
    rw [hq j hj hji, z]; grind
  have e4 : sumQ (fun k => qabs (sumQ (fun i => g k i * q i) n)) m = qabs (q i) * sumQ (fun k => qabs (g k i)) m := by
    rw [← sumQ_mul]
    refine sumQ_congr fun k _ => ?_
    rw [sumQ_one (f := fun i => g k i * q i) hi fun j hj hji => by
      show g k j * q j = 0
      rw [hq j hj hji]; grind]
    rw [qabs_mul]; grind
  unfold Tq
  rw [e1, e2, e3, e4]
  unfold Sq
  grind
abbrev ZR := List RT × List (List RT) × Unit
/-- A set of ratios: what its numbers are. -/
def inZ (z : ZR) : Prop := (∀ d ∈ z.1, inR d) ∧ ∀ l ∈ z.2.1, ∀ d ∈ l, inR d
theorem inZ_get {z : ZR} (h : inZ z) {i : Nat} (hi : i < ([z.1] ++ z.2.1).length) : ∀ d ∈ ([z.1] ++ z.2.1).getD i [], inR d := by
  have : ([z.1] ++ z.2.1).getD i [] ∈ [z.1] ++ z.2.1 := by
    rw [List.getD_eq_getElem?_getD, List.getElem?_eq_getElem hi, Option.getD_some]
    exact List.getElem_mem hi
  rw [List.mem_append, List.mem_singleton] at this
  rcases this with h1 | h1
  · rw [h1]; exact h.1
  · exact h.2 _ h1
/-- The lists of a set, all at once. -/
theorem rows_of {z : ZR} {n m : Nat} {Q : (Nat → Rat) → Prop} (hm : z.2.1.length = m) (h : ∀ i < m + 1, ∃ q : Nat → Rat, ([z.1] ++ z.2.1).getD i [] = Rx n q ∧ Q q) : ∃ (q0 : Nat → Rat) (q : Nat → Nat → Rat), z = (Rx n q0, Vx m (fun k => Rx n (q k)), ()) ∧ Q q0 ∧ ∀ k < m, Q (q k) := by
  obtain ⟨q0, e0, h0⟩ := h 0 (by omega)
  have h' : ∀ k, ∃ q : Nat → Rat, k < m → z.2.1.getD k [] = Rx n q ∧ Q q := by
    intro k
    by_cases hk : k < m
    · obtain ⟨q, h1, h2⟩ := h (k + 1) (by omega)
      exact ⟨q, fun _ => ⟨h1, h2⟩⟩
    · exact ⟨fun _ => 0, fun h => absurd h hk⟩
  refine ⟨q0, fun k => (h' k).choose, ?_, h0, fun k hk => ((h' k).choose_spec hk).2⟩
  obtain ⟨a, l, u⟩ := z
  simp only at hm h' ⊢
  have e1 := Vx_of l []
  rw [hm, Vx_congr (fun i hi => ((h' i).choose_spec hi).1)] at e1
  have e2 : a = Rx n q0 := e0
  rw [e2]
  exact congrArg (fun y => (Rx n q0, y, ())) e1
end Go.L

/-! BF -/
namespace Go.L
open Go.PM
set_option exponentiation.threshold 20000
set_option linter.unusedVariables false
set_option linter.unusedSimpArgs false

/-- zono.Point -/
def zono_Point (n : Int) : Option (((List ((Bool × (List Int) × Unit) × Int × Unit)) × (List (List ((Bool × (List Int) × Unit) × Int × Unit))) × (List ((Bool × (List Int) × Unit) × Int × Unit)) × Unit) × Unit) :=
  cond (decide (0 ≤ (min (max n 0) 16)))
    (
      cond (decide ((min (max n 0) 16) * 40 ≤ 140737488351232))
        (
          cond (decide (0 ≤ (min (max n 0) 16)))
            (
              cond (decide ((min (max n 0) 16) * 40 ≤ 140737488351232))
                (
                  some (((List.replicate (min (max n 0) 16).toNat ((false, ([], ())), (0, ())) : List ((Bool × (List Int) × Unit) × Int × Unit)), [], (List.replicate (min (max n 0) 16).toNat ((false, ([], ())), (0, ())) : List ((Bool × (List Int) × Unit) × Int × Unit)), ()), ())) none) none) none) none

def S.zono_Point (x : Int × Unit) : Option (ZN × Unit) := L.zono_Point x.1
/-- girdletop_WholeBoxes: one round of loop 1. -/
def girdletop_WholeBoxes_s1 (κ0 : (List ((Bool × (List Int) × Unit) × (List Int) × Unit)) → (List (List ((Bool × (List Int) × Unit) × (List Int) × Unit))) → Int → (List (List ((Bool × (List Int) × Unit) × (List Int) × Unit))) → Int → Int → Option (Bool × Unit)) (κ1 : (List ((Bool × (List Int) × Unit) × (List Int) × Unit)) → (List (List ((Bool × (List Int) × Unit) × (List Int) × Unit))) → Int → (List (List ((Bool × (List Int) × Unit) × (List Int) × Unit))) → Int → Int → (List ((Bool × (List Int) × Unit) × (List Int) × Unit)) → Int → Int → Option (Bool × Unit)) (z_0 : List ((Bool × (List Int) × Unit) × (List Int) × Unit)) (z_1 : List (List ((Bool × (List Int) × Unit) × (List Int) × Unit))) (n2 : Int) (t59 : List (List ((Bool × (List Int) × Unit) × (List Int) × Unit))) (t60 : Int) (t61 : Int) (t69 : List ((Bool × (List Int) × Unit) × (List Int) × Unit)) (t70 : Int) (t71 : Int) : Option (Bool × Unit) :=
  cond (decide (t71 < t70))
    (
      cond (decide (0 ≤ t71))
        (
          cond (decide (t71 < (t69.length : Int)))
            (
              let z6 := t69.getD t71.toNat ((false, ([], ())), ([], ()))
              (S.ratio_Abs (((z6.1.1, z6.1.2.1, ()), z6.2.1, ()), ())).bind fun z7 =>
              (S.ratio_Of (1000, 1, ())).bind fun z8 =>
              (S.ratio_Compare (((z7.1.1.1, z7.1.1.2.1, ()), z7.1.2.1, ()), ((z8.1.1.1, z8.1.1.2.1, ()), z8.1.2.1, ()), ())).bind fun z9 =>
              cond (decide (0 < z9.1)) (some (true, ()))
                (
                  cond (decide (2 < (z6.1.2.1.length : Int))) (some (true, ()))
                    (
                      cond (decide (2 < (z6.2.1.length : Int))) (some (true, ())) (κ1 z_0 z_1 n2 t59 t60 t61 t69 t70 (IntKind.i64.wrap (t71 + 1)))))) none) none) (κ0 z_0 z_1 n2 t59 t60 (IntKind.i64.wrap (t61 + 1)))

def girdletop_WholeBoxes_l1 (K : Nat) (κ0 : (List ((Bool × (List Int) × Unit) × (List Int) × Unit)) → (List (List ((Bool × (List Int) × Unit) × (List Int) × Unit))) → Int → (List (List ((Bool × (List Int) × Unit) × (List Int) × Unit))) → Int → Int → Option (Bool × Unit)) : Nat → (List ((Bool × (List Int) × Unit) × (List Int) × Unit)) → (List (List ((Bool × (List Int) × Unit) × (List Int) × Unit))) → Int → (List (List ((Bool × (List Int) × Unit) × (List Int) × Unit))) → Int → Int → (List ((Bool × (List Int) × Unit) × (List Int) × Unit)) → Int → Int → Option (Bool × Unit)
  | 0, _, _, _, _, _, _, _, _, _ => none
  | n + 1, z_0, z_1, n2, t59, t60, t61, t69, t70, t71 => girdletop_WholeBoxes_s1 κ0 (girdletop_WholeBoxes_l1 K κ0 n) z_0 z_1 n2 t59 t60 t61 t69 t70 t71

/-- girdletop_WholeBoxes: one round of loop 3. -/
def girdletop_WholeBoxes_s3 (κ0 : (List ((Bool × (List Int) × Unit) × (List Int) × Unit)) → (List (List ((Bool × (List Int) × Unit) × (List Int) × Unit))) → Int → (List (List ((Bool × (List Int) × Unit) × (List Int) × Unit))) → Int → Int → Option (Bool × Unit)) (κ2 : Int → (List ((Bool × (List Int) × Unit) × Int × Unit)) → (List (List ((Bool × (List Int) × Unit) × Int × Unit))) → (List ((Bool × (List Int) × Unit) × Int × Unit)) → (List (((Bool × (List Int) × Unit) × Int × Unit) × ((Bool × (List Int) × Unit) × Int × Unit) × Unit)) → Int → Int → Option (Bool × Unit)) (κ3 : Int → (List ((Bool × (List Int) × Unit) × Int × Unit)) → (List (List ((Bool × (List Int) × Unit) × Int × Unit))) → (List ((Bool × (List Int) × Unit) × Int × Unit)) → (List (((Bool × (List Int) × Unit) × Int × Unit) × ((Bool × (List Int) × Unit) × Int × Unit) × Unit)) → Int → Int → Int → (List Int) → Int → Int → Option (Bool × Unit)) (n2 : Int) (k_0 : List ((Bool × (List Int) × Unit) × Int × Unit)) (k_1 : List (List ((Bool × (List Int) × Unit) × Int × Unit))) (k_2 : List ((Bool × (List Int) × Unit) × Int × Unit)) (b : List (((Bool × (List Int) × Unit) × Int × Unit) × ((Bool × (List Int) × Unit) × Int × Unit) × Unit)) (i : Int) (t121 : Int) (t122 : Int) (t125 : List Int) (t126 : Int) (t127 : Int) : Option (Bool × Unit) :=
  cond (decide (t127 < t126))
    (
      cond (decide (0 ≤ t127))
        (
          cond (decide (t127 < (t125.length : Int)))
            (
              (S.vec_Zero (n2, ())).bind fun z15 =>
              (S.ratio_Of ((t125.getD t127.toNat 0), 1, ())).bind fun z16 =>
              cond (decide (0 ≤ i))
                (
                  cond (decide (i < (z15.1.length : Int)))
                    (
                      (S.vec_Near ((z15.1.set i.toNat ((z16.1.1.1, z16.1.1.2.1, ()), z16.1.2.1, ())), 80, ())).bind fun z18 =>
                      (S.zono_Support ((k_0, k_1, k_2, ()), z18.1, 80, ())).bind fun z19 =>
                      (S.box_Support (b, z18.1, 80, ())).bind fun z20 =>
                      (S.dyad_Sub (((z19.1.1.1, z19.1.1.2.1, ()), z19.1.2.1, ()), ((z20.1.1.1, z20.1.1.2.1, ()), z20.1.2.1, ()), ())).bind fun z21 =>
                      (S.dyad_Abs (((z21.1.1.1, z21.1.1.2.1, ()), z21.1.2.1, ()), ())).bind fun z22 =>
                      (S.ratio_Of (1, 1000000, ())).bind fun z23 =>
                      (S.dyad_Cmp (((z22.1.1.1, z22.1.1.2.1, ()), z22.1.2.1, ()), ((z23.1.1.1, z23.1.1.2.1, ()), z23.1.2.1, ()), ())).bind fun z24 =>
                      cond (!(decide (z19.2.1 = 0))) (some (false, ()))
                        (
                          cond (!(decide (z20.2.1 = 0))) (some (false, ()))
                            (
                              cond (!(decide (z24.2.1 = 0))) (some (false, ()))
                                (
                                  cond (decide (0 < z24.1)) (some (false, ())) (κ3 n2 k_0 k_1 k_2 b i t121 t122 t125 t126 (IntKind.i64.wrap (t127 + 1))))))) none) none) none) none) (κ2 n2 k_0 k_1 k_2 b t121 (IntKind.i64.wrap (t122 + 1)))

def girdletop_WholeBoxes_l3 (K : Nat) (κ0 : (List ((Bool × (List Int) × Unit) × (List Int) × Unit)) → (List (List ((Bool × (List Int) × Unit) × (List Int) × Unit))) → Int → (List (List ((Bool × (List Int) × Unit) × (List Int) × Unit))) → Int → Int → Option (Bool × Unit)) (κ2 : Int → (List ((Bool × (List Int) × Unit) × Int × Unit)) → (List (List ((Bool × (List Int) × Unit) × Int × Unit))) → (List ((Bool × (List Int) × Unit) × Int × Unit)) → (List (((Bool × (List Int) × Unit) × Int × Unit) × ((Bool × (List Int) × Unit) × Int × Unit) × Unit)) → Int → Int → Option (Bool × Unit)) : Nat → Int → (List ((Bool × (List Int) × Unit) × Int × Unit)) → (List (List ((Bool × (List Int) × Unit) × Int × Unit))) → (List ((Bool × (List Int) × Unit) × Int × Unit)) → (List (((Bool × (List Int) × Unit) × Int × Unit) × ((Bool × (List Int) × Unit) × Int × Unit) × Unit)) → Int → Int → Int → (List Int) → Int → Int → Option (Bool × Unit)
  | 0, _, _, _, _, _, _, _, _, _, _, _ => none
  | n + 1, n2, k_0, k_1, k_2, b, i, t121, t122, t125, t126, t127 => girdletop_WholeBoxes_s3 κ0 κ2 (girdletop_WholeBoxes_l3 K κ0 κ2 n) n2 k_0 k_1 k_2 b i t121 t122 t125 t126 t127

/-- girdletop_WholeBoxes: one round of loop 2. -/
def girdletop_WholeBoxes_s2 (I3 : Int → (List ((Bool × (List Int) × Unit) × Int × Unit)) → (List (List ((Bool × (List Int) × Unit) × Int × Unit))) → (List ((Bool × (List Int) × Unit) × Int × Unit)) → (List (((Bool × (List Int) × Unit) × Int × Unit) × ((Bool × (List Int) × Unit) × Int × Unit) × Unit)) → Int → Int → Int → (List Int) → Int → Int → Option (Bool × Unit)) (κ0 : (List ((Bool × (List Int) × Unit) × (List Int) × Unit)) → (List (List ((Bool × (List Int) × Unit) × (List Int) × Unit))) → Int → (List (List ((Bool × (List Int) × Unit) × (List Int) × Unit))) → Int → Int → Option (Bool × Unit)) (κ2 : Int → (List ((Bool × (List Int) × Unit) × Int × Unit)) → (List (List ((Bool × (List Int) × Unit) × Int × Unit))) → (List ((Bool × (List Int) × Unit) × Int × Unit)) → (List (((Bool × (List Int) × Unit) × Int × Unit) × ((Bool × (List Int) × Unit) × Int × Unit) × Unit)) → Int → Int → Option (Bool × Unit)) (n2 : Int) (k_0 : List ((Bool × (List Int) × Unit) × Int × Unit)) (k_1 : List (List ((Bool × (List Int) × Unit) × Int × Unit))) (k_2 : List ((Bool × (List Int) × Unit) × Int × Unit)) (b : List (((Bool × (List Int) × Unit) × Int × Unit) × ((Bool × (List Int) × Unit) × Int × Unit) × Unit)) (t121 : Int) (t122 : Int) : Option (Bool × Unit) :=
  cond (decide (t122 < t121)) (I3 n2 k_0 k_1 k_2 b t122 t121 t122 ([1, (-1 : Int)]) (([1, (-1 : Int)]).length : Int) 0) (some (true, ()))

def girdletop_WholeBoxes_l2 (K : Nat) (κ0 : (List ((Bool × (List Int) × Unit) × (List Int) × Unit)) → (List (List ((Bool × (List Int) × Unit) × (List Int) × Unit))) → Int → (List (List ((Bool × (List Int) × Unit) × (List Int) × Unit))) → Int → Int → Option (Bool × Unit)) : Nat → Int → (List ((Bool × (List Int) × Unit) × Int × Unit)) → (List (List ((Bool × (List Int) × Unit) × Int × Unit))) → (List ((Bool × (List Int) × Unit) × Int × Unit)) → (List (((Bool × (List Int) × Unit) × Int × Unit) × ((Bool × (List Int) × Unit) × Int × Unit) × Unit)) → Int → Int → Option (Bool × Unit)
  | 0, _, _, _, _, _, _, _ => none
  | n + 1, n2, k_0, k_1, k_2, b, t121, t122 => girdletop_WholeBoxes_s2 (girdletop_WholeBoxes_l3 K κ0 (girdletop_WholeBoxes_l2 K κ0 n) K) κ0 (girdletop_WholeBoxes_l2 K κ0 n) n2 k_0 k_1 k_2 b t121 t122

/-- girdletop_WholeBoxes: one round of loop 0. -/
def girdletop_WholeBoxes_s0 (I1 : (List ((Bool × (List Int) × Unit) × (List Int) × Unit)) → (List (List ((Bool × (List Int) × Unit) × (List Int) × Unit))) → Int → (List (List ((Bool × (List Int) × Unit) × (List Int) × Unit))) → Int → Int → (List ((Bool × (List Int) × Unit) × (List Int) × Unit)) → Int → Int → Option (Bool × Unit)) (I2 : Int → (List ((Bool × (List Int) × Unit) × Int × Unit)) → (List (List ((Bool × (List Int) × Unit) × Int × Unit))) → (List ((Bool × (List Int) × Unit) × Int × Unit)) → (List (((Bool × (List Int) × Unit) × Int × Unit) × ((Bool × (List Int) × Unit) × Int × Unit) × Unit)) → Int → Int → Option (Bool × Unit)) (κ0 : (List ((Bool × (List Int) × Unit) × (List Int) × Unit)) → (List (List ((Bool × (List Int) × Unit) × (List Int) × Unit))) → Int → (List (List ((Bool × (List Int) × Unit) × (List Int) × Unit))) → Int → Int → Option (Bool × Unit)) (z_0 : List ((Bool × (List Int) × Unit) × (List Int) × Unit)) (z_1 : List (List ((Bool × (List Int) × Unit) × (List Int) × Unit))) (n2 : Int) (t59 : List (List ((Bool × (List Int) × Unit) × (List Int) × Unit))) (t60 : Int) (t61 : Int) : Option (Bool × Unit) :=
  cond (decide (t61 < t60))
    (
      cond (decide (0 ≤ t61))
        (
          cond (decide (t61 < (t59.length : Int)))
            (
              let z4 := t59.getD t61.toNat []
              (S.vec_Check (z4, n2, ())).bind fun z5 =>
              cond (!(decide (z5.1 = 0))) (some (true, ())) (I1 z_0 z_1 n2 t59 t60 t61 z4 (z4.length : Int) 0)) none) none)
    (
      (S.zono_Of ((z_0, z_1, ()), 80, ())).bind fun z12 =>
      (S.zono_Box ((z12.1.1, z12.1.2.1, z12.1.2.2.1, ()), 80, ())).bind fun z13 =>
      cond (!(decide (z12.2.1 = 0))) (some (false, ()))
        (
          cond (!(decide (z13.2.1 = 0))) (some (false, ()))
            (
              cond (!(decide ((z13.1.length : Int) = n2))) (some (false, ())) (I2 n2 z12.1.1 z12.1.2.1 z12.1.2.2.1 z13.1 n2 0))))

def girdletop_WholeBoxes_l0 (K : Nat) : Nat → (List ((Bool × (List Int) × Unit) × (List Int) × Unit)) → (List (List ((Bool × (List Int) × Unit) × (List Int) × Unit))) → Int → (List (List ((Bool × (List Int) × Unit) × (List Int) × Unit))) → Int → Int → Option (Bool × Unit)
  | 0, _, _, _, _, _, _ => none
  | n + 1, z_0, z_1, n2, t59, t60, t61 => girdletop_WholeBoxes_s0 (girdletop_WholeBoxes_l1 K (girdletop_WholeBoxes_l0 K n) K) (girdletop_WholeBoxes_l2 K (girdletop_WholeBoxes_l0 K n) K) (girdletop_WholeBoxes_l0 K n) z_0 z_1 n2 t59 t60 t61

/-- girdletop.WholeBoxes -/
def girdletop_WholeBoxes_b (I0 : (List ((Bool × (List Int) × Unit) × (List Int) × Unit)) → (List (List ((Bool × (List Int) × Unit) × (List Int) × Unit))) → Int → (List (List ((Bool × (List Int) × Unit) × (List Int) × Unit))) → Int → Int → Option (Bool × Unit)) (z : (List ((Bool × (List Int) × Unit) × (List Int) × Unit)) × (List (List ((Bool × (List Int) × Unit) × (List Int) × Unit))) × Unit) : Option (Bool × Unit) :=
  (S.zono_Point (2, ())).bind fun z1 =>
  cond (!(decide ((z1.1.1.length : Int) = 2))) (some (false, ()))
    (
      (S.box_Check ([], 1, ())).bind fun z2 =>
      cond (!(decide (z2.1 = 20))) (some (false, ()))
        (
          cond (decide ((z.1.length : Int) < 1)) (some (true, ()))
            (
              cond (decide (4 < (z.1.length : Int))) (some (true, ()))
                (
                  cond (decide (6 < (z.2.1.length : Int))) (some (true, ()))
                    (
                      cond (decide ((([z.1]).length + z.2.1.length) * 24 ≤ 140737488351232))
                        (
                          let z3 := ([z.1]) ++ z.2.1
                          I0 z.1 z.2.1 (z.1.length : Int) z3 (z3.length : Int) 0) none)))))

def girdletop_WholeBoxes (K : Nat) (z : (List ((Bool × (List Int) × Unit) × (List Int) × Unit)) × (List (List ((Bool × (List Int) × Unit) × (List Int) × Unit))) × Unit) : Option (Bool × Unit) := girdletop_WholeBoxes_b (girdletop_WholeBoxes_l0 K K) z

def S.girdletop_WholeBoxes (x : ZR × Unit) : Option (Bool × Unit) := L.girdletop_WholeBoxes 100 x.1
/-- Lists that are checked; ratios that are small. -/
def small2 (n : Nat) (q : Nat → Rat) : Prop := ∀ i < n, big (q i) 2 ∧ qabs (q i) ≤ 1000
theorem off_small {X Y : Int} {e : Int} {T : Rat} (x1 : T ≤ dv X e) (x2 : dv X e ≤ T + 1 / 2097152) (y1 : T ≤ dv Y e) (y2 : dv Y e ≤ T + 4 * (1 / 33554432)) : dv ((X - Y).natAbs : Int) e ≤ Rat.divInt 1 1000000 := by
  have : Rat.divInt 1 1000000 = 1 / 1000000 := by decide +kernel
  rw [dv_abs, dv_sub, this]
  exact qabs_le' (by grind) (by grind)
theorem WholeBoxes_round {n m i : Nat} {q0 : Nat → Rat} {q : Nat → Nat → Rat} {s : Int} (hn : n ≤ 4) (hm : m ≤ 6) (hi : i < n) (h0 : small2 n q0) (h : ∀ k < m, small2 n (q k)) (hs : s = 1 ∨ s = -1) :
    ∃ X Y : Int, ∃ D : List SP, S.vec_Near (Rx n (fun j => if j = i then (s : Rat) else 0), 80, ()) = some (D, 0, ()) ∧
      S.zono_Support ((Dx n (md (nrs q0 80 300) 80) (-((300 : Nat) : Int) - 1), Vx m (fun k => Dx n (md (nrs (q k) 80 300) 80) (-((300 : Nat) : Int) - 1)), Dx n (zr q0 q 80 300 m) (-((300 : Nat) : Int) - 1), ()), D, 80, ()) = some (Yd X (-((300 : Nat) : Int) - 1 + -((300 : Nat) : Int)), 0, ()) ∧
      S.box_Support (Bx n (zbx (md (nrs q0 80 300) 80) (zr q0 q 80 300 m) (fun k => md (nrs (q k) 80 300) 80) 80 m) (-((300 : Nat) : Int) - 1), D, 80, ()) = some (Yd Y (-((300 : Nat) : Int) - 1 + -((300 : Nat) : Int)), 0, ()) ∧
      X.natAbs < P 400 ∧ Y.natAbs < P 400 ∧ dv ((X - Y).natAbs : Int) (-((300 : Nat) : Int) - 1 + -((300 : Nat) : Int)) ≤ Rat.divInt 1 1000000 := by
  generalize hu : (fun j => if j = i then (s : Rat) else 0) = u
  have u0 : ∀ j, j ≠ i → u j = 0 := fun j hj => by rw [← hu]; exact if_neg hj
  have ui : u i = s := by rw [← hu]; exact if_pos rfl
  have ub : ∀ j < n, big (u j) 2 := fun j _ => by
    by_cases hj : j = i
    · rw [hj, ui]; unfold big; rcases hs with w | w <;> rw [w] <;> decide +kernel
    · rw [u0 j hj]; unfold big; decide +kernel
  have u1 : ∀ j < n, qabs (u j) ≤ 1 := fun j _ => by
    by_cases hj : j = i
    · rw [hj, ui]; rcases hs with w | w <;> rw [w] <;> decide +kernel
    · rw [u0 j hj]; decide +kernel
  have nd := nrs_near (b := 80) (B := 300) (by decide) ub (by decide) (fun j hj => Rat.le_trans (u1 j hj) (by decide +kernel))
  have n0 := nrs_near (b := 80) (B := 300) (by decide) (fun j hj => (h0 j hj).1) (by decide) (fun j hj => Rat.le_trans (h0 j hj).2 (by decide +kernel))
  have nk : ∀ k < m, _ := fun k hk => nrs_near (b := 80) (B := 300) (by decide) (fun j hj => (h k hk j hj).1) (by decide) (fun j hj => Rat.le_trans (h k hk j hj).2 (by decide +kernel))
  have m0 := fun j (hj : j < n) => md_near (b := 80) (f := nrs q0 80 300) (by decide) (n0 j hj).1.1 (n0 j hj).1.2 (n0 j hj).2.1.1 (n0 j hj).2.1.2 (n0 j hj).2.2
  have mk := fun k (hk : k < m) j (hj : j < n) => md_near (b := 80) (f := nrs (q k) 80 300) (by decide) (nk k hk j hj).1.1 (nk k hk j hj).1.2 (nk k hk j hj).2.1.1 (nk k hk j hj).2.1.2 (nk k hk j hj).2.2
  have D0 := nrs_bb (b := 80) (B := 300) (k := 148) ub (by decide) (by decide)
  have B0 := nrs_bb (b := 80) (B := 300) (k := 148) (fun j hj => (h0 j hj).1) (by decide) (by decide)
  have Bk : ∀ k < m, bb n (nrs (q k) 80 300) 148 := fun k hk => nrs_bb (b := 80) (B := 300) (k := 148) (fun j hj => (h k hk j hj).1) (by decide) (by decide)
  have bc : nb n (md (nrs q0 80 300) 80) 170 := fun j hj => nA_up (md_abs B0 j hj) (by decide)
  have bg : ∀ k < m, nb n (md (nrs (q k) 80 300) 80) 170 := fun k hk j hj => nA_up (md_abs (Bk k hk) j hj) (by decide)
  have br : nb n (zr q0 q 80 300 m) 170 := fun j hj => nA_up (zr_abs (b := 80) B0 Bk m (Nat.le_refl _) j hj) (by omega)
  have vc : ∀ j < n, qabs (dv (md (nrs q0 80 300) 80 j) (-((300 : Nat) : Int) - 1)) ≤ 2048 := fun j hj => by
    have a := m0 j hj
    have c := (h0 j hj).2
    have g1 := qabs_ge (q0 j)
    have g2 := qabs_ge (dv (md (nrs q0 80 300) 80 j) (-((300 : Nat) : Int) - 1) - q0 j)
    exact qabs_le' (by grind) (by grind)
  have vg : ∀ k < m, ∀ j < n, qabs (dv (md (nrs (q k) 80 300) 80 j) (-((300 : Nat) : Int) - 1)) ≤ 2048 := fun k hk j hj => by
    have a := mk k hk j hj
    have c := (h k hk j hj).2
    have g1 := qabs_ge (q k j)
    have g2 := qabs_ge (dv (md (nrs (q k) 80 300) 80 j) (-((300 : Nat) : Int) - 1) - q k j)
    exact qabs_le' (by grind) (by grind)
  have vr : ∀ j < n, 0 ≤ zr q0 q 80 300 m j ∧ dv (zr q0 q 80 300 m j) (-((300 : Nat) : Int) - 1) ≤ 16384 := fun j hj => by
    have z := zr_near (e := -((300 : Nat) : Int) - 1) (b := 80) (B := 300) (i := j) (by decide) hm (m0 j hj).2 (fun k hk => (mk k hk j hj).2) m (Nat.le_refl _)
    have s1 := (sumC (a := 1 / 67108864) (by decide +kernel) m hm).2.1
    exact ⟨zr_pos _ _ _ _ _ _, by grind⟩
  have sx := zono_Support_Dx (e := -((300 : Nat) : Int) - 1) (e' := -((300 : Nat) : Int)) (b := 80) (show n ≤ 16 by omega) (show m ≤ 16 by omega) bc br bg D0 (by decide) (by decide) (by decide) (by decide) (by decide) (by decide) (by decide)
  have bx := zbx_abs (b := 80) bc br bg
  have bx' : bb n (zbx (md (nrs q0 80 300) 80) (zr q0 q 80 300 m) (fun k => md (nrs (q k) 80 300) 80) 80 m) 184 := fun j hj => lt2_up (bx j hj) (by omega)
  have sy := box_Support_Bx (e := -((300 : Nat) : Int) - 1) (e' := -((300 : Nat) : Int)) (b := 80) (show n ≤ 16 by omega) bx' D0 (by decide) (by decide) (by decide) (by decide) (by decide) (by decide) (by decide)
  have x1 := zsup_ge (b := 80) (m := m) (c := md (nrs q0 80 300) 80) (g := fun k => md (nrs (q k) 80 300) 80) (e := -((300 : Nat) : Int) - 1) (fun j hj => (vr j hj).1) (fun j hj => (nd j hj).1)
  have x2 := zsup_le (b := 80) (by decide) hn hm vc vr vg nd
  have hbx := fun j (hj : j < n) => zbx_near (b := 80) (e := -((300 : Nat) : Int) - 1) (c := md (nrs q0 80 300) 80) (g := fun k => md (nrs (q k) 80 300) 80) (by decide) hm (vc j hj) (vr j hj).1 (vr j hj).2 (fun k hk => vg k hk j hj)
  have hbg := fun j (hj : j < n) => zbx_ge (b := 80) (m := m) (e := -((300 : Nat) : Int) - 1) (c := md (nrs q0 80 300) 80) (g := fun k => md (nrs (q k) 80 300) 80) (vr j hj).1
  have y1 := bsup_ge (b := 80) (e := -((300 : Nat) : Int) - 1) (fun j hj => ⟨(hbg j hj).1, (hbg j hj).2, (hbx j hj).2.2.1⟩) (fun j hj => (nd j hj).1)
  have y2 := (bsup_near (b := 80) (e := -((300 : Nat) : Int) - 1) (by decide) hn (fun j hj => ⟨⟨(hbx j hj).1, (hbx j hj).2.1⟩, ⟨(hbg j hj).1, (hbg j hj).2, (hbx j hj).2.2.1⟩, (hbx j hj).2.2.2, vc j hj⟩) nd u1 n (Nat.le_refl _)).1
  have s1 := (sumC (a := 1 / 33554432) (by decide +kernel) n (by omega)).2.2 hn
  rw [Tb_unit hi (fun j _ hj => u0 j hj)] at y1 y2
  refine ⟨_, _, _, vec_Near_nr (show n ≤ 16 by omega) ub (by decide) (by decide) (by decide) (by decide), sx, sy, ?_, ?_, off_small x1 x2 y1 (Rat.le_trans y2 (by grind))⟩
  · exact nA_up (zsup_abs (b := 80) bc br bg D0) (by omega)
  · exact nA_up (inn_abs (b := 80) bx' D0 n (Nat.le_refl _)).2 (by omega)
theorem Mul_some {a b : List Int} (ha : inW a) (hb : inW b) : ∃ c e, S.limbs_Mul (a, b, ()) = some (c, e, ()) ∧ fine c := by
  simp only [S.limbs_Mul]
  rw [if_pos ⟨ha.2, hb.2, ha.1, hb.1⟩]
  split
  · exact ⟨_, _, rfl, by unfold fine; simp⟩
  · unfold res
    split
    · exact ⟨_, _, rfl, by unfold fine; omega⟩
    · exact ⟨_, _, rfl, by unfold fine; simp⟩
theorem whole_of_size (m : Bool) (a : List Int) : ∃ m', S.whole_of (m, a, ()) = some ((m', a, ()), ()) := by cases m <;> exact ⟨_, rfl⟩
theorem ratio_Compare_some {x y : (Bool × List Int × Unit) × List Int × Unit} (hx : inR x) (hy : inR y) : ∃ c e, S.ratio_Compare (x, y, ()) = some (c, e, ()) := by
  obtain ⟨⟨mx, ax, _⟩, dx, _⟩ := x
  obtain ⟨⟨my, ay, _⟩, dy, _⟩ := y
  obtain ⟨h1, h2⟩ := hx
  obtain ⟨h3, h4⟩ := hy
  simp only at h1 h2 h3 h4
  have n1 : S.ratio_den (((my, ay, ()), dy, ()), ()) = some ((false, dy, ()), ()) := by
    simp only [S.ratio_den, L.ratio_den, S.whole_Nat, L.whole_Nat, S.slices_Clone_api_Nat_uint32]
    rw [if_pos h4.2]; rfl
  have n2 : S.ratio_den (((mx, ax, ()), dx, ()), ()) = some ((false, dx, ()), ()) := by
    simp only [S.ratio_den, L.ratio_den, S.whole_Nat, L.whole_Nat, S.slices_Clone_api_Nat_uint32]
    rw [if_pos h2.2]; rfl
  obtain ⟨p, e, hp, fp⟩ := Mul_some h1 h4
  obtain ⟨q, f, hq, fq⟩ := Mul_some h3 h2
  obtain ⟨m1, hm1⟩ := whole_of_size (!(mx == false)) p
  obtain ⟨m2, hm2⟩ := whole_of_size (!(my == false)) q
  have w1 : S.whole_Mul ((mx, ax, ()), (false, dy, ()), ()) = some ((m1, p, ()), e, ()) := by
    simp only [S.whole_Mul, L.whole_Mul, hp, Option.bind_some, hm1]
  have w2 : S.whole_Mul ((my, ay, ()), (false, dx, ()), ()) = some ((m2, q, ()), f, ()) := by
    simp only [S.whole_Mul, L.whole_Mul, hq, Option.bind_some, hm2]
  have s1 : ∃ c, S.whole_Sign ((m1, p, ()), ()) = some (c, ()) := by
    simp only [S.whole_Sign, L.whole_Sign]
    cases decide ((p.length : Int) = 0) <;> cases m1 <;> exact ⟨_, rfl⟩
  have s2 : ∃ c, S.whole_Sign ((m2, q, ()), ()) = some (c, ()) := by
    simp only [S.whole_Sign, L.whole_Sign]
    cases decide ((q.length : Int) = 0) <;> cases m2 <;> exact ⟨_, rfl⟩
  obtain ⟨u, hu⟩ := s1
  obtain ⟨v, hv⟩ := s2
  have c1 : S.limbs_Compare (p, q, ()) = some (cmpL p q, ()) := by simp only [S.limbs_Compare]; rw [if_pos ⟨fp, fq⟩]
  have c2 : S.limbs_Compare (q, p, ()) = some (cmpL q p, ()) := by simp only [S.limbs_Compare]; rw [if_pos ⟨fq, fp⟩]
  have wc : ∃ c, S.whole_Compare ((m1, p, ()), (m2, q, ()), ()) = some (c, ()) := by
    simp only [S.whole_Compare, L.whole_Compare, hu, hv, Option.bind_some, c1, c2]
    cases decide (u = v) <;> cases decide (u < v) <;> cases decide (u < 0) <;> exact ⟨_, rfl⟩
  obtain ⟨k, hk⟩ := wc
  have hf : S.ratio_first ([e, f], ()) = some (firstF [e, f], ()) := by simp only [S.ratio_first]; rw [if_pos (by simp)]
  simp only [S.ratio_Compare, L.ratio_Compare, n1, n2, w1, w2, hf, Option.bind_some, hk]
  cases decide (firstF [e, f] = 0) <;> exact ⟨_, _, rfl⟩

theorem ratio_Compare_ex {a b : Rat} (ha : big a 512) (hb : big b 1) : ∃ c e, S.ratio_Compare (R a, R b, ()) = some (c, e, ()) := by
  have w : ∀ n : Nat, n < P 1000 → inW (D n) := fun n h => ⟨(can_D n).1, fine_D h⟩
  have hb' := hb.mono (show 1 ≤ 512 by decide)
  exact ratio_Compare_some ⟨w _ (P1000 ha.1 (by decide)), w _ (P1000 ha.2 (by decide))⟩ ⟨w _ (P1000 hb'.1 (by decide)), w _ (P1000 hb'.2 (by decide))⟩
theorem rat_int' (z : Int) : Rat.divInt z 1 = (z : Rat) := by
  rw [Rat.divInt_eq_div, Rat.div_def, show ((1 : Int) : Rat)⁻¹ = 1 from by decide +kernel, Rat.mul_one]
theorem WholeBoxes_true {z : ZR} (hz : inZ z) : girdletop_WholeBoxes 100 z = some (true, ()) := by
  unfold girdletop_WholeBoxes girdletop_WholeBoxes_b
  have p2 : S.zono_Point (2, ()) = some ((([((false, ([], ())), (0, ())), ((false, ([], ())), (0, ()))] : List DY), [], ([((false, ([], ())), (0, ())), ((false, ([], ())), (0, ()))] : List DY), ()), ()) := rfl
  have c1 : S.box_Check ([], 1, ()) = some (20, ()) := rfl
  rw [p2, Option.bind_some, c1, Option.bind_some]
  simp only [List.length_cons, List.length_nil]
  rw [show (!decide (((0 + 1 + 1 : Nat) : Int) = 2)) = false from rfl, cond_false]
  simp only [decide_true, Bool.not_true, cond_false]
  by_cases g1 : (z.1.length : Int) < 1
  · rw [ct g1]
  rw [cf g1]
  by_cases g2 : 4 < (z.1.length : Int)
  · rw [ct g2]
  rw [cf g2]
  by_cases g3 : 6 < (z.2.1.length : Int)
  · rw [ct g3]
  rw [cf g3]
  generalize hn : z.1.length = n at g1 g2 ⊢
  generalize hm : z.2.1.length = m at g3 ⊢
  have hls : ([z.1] ++ z.2.1).length = m + 1 := by rw [List.length_append, List.length_singleton, hm]; omega
  have hin := fun i (hi : i < m + 1) => inZ_get hz (show i < ([z.1] ++ z.2.1).length by omega)
  rw [ct (by omega), hls]
  generalize hL : [z.1] ++ z.2.1 = ls at hls hin ⊢
  have o1 : S.ratio_Of (1000, 1, ()) = some (R 1000, ()) := by rw [ratio_Of_R (by decide) (by decide) (by decide) (by decide) (by decide)]; rfl
  rcases loop_or (m + 1) (fun _ => ()) (fun k s i => girdletop_WholeBoxes_l0 100 k z.1 z.2.1 (n : Int) ls ((m + 1 : Nat) : Int) i) (fun r => r = some (true, ())) (fun i => ∃ q : Nat → Rat, ls.getD i [] = Rx n q ∧ small2 n q) (fun k i hk hi => by
      simp only [girdletop_WholeBoxes_l0, girdletop_WholeBoxes_s0]
      rw [ct (by omega), ct (by omega), ct (by omega), Int.toNat_natCast]
      rcases vec_Check_in (n := n) (by omega) (hin i hi) with ⟨c, c0, e⟩ | ⟨e, q, el, hb⟩
      · right; rw [e, Option.bind_some]; simp only; rw [decide_eq_false c0]; rfl
      rw [e, Option.bind_some]
      simp only [decide_true, Bool.not_true, cond_false]
      rw [el, Vx_len]
      rcases loop_or n (fun _ => ()) (fun k2 s j => girdletop_WholeBoxes_l1 100 (girdletop_WholeBoxes_l0 100 k) k2 z.1 z.2.1 (n : Int) ls ((m + 1 : Nat) : Int) (i : Int) (Rx n q) (n : Int) j) (fun r => r = some (true, ())) (fun j => big (q j) 2 ∧ qabs (q j) ≤ 1000) (fun k2 j hk2 hj => by
          simp only [girdletop_WholeBoxes_l1, girdletop_WholeBoxes_s1, Vx_len]
          rw [ct (by omega), ct (by omega), ct (by omega), Int.toNat_natCast, Vx_get hj]
          have a1 := ratio_Abs_R (hb j hj) (by decide)
          rw [show S.ratio_Abs _ = _ from a1, Option.bind_some, o1, Option.bind_some]
          by_cases l1 : 2 < (D (q j).num.natAbs).length
          · right
            obtain ⟨cc, ee, hcc⟩ := ratio_Compare_ex (a := qabs (q j)) (b := 1000) (big_qabs (hb j hj)) (by unfold big; decide +kernel)
            rw [show S.ratio_Compare _ = _ from hcc, Option.bind_some]
            by_cases h0 : 0 < cc
            · rw [ct h0]
            · rw [cf h0, ct (show 2 < (((R (q j)).1.2.1).length : Int) by show 2 < ((D (q j).num.natAbs).length : Int); omega)]
          by_cases l2 : 2 < (D (q j).den).length
          · right
            obtain ⟨cc, ee, hcc⟩ := ratio_Compare_ex (a := qabs (q j)) (b := 1000) (big_qabs (hb j hj)) (by unfold big; decide +kernel)
            rw [show S.ratio_Compare _ = _ from hcc, Option.bind_some]
            by_cases h0 : 0 < cc
            · rw [ct h0]
            · rw [cf h0, cf (show ¬ 2 < (((R (q j)).1.2.1).length : Int) by show ¬ 2 < ((D (q j).num.natAbs).length : Int); omega), ct (show 2 < (((R (q j)).2.1).length : Int) by show 2 < ((D (q j).den).length : Int); omega)]
          have hbig : big (q j) 2 := big_len (m := 0) (by omega) (by omega)
          have cm := ratio_Compare_R (big_qabs hbig) (show big 1000 1 by unfold big; decide +kernel) (by decide)
          rw [show S.ratio_Compare _ = _ from cm, Option.bind_some]
          by_cases h0 : 0 < sgq (qabs (q j)) 1000
          · right; rw [ct h0]
          left
          rw [cf h0, cf (show ¬ 2 < (((R (q j)).1.2.1).length : Int) by show ¬ 2 < ((D (q j).num.natAbs).length : Int); omega), cf (show ¬ 2 < (((R (q j)).2.1).length : Int) by show ¬ 2 < ((D (q j).den).length : Int); omega), wi1 (by omega)]
          refine ⟨rfl, hbig, ?_⟩
          unfold sgq at h0
          split at h0
          · exact Rat.le_of_lt (by assumption)
          · split at h0
            · exact absurd (by decide) h0
            · exact Rat.not_lt.1 (by assumption)) 100 (by omega) with h | ⟨k2, e2, h⟩
      · exact .inr h
      left
      have e3 : girdletop_WholeBoxes_l1 100 (girdletop_WholeBoxes_l0 100 k) 100 z.1 z.2.1 (n : Int) ls ((m + 1 : Nat) : Int) (i : Int) (Rx n q) (n : Int) 0 = _ := e2
      refine ⟨?_, q, rfl, h⟩
      rw [e3]
      simp only [girdletop_WholeBoxes_l1, girdletop_WholeBoxes_s1]
      rw [cf (by omega), wi1 (by omega)]) 100 (by omega) with h | ⟨k, e2, h⟩
  · exact h
  have e3 : girdletop_WholeBoxes_l0 100 100 z.1 z.2.1 (n : Int) ls ((m + 1 : Nat) : Int) 0 = _ := e2
  rw [e3]
  clear e2 e3
  obtain ⟨q0, q, rfl, s0, sq⟩ := rows_of (Q := small2 n) hm (by rw [hL]; exact h)
  simp only [girdletop_WholeBoxes_l0, girdletop_WholeBoxes_s0]
  rw [cf (by omega)]
  have B0 := nrs_bb (b := 80) (B := 300) (k := 148) (fun j hj => (s0 j hj).1) (by decide) (by decide)
  have Bk : ∀ k < m, bb n (nrs (q k) 80 300) 148 := fun k hk => nrs_bb (b := 80) (B := 300) (k := 148) (fun j hj => (sq k hk j hj).1) (by decide) (by decide)
  have bc : nb n (md (nrs q0 80 300) 80) 170 := fun j hj => nA_up (md_abs B0 j hj) (by decide)
  have bg : ∀ k < m, nb n (md (nrs (q k) 80 300) 80) 170 := fun k hk j hj => nA_up (md_abs (Bk k hk) j hj) (by decide)
  have br : nb n (zr q0 q 80 300 m) 170 := fun j hj => nA_up (zr_abs (b := 80) B0 Bk m (Nat.le_refl _) j hj) (by omega)
  have zo := zono_Of_R (b := 80) (B := 300) (show n ≤ 16 by omega) (show m ≤ 16 by omega) (fun j hj => (s0 j hj).1) (fun k hk j hj => (sq k hk j hj).1) (by decide) (by decide) (by decide) (by decide) (by decide)
  have zb := zono_Box_Dx (e := -((300 : Nat) : Int) - 1) (b := 80) (show n ≤ 16 by omega) (show m ≤ 16 by omega) bc br bg (by decide) (by decide) (by decide) (by decide) (by decide)
  rw [show ((80 : Nat) : Int) = 80 from rfl] at zo zb
  rw [show S.zono_Of _ = _ from zo, Option.bind_some, show S.zono_Box _ = _ from zb, Option.bind_some]
  simp only [decide_true, Bool.not_true, cond_false, Vx_len]
  generalize hC : Dx n (md (nrs q0 80 300) 80) (-((300 : Nat) : Int) - 1) = C
  generalize hG : Vx m (fun k => Dx n (md (nrs (q k) 80 300) 80) (-((300 : Nat) : Int) - 1)) = G
  generalize hR : Dx n (zr q0 q 80 300 m) (-((300 : Nat) : Int) - 1) = RR
  generalize hBB : Bx n (zbx (md (nrs q0 80 300) 80) (zr q0 q 80 300 m) (fun k => md (nrs (q k) 80 300) 80) 80 m) (-((300 : Nat) : Int) - 1) = BB
  refine loop_up n (fun _ => ()) (fun k2 s i => girdletop_WholeBoxes_l2 100 (girdletop_WholeBoxes_l0 100 k) k2 (n : Int) C G RR BB (n : Int) i) _ (fun k2 i hi => ?_) (fun k2 => ?_) 100 (by omega)
  · simp only [girdletop_WholeBoxes_l2, girdletop_WholeBoxes_s2]
    rw [ct (by omega)]
    have step : ∀ (j : Nat) (s : Int) (k3 : Nat), j < 2 → ([1, (-1 : Int)].getD j 0 = s) → (s = 1 ∨ s = -1) → girdletop_WholeBoxes_l3 100 (girdletop_WholeBoxes_l0 100 k) (girdletop_WholeBoxes_l2 100 (girdletop_WholeBoxes_l0 100 k) k2) (k3 + 1) (n : Int) C G RR BB (i : Int) (n : Int) (i : Int) [1, (-1 : Int)] 2 (j : Int) = girdletop_WholeBoxes_l3 100 (girdletop_WholeBoxes_l0 100 k) (girdletop_WholeBoxes_l2 100 (girdletop_WholeBoxes_l0 100 k) k2) k3 (n : Int) C G RR BB (i : Int) (n : Int) (i : Int) [1, (-1 : Int)] 2 ((j + 1 : Nat) : Int) := by
      intro j s k3 hj hs hs2
      obtain ⟨X, Y, DD, d1, d2, d3, bX, bY, hle⟩ := WholeBoxes_round (q0 := q0) (q := q) (s := s) (by omega : n ≤ 4) (by omega : m ≤ 6) hi s0 sq hs2
      rw [hC, hG, hR] at d2
      rw [hBB] at d3
      have o2 : S.ratio_Of (s, 1, ()) = some (R (s : Rat), ()) := by rw [ratio_Of_R (by rcases hs2 with w | w <;> omega) (by rcases hs2 with w | w <;> omega) (by decide) (by decide) (by decide), rat_int']
      simp only [girdletop_WholeBoxes_l3, girdletop_WholeBoxes_s3, List.length_cons, List.length_nil]
      rw [ct (by omega), ct (by omega), ct (by omega), vec_Zero_R (by omega), Option.bind_some, Int.toNat_natCast, hs, o2, Option.bind_some]
      simp only [Vx_len]
      rw [ct (by omega), ct (by omega), Int.toNat_natCast]
      have v1 : (Rx n (fun _ => 0)).set i (R (s : Rat)) = Rx n (fun j => if j = i then (s : Rat) else 0) := by
        rw [Vx_set hi]
        exact Vx_congr fun j _ => by
          show (if j = i then R (s : Rat) else R 0) = R (if j = i then (s : Rat) else 0)
          split <;> rfl
      have dn : S.vec_Near ((Rx n (fun _ => 0)).set i (R (s : Rat)), 80, ()) = some (DD, 0, ()) := by rw [v1]; exact d1
      rw [show S.vec_Near _ = _ from dn, Option.bind_some, show S.zono_Support _ = _ from d2, Option.bind_some, show S.box_Support _ = _ from d3, Option.bind_some]
      have e1 := dyad_Sub_Yd (e := -((300 : Nat) : Int) - 1 + -((300 : Nat) : Int)) bX bY (by decide) (by decide) (by decide)
      rw [show S.dyad_Sub _ = _ from e1, Option.bind_some]
      have bd := sub_abs bX bY
      have e4 := dyad_Abs_Yd (e := -((300 : Nat) : Int) - 1 + -((300 : Nat) : Int)) (P1000 bd (by decide))
      have o3 : S.ratio_Of (1, 1000000, ()) = some (R (Rat.divInt 1 1000000), ()) := ratio_Of_R (by decide) (by decide) (by decide) (by decide) (by decide)
      rw [show S.dyad_Abs _ = _ from e4, Option.bind_some, o3, Option.bind_some]
      have e5 := dyad_Cmp_Yn (x := ((X - Y).natAbs : Int)) (q := Rat.divInt 1 1000000) (e := -((300 : Nat) : Int) - 1 + -((300 : Nat) : Int)) (k := 401) (i := 401) (j := 1) (by rw [Int.natAbs_natCast]; exact bd) (by decide) (by decide) (by decide) (by decide) (by decide) (by unfold big; decide +kernel) (by decide)
      rw [show S.dyad_Cmp _ = _ from e5, Option.bind_some]
      simp only [decide_true, Bool.not_true, cond_false]
      rw [cf (show ¬ 0 < sgq (dv ((X - Y).natAbs : Int) (-((300 : Nat) : Int) - 1 + -((300 : Nat) : Int))) (Rat.divInt 1 1000000) by have := sgq_le hle; omega), wi1 (by omega)]
    have r1 := step 0 1 99 (by decide) rfl (.inl rfl)
    have r2 := step 1 (-1) 98 (by decide) rfl (.inr rfl)
    have fin : ∀ k3 : Nat, girdletop_WholeBoxes_l3 100 (girdletop_WholeBoxes_l0 100 k) (girdletop_WholeBoxes_l2 100 (girdletop_WholeBoxes_l0 100 k) k2) (k3 + 1) (n : Int) C G RR BB (i : Int) (n : Int) (i : Int) [1, (-1 : Int)] 2 ((1 + 1 : Nat) : Int) = girdletop_WholeBoxes_l2 100 (girdletop_WholeBoxes_l0 100 k) k2 (n : Int) C G RR BB (n : Int) ((i + 1 : Nat) : Int) := by
      intro k3
      simp only [girdletop_WholeBoxes_l3, girdletop_WholeBoxes_s3]
      rw [cf (by omega), wi1 (by omega)]
    exact (r1.trans r2).trans (fin 97)
  · simp only [girdletop_WholeBoxes_l2, girdletop_WholeBoxes_s2]
    rw [cf (by omega)]
end Go.L
