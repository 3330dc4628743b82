/-
  sets: what their functions make of rows of dyads. sets: how far they go in a direction. sets: no less, and not much more.
  No condition beyond those that each theorem names.
-/
import Derived.Test.YtdgldaahflpndaaGreatDoorQ

/-! BA -/
namespace Go.L
open Go.PM
set_option exponentiation.threshold 20000
set_option linter.unusedVariables false
set_option linter.unusedSimpArgs false

abbrev ZN := List DY × List (List DY) × List DY × Unit
/-- A row of numbers at a common power. -/
abbrev Dx (n : Nat) (d : Nat → Int) (e : Int) : List DY := Vx n fun i => Yd (d i) e
def nb (n : Nat) (d : Nat → Int) (k : Nat) : Prop := ∀ i < n, (d i).natAbs < P k
theorem Yd_dbl (x e : Int) : Yd x e = Yd (x * 2) (e - 1) := by
  have := Yd_scale x 1 (e - 1)
  rw [show e - 1 + ((1 : Nat) : Int) = e by omega] at this
  exact this.symm
theorem dv_dbl (x e : Int) : dv (x * 2) (e - 1) = dv x e := by
  have := dv_scale x (e - 1) 1
  rw [show e - 1 + ((1 : Nat) : Int) = e by omega] at this
  exact this
theorem nA_two {x : Int} {k : Nat} (h : x.natAbs < P k) : (x * 2).natAbs < P (k + 1) := by
  have := nA_add h h
  rw [show x + x = x * 2 by omega] at this
  exact this
theorem max_abs {x y : Int} {k : Nat} (h : x.natAbs < P k) (h' : y.natAbs < P k) : (max (x.natAbs : Int) (y.natAbs : Int)).natAbs < P k := by
  rcases Int.le_total (x.natAbs : Int) (y.natAbs : Int) with h1 | h1
  · rw [Int.max_eq_right h1]; exact h'
  · rw [Int.max_eq_left h1]; exact h
/-- zono_middles: one round of loop 0. -/
def zono_middles_s0 (κ0 : Int → (List DY) → (List DY) → (List SP) → Int → Int → Option ((List DY) × (List DY) × Int × Unit)) (bits : Int) (mid : List DY) (off : List DY) (t20 : List SP) (t21 : Int) (t22 : Int) : Option ((List DY) × (List DY) × Int × Unit) :=
  cond (decide (t22 < t21))
    (
      cond (decide (0 ≤ t22))
        (
          cond (decide (t22 < (t20.length : Int)))
            (
              let z3 := t20.getD t22.toNat (((false, ([], ())), (0, ())), (((false, ([], ())), (0, ())), ()))
              (S.span_Middle ((((z3.1.1.1, z3.1.1.2.1, ()), z3.1.2.1, ()), ((z3.2.1.1.1, z3.2.1.1.2.1, ()), z3.2.1.2.1, ()), ()), ())).bind fun z4 =>
              cond (!(decide (z4.2.1 = 0))) (some ([], [], z4.2.1, ()))
                (
                  (S.dyad_Round (((z4.1.1.1, z4.1.1.2.1, ()), z4.1.2.1, ()), bits, false, ())).bind fun z5 =>
                  cond (!(decide (z5.2.1 = 0))) (some ([], [], z5.2.1, ()))
                    (
                      (S.span_Point (((z5.1.1.1, z5.1.1.2.1, ()), z5.1.2.1, ()), ())).bind fun z6 =>
                      (S.span_Sub ((((z3.1.1.1, z3.1.1.2.1, ()), z3.1.2.1, ()), ((z3.2.1.1.1, z3.2.1.1.2.1, ()), z3.2.1.2.1, ()), ()), (((z6.1.1.1.1, z6.1.1.1.2.1, ()), z6.1.1.2.1, ()), ((z6.1.2.1.1.1, z6.1.2.1.1.2.1, ()), z6.1.2.1.2.1, ()), ()), bits, ())).bind fun z7 =>
                      cond (!(decide (z7.2.1 = 0))) (some ([], [], z7.2.1, ()))
                        (
                          (S.span_Size ((((z7.1.1.1.1, z7.1.1.1.2.1, ()), z7.1.1.2.1, ()), ((z7.1.2.1.1.1, z7.1.2.1.1.2.1, ()), z7.1.2.1.2.1, ()), ()), ())).bind fun z8 =>
                          cond (decide (0 ≤ t22))
                            (
                              cond (decide (t22 < (mid.length : Int)))
                                (
                                  cond (decide (0 ≤ t22))
                                    (
                                      cond (decide (t22 < (off.length : Int)))
                                        (
                                          κ0 bits (mid.set t22.toNat ((z5.1.1.1, z5.1.1.2.1, ()), z5.1.2.1, ())) (off.set t22.toNat ((z8.1.1.1, z8.1.1.2.1, ()), z8.1.2.1, ())) t20 t21 (IntKind.i64.wrap (t22 + 1))) none) none) none) none)))) none) none) (some (mid, off, 0, ()))

def zono_middles_l0 (K : Nat) : Nat → Int → (List DY) → (List DY) → (List SP) → Int → Int → Option ((List DY) × (List DY) × Int × Unit)
  | 0, _, _, _, _, _, _ => none
  | n + 1, bits, mid, off, t20, t21, t22 => zono_middles_s0 (zono_middles_l0 K n) bits mid off t20 t21 t22

/-- zono.middles -/
def zono_middles_b (I0 : Int → (List DY) → (List DY) → (List SP) → Int → Int → Option ((List DY) × (List DY) × Int × Unit)) (s : List SP) (bits : Int) : Option ((List DY) × (List DY) × Int × Unit) :=
  cond (decide (0 ≤ (s.length : Int)))
    (
      cond (decide ((s.length : Int) * 40 ≤ 140737488351232))
        (
          cond (decide (0 ≤ (s.length : Int)))
            (
              cond (decide ((s.length : Int) * 40 ≤ 140737488351232))
                (
                  I0 bits (List.replicate s.length ((false, ([], ())), (0, ())) : List DY) (List.replicate s.length ((false, ([], ())), (0, ())) : List DY) s (s.length : Int) 0) none) none) none) none

def zono_middles (K : Nat) (s : List SP) (bits : Int) : Option ((List DY) × (List DY) × Int × Unit) := zono_middles_b (zono_middles_l0 K K) s bits

def S.zono_middles (x : List SP × Int × Unit) : Option (List DY × List DY × Int × Unit) := L.zono_middles 100 x.1 x.2.1
/-- The middle of each span, rounded; and how far off the span it may be. -/
def md (f : Nat → Int × Int) (b : Nat) (i : Nat) : Int := rdn ((f i).1 + (f i).2) b
def mo (f : Nat → Int × Int) (b : Nat) (i : Nat) : Int := max ((rdn ((f i).1 * 2 - md f b i) b).natAbs : Int) ((rup ((f i).2 * 2 - md f b i) b).natAbs : Int)
theorem md_abs {n : Nat} {f : Nat → Int × Int} {b k : Nat} (hf : bb n f k) : nb n (md f b) (k + 2) := fun i hi => rdn_abs (nA_add (hf i hi).1 (hf i hi).2)
theorem mo_lt2 {n : Nat} {f : Nat → Int × Int} {b k : Nat} (hf : bb n f k) {i : Nat} (hi : i < n) : lt2 (rdn ((f i).1 * 2 - md f b i) b) (rup ((f i).2 * 2 - md f b i) b) (k + 4) := by
  have m := md_abs (b := b) hf i hi
  exact ⟨rdn_abs (sub_abs (nA_up (nA_two (hf i hi).1) (by omega)) m), rup_abs (sub_abs (nA_up (nA_two (hf i hi).2) (by omega)) m)⟩
theorem mo_abs {n : Nat} {f : Nat → Int × Int} {b k : Nat} (hf : bb n f k) : nb n (mo f b) (k + 4) := fun i hi => max_abs (mo_lt2 hf hi).1 (mo_lt2 hf hi).2
theorem mo_pos (f : Nat → Int × Int) (b i : Nat) : 0 ≤ mo f b i := by unfold mo; omega
theorem zono_middles_Bx {n : Nat} {f : Nat → Int × Int} {e : Int} {b k : Nat} (hn : n ≤ 16) (hf : bb n f k) (hk : k ≤ 480) (h0 : -30000 ≤ e) (h1 : e ≤ 10000) (hb : 2 ≤ b) (hb' : b ≤ 4096) : S.zono_middles (Bx n f e, (b : Int), ()) = some (Dx n (md f b) (e - 1), Dx n (mo f b) (e - 1), 0, ()) := by
  simp only [S.zono_middles, L.zono_middles, zono_middles_b, Vx_len]
  rw [ct (by omega), ct (by omega), ct (by omega), ct (by omega)]
  have := loop_up n (fun i => (Gx n ((false, ([], ())), (0, ())) (fun i => Yd (md f b i) (e - 1)) i, Gx n ((false, ([], ())), (0, ())) (fun i => Yd (mo f b i) (e - 1)) i)) (fun k s i => zono_middles_l0 100 k (b : Int) s.1 s.2 (Bx n f e) (n : Int) i) (some (Dx n (md f b) (e - 1), Dx n (mo f b) (e - 1), 0, ())) (fun k' i hi => ?_) (fun k => ?_) 100 (by omega)
  · simp only [Gx_zero] at this
    exact this
  · simp only [zono_middles_l0, zono_middles_s0, Vx_len, Gx_len]
    rw [ct (by omega), ct (by omega), ct (by omega), Int.toNat_natCast, Vx_get hi]
    have e1 := span_Middle_Sp (e := e) (hf i hi) (by omega) h0 h1
    rw [show S.span_Middle _ = _ from e1, Option.bind_some]
    simp only [decide_true, Bool.not_true, cond_false]
    have e2 : S.dyad_Round (Yd ((f i).1 + (f i).2) (e - 1), (b : Int), false, ()) = some (Yd (md f b i) (e - 1), 0, ()) := dyad_Round_Yd (up := false) (e := e - 1) (b := b) (nA_add (hf i hi).1 (hf i hi).2) (by omega) (by omega) (by omega) hb hb'
    rw [show S.dyad_Round _ = _ from e2, Option.bind_some]
    simp only [decide_true, Bool.not_true, cond_false]
    have hm := md_abs (b := b) hf i hi
    have e3 := span_Sub_Sp (e := e - 1) (b := b) (k := k + 2) ⟨nA_up (nA_two (hf i hi).1) (by omega), nA_up (nA_two (hf i hi).2) (by omega)⟩ ⟨hm, hm⟩ (by omega) (by omega) (by omega) hb hb'
    rw [show Sp ((f i).1 * 2) ((f i).2 * 2) (e - 1) = Sp (f i).1 (f i).2 e by simp only [Sp]; rw [← Yd_dbl, ← Yd_dbl]] at e3
    rw [Point_eq, Option.bind_some, show S.span_Sub _ = _ from e3, Option.bind_some]
    simp only [decide_true, Bool.not_true, cond_false]
    have e4 := span_Size_Sp (e := e - 1) (mo_lt2 (b := b) hf hi) (by omega) (by omega) (by omega)
    rw [show S.span_Size _ = _ from e4, Option.bind_some, ct (by omega), ct (by omega), ct (by omega), ct (by omega), wi1 (by omega)]
    have s1 := Gx_set ((false, ([], ())), (0, ())) (fun i => Yd (md f b i) (e - 1)) hi
    have s2 := Gx_set ((false, ([], ())), (0, ())) (fun i => Yd (mo f b i) (e - 1)) hi
    refine (congrArg (fun s => zono_middles_l0 100 k' (b : Int) s (List.set (Gx n ((false, ([], ())), (0, ())) (fun i => Yd (mo f b i) (e - 1)) i) i (Yd (mo f b i) (e - 1))) (Bx n f e) (n : Int) ((i + 1 : Nat) : Int)) s1).trans ?_
    exact congrArg (fun s => zono_middles_l0 100 k' (b : Int) (Gx n ((false, ([], ())), (0, ())) (fun i => Yd (md f b i) (e - 1)) (i + 1)) s (Bx n f e) (n : Int) ((i + 1 : Nat) : Int)) s2
  · simp only [zono_middles_l0, zono_middles_s0]
    rw [cf (by omega), Gx_full, Gx_full]
/-- zono.list -/
def zono_list (x : List RT) (bits : Int) : Option ((List DY) × (List DY) × Int × Unit) :=
  (S.vec_Near (x, bits, ())).bind fun z1 =>
  cond (!(decide (z1.2.1 = 0))) (some ([], [], z1.2.1, ()))
    (
      (S.zono_middles (z1.1, bits, ())).bind fun z2 =>
      some (z2.1, z2.2.1, z2.2.2.1, ()))

def S.zono_list (x : List RT × Int × Unit) : Option (List DY × List DY × Int × Unit) := L.zono_list x.1 x.2.1
theorem nrs_bb {n : Nat} {q : Nat → Rat} {b B j k : Nat} (hq : ∀ i < n, big (q i) j) (hb' : b ≤ 4096) (hk : 2 * j + 132 + (B + 32 * j) / 32 + 1 ≤ k) : bb n (nrs q b B) k := fun i hi => ⟨nr_abs (hq i hi) hb' hk, nr_abs (hq i hi) hb' hk⟩
theorem zono_list_R {n : Nat} {q : Nat → Rat} {b B j : Nat} (hn : n ≤ 16) (hq : ∀ i < n, big (q i) j) (hj : j ≤ 20) (hb : 2 ≤ b) (hb' : b ≤ 4096) (hB : b + 32 * j + 1 ≤ B) (hB' : B ≤ 5000) : S.zono_list (Vx n (fun i => R (q i)), (b : Int), ()) = some (Dx n (md (nrs q b B) b) (-(B : Int) - 1), Dx n (mo (nrs q b B) b) (-(B : Int) - 1), 0, ()) := by
  have e0 : ∀ (x : List RT) (b : Int), S.zono_list (x, b, ()) = (S.vec_Near (x, b, ())).bind fun z1 => cond (!(decide (z1.2.1 = 0))) (some ([], [], z1.2.1, ())) ((S.zono_middles (z1.1, b, ())).bind fun z2 => some (z2.1, z2.2.1, z2.2.2.1, ())) := fun _ _ => rfl
  have hk := nrs_bb (B := B) (k := 400) hq hb' (by omega)
  rw [e0, vec_Near_nr hn hq hj hb hb' hB, Option.bind_some]
  simp only [decide_true, Bool.not_true, cond_false]
  rw [zono_middles_Bx hn hk (by decide) (by omega) (by omega) hb hb', Option.bind_some]
/-- zono_wider: one round of loop 0. -/
def zono_wider_s0 (κ0 : (List DY) → (List DY) → Int → (List DY) → Int → Int → Option ((List DY) × Int × Unit)) (a : List DY) (b : List DY) (bits : Int) (out : List DY) (t16 : Int) (t17 : Int) : Option ((List DY) × Int × Unit) :=
  cond (decide (t17 < t16))
    (
      cond (decide (0 ≤ t17))
        (
          cond (decide (t17 < (a.length : Int)))
            (
              let z2 := a.getD t17.toNat ((false, ([], ())), (0, ()))
              cond (decide (0 ≤ t17))
                (
                  cond (decide (t17 < (b.length : Int)))
                    (
                      let z3 := b.getD t17.toNat ((false, ([], ())), (0, ()))
                      (S.span_Point (((z2.1.1, z2.1.2.1, ()), z2.2.1, ()), ())).bind fun z4 =>
                      (S.span_Point (((z3.1.1, z3.1.2.1, ()), z3.2.1, ()), ())).bind fun z5 =>
                      (S.span_Add ((((z4.1.1.1.1, z4.1.1.1.2.1, ()), z4.1.1.2.1, ()), ((z4.1.2.1.1.1, z4.1.2.1.1.2.1, ()), z4.1.2.1.2.1, ()), ()), (((z5.1.1.1.1, z5.1.1.1.2.1, ()), z5.1.1.2.1, ()), ((z5.1.2.1.1.1, z5.1.2.1.1.2.1, ()), z5.1.2.1.2.1, ()), ()), bits, ())).bind fun z6 =>
                      cond (!(decide (z6.2.1 = 0))) (some ([], z6.2.1, ()))
                        (
                          cond (decide (0 ≤ t17))
                            (
                              cond (decide (t17 < (out.length : Int)))
                                (
                                  κ0 a b bits (out.set t17.toNat ((z6.1.2.1.1.1, z6.1.2.1.1.2.1, ()), z6.1.2.1.2.1, ())) t16 (IntKind.i64.wrap (t17 + 1))) none) none)) none) none) none) none) (some (out, 0, ()))

def zono_wider_l0 (K : Nat) : Nat → (List DY) → (List DY) → Int → (List DY) → Int → Int → Option ((List DY) × Int × Unit)
  | 0, _, _, _, _, _, _ => none
  | n + 1, a, b, bits, out, t16, t17 => zono_wider_s0 (zono_wider_l0 K n) a b bits out t16 t17

/-- zono.wider -/
def zono_wider_b (I0 : (List DY) → (List DY) → Int → (List DY) → Int → Int → Option ((List DY) × Int × Unit)) (a : List DY) (b : List DY) (bits : Int) : Option ((List DY) × Int × Unit) :=
  cond (decide (0 ≤ (a.length : Int)))
    (
      cond (decide ((a.length : Int) * 40 ≤ 140737488351232))
        (
          I0 a b bits (List.replicate a.length ((false, ([], ())), (0, ())) : List DY) (a.length : Int) 0) none) none

def zono_wider (K : Nat) (a : List DY) (b : List DY) (bits : Int) : Option ((List DY) × Int × Unit) := zono_wider_b (zono_wider_l0 K K) a b bits

def S.zono_wider (x : List DY × List DY × Int × Unit) : Option (List DY × Int × Unit) := L.zono_wider 100 x.1 x.2.1 x.2.2.1
theorem zono_wider_Dx {n : Nat} {a c : Nat → Int} {e : Int} {b k : Nat} (hn : n ≤ 16) (ha : nb n a k) (hc : nb n c k) (hk : k ≤ 480) (h0 : -60000 ≤ e) (h1 : e ≤ 20000) (hb : 2 ≤ b) (hb' : b ≤ 4096) : S.zono_wider (Dx n a e, Dx n c e, (b : Int), ()) = some (Dx n (fun i => rup (a i + c i) b) e, 0, ()) := by
  simp only [S.zono_wider, L.zono_wider, zono_wider_b, Vx_len]
  rw [ct (by omega), ct (by omega), ← Gx_zero n _ (fun i => Yd (rup (a i + c i) b) e)]
  refine loop_up n (Gx n _ (fun i => Yd (rup (a i + c i) b) e)) (fun k s i => zono_wider_l0 100 k (Dx n a e) (Dx n c e) (b : Int) s (n : Int) i) _ (fun k' i hi => ?_) (fun k => ?_) 100 (by omega)
  · simp only [zono_wider_l0, zono_wider_s0, Vx_len, Gx_len]
    rw [ct (by omega), ct (by omega), ct (by omega), ct (by omega), ct (by omega), Int.toNat_natCast, Vx_get hi, Vx_get hi]
    have e2 := span_Add_Sp (e := e) (b := b) (l := a i) (h := a i) (l' := c i) (h' := c i) ⟨ha i hi, ha i hi⟩ ⟨hc i hi, hc i hi⟩ (by omega) h0 h1 hb hb'
    rw [Point_eq, Option.bind_some, Point_eq, Option.bind_some, show S.span_Add _ = _ from e2, Option.bind_some]
    simp only [decide_true, Bool.not_true, cond_false]
    rw [ct (by omega), ct (by omega), wi1 (by omega)]
    have hs := Gx_set ((false, ([], ())), (0, ())) (fun i => Yd (rup (a i + c i) b) e) hi
    exact congrArg (fun s => zono_wider_l0 100 k' (Dx n a e) (Dx n c e) (b : Int) s (n : Int) ((i + 1 : Nat) : Int)) hs
  · simp only [zono_wider_l0, zono_wider_s0]
    rw [cf (by omega), Gx_full]
/-- zono_points: one round of loop 0. -/
def zono_points_s0 (κ0 : (List SP) → (List DY) → Int → Int → Option ((List SP) × Unit)) (out : List SP) (t9 : List DY) (t10 : Int) (t11 : Int) : Option ((List SP) × Unit) :=
  cond (decide (t11 < t10))
    (
      cond (decide (0 ≤ t11))
        (
          cond (decide (t11 < (t9.length : Int)))
            (
              let z2 := t9.getD t11.toNat ((false, ([], ())), (0, ()))
              (S.span_Point (((z2.1.1, z2.1.2.1, ()), z2.2.1, ()), ())).bind fun z3 =>
              cond (decide (0 ≤ t11))
                (
                  cond (decide (t11 < (out.length : Int)))
                    (
                      κ0 (out.set t11.toNat (((z3.1.1.1.1, z3.1.1.1.2.1, ()), z3.1.1.2.1, ()), ((z3.1.2.1.1.1, z3.1.2.1.1.2.1, ()), z3.1.2.1.2.1, ()), ())) t9 t10 (IntKind.i64.wrap (t11 + 1))) none) none) none) none) (some (out, ()))

def zono_points_l0 (K : Nat) : Nat → (List SP) → (List DY) → Int → Int → Option ((List SP) × Unit)
  | 0, _, _, _, _ => none
  | n + 1, out, t9, t10, t11 => zono_points_s0 (zono_points_l0 K n) out t9 t10 t11

/-- zono.points -/
def zono_points_b (I0 : (List SP) → (List DY) → Int → Int → Option ((List SP) × Unit)) (x : List DY) : Option ((List SP) × Unit) :=
  cond (decide (0 ≤ (x.length : Int)))
    (
      cond (decide ((x.length : Int) * 80 ≤ 140737488351232))
        (
          I0 (List.replicate x.length (((false, ([], ())), (0, ())), (((false, ([], ())), (0, ())), ())) : List SP) x (x.length : Int) 0) none) none

def zono_points (K : Nat) (x : List DY) : Option ((List SP) × Unit) := zono_points_b (zono_points_l0 K K) x

def S.zono_points (x : List DY × Unit) : Option (List SP × Unit) := L.zono_points 100 x.1
abbrev pts (d : Nat → Int) (i : Nat) : Int × Int := (d i, d i)
theorem zono_points_Dx {n : Nat} {d : Nat → Int} {e : Int} (hn : n ≤ 16) : S.zono_points (Dx n d e, ()) = some (Bx n (pts d) e, ()) := by
  simp only [S.zono_points, L.zono_points, zono_points_b, Vx_len]
  rw [ct (by omega), ct (by omega), ← Gx_zero n _ (fun i => Sp (d i) (d i) e)]
  refine loop_up n (Gx n _ (fun i => Sp (d i) (d i) e)) (fun k s i => zono_points_l0 100 k s (Dx n d e) (n : Int) i) _ (fun k' i hi => ?_) (fun k => ?_) 100 (by omega)
  · simp only [zono_points_l0, zono_points_s0, Vx_len, Gx_len]
    rw [ct (by omega), ct (by omega), ct (by omega), Int.toNat_natCast, Vx_get hi, Point_eq, Option.bind_some, ct (by omega), ct (by omega), wi1 (by omega)]
    have hs := Gx_set (((false, ([], ())), (0, ())), (((false, ([], ())), (0, ())), ())) (fun i => Sp (d i) (d i) e) hi
    exact congrArg (fun s => zono_points_l0 100 k' s (Dx n d e) (n : Int) ((i + 1 : Nat) : Int)) hs
  · simp only [zono_points_l0, zono_points_s0]
    rw [cf (by omega), Gx_full]
/-- zono_Of: one round of loop 0. -/
def zono_Of_s0 (κ0 : Int → (List DY) → (List (List DY)) → (List DY) → (List DY) → (List DY) → (List (List DY)) → (List DY) → (List (List RT)) → Int → Int → Option (((List DY) × (List (List DY)) × (List DY) × Unit) × Int × Unit)) (bits : Int) (t4_0 : List DY) (t4_1 : List (List DY)) (t4_2 : List DY) (mid : List DY) (out_0 : List DY) (out_1 : List (List DY)) (out_2 : List DY) (t31 : List (List RT)) (t32 : Int) (t33 : Int) : Option (((List DY) × (List (List DY)) × (List DY) × Unit) × Int × Unit) :=
  cond (decide (t33 < t32))
    (
      cond (decide (0 ≤ t33))
        (
          cond (decide (t33 < (t31.length : Int)))
            (
              let z2 := t31.getD t33.toNat []
              cond (!(decide ((z2.length : Int) = (mid.length : Int)))) (some (([], [], [], ()), 20, ()))
                (
                  (S.zono_list (z2, bits, ())).bind fun z3 =>
                  cond (!(decide (z3.2.2.1 = 0))) (some (([], [], [], ()), z3.2.2.1, ()))
                    (
                      (S.zono_wider (out_2, z3.2.1, bits, ())).bind fun z4 =>
                      cond (!(decide (z4.2.1 = 0))) (some (([], [], [], ()), z4.2.1, ()))
                        (
                          cond (decide ((out_1.length + ([z3.1]).length) * 24 ≤ 140737488351232))
                            (
                              κ0 bits t4_0 t4_1 t4_2 mid out_0 (out_1 ++ ([z3.1])) z4.1 t31 t32 (IntKind.i64.wrap (t33 + 1))) none)))) none) none) (some ((out_0, out_1, out_2, ()), 0, ()))

def zono_Of_l0 (K : Nat) : Nat → Int → (List DY) → (List (List DY)) → (List DY) → (List DY) → (List DY) → (List (List DY)) → (List DY) → (List (List RT)) → Int → Int → Option (((List DY) × (List (List DY)) × (List DY) × Unit) × Int × Unit)
  | 0, _, _, _, _, _, _, _, _, _, _, _ => none
  | n + 1, bits, t4_0, t4_1, t4_2, mid, out_0, out_1, out_2, t31, t32, t33 => zono_Of_s0 (zono_Of_l0 K n) bits t4_0 t4_1 t4_2 mid out_0 out_1 out_2 t31 t32 t33

/-- zono.Of -/
def zono_Of_b (I0 : Int → (List DY) → (List (List DY)) → (List DY) → (List DY) → (List DY) → (List (List DY)) → (List DY) → (List (List RT)) → Int → Int → Option (((List DY) × (List (List DY)) × (List DY) × Unit) × Int × Unit)) (z : (List RT) × (List (List RT)) × Unit) (bits : Int) : Option (((List DY) × (List (List DY)) × (List DY) × Unit) × Int × Unit) :=
  (S.zono_list (z.1, bits, ())).bind fun z1 =>
  cond (!(decide (z1.2.2.1 = 0))) (some (([], [], [], ()), z1.2.2.1, ())) (I0 bits [] [] [] z1.1 z1.1 [] z1.2.1 z.2.1 (z.2.1.length : Int) 0)

def zono_Of (K : Nat) (z : (List RT) × (List (List RT)) × Unit) (bits : Int) : Option (((List DY) × (List (List DY)) × (List DY) × Unit) × Int × Unit) := zono_Of_b (zono_Of_l0 K K) z bits

def S.zono_Of (x : (List RT × List (List RT) × Unit) × Int × Unit) : Option (ZN × Int × Unit) := L.zono_Of 100 x.1 x.2.1
/-- How far each place may be off, after so many ways. -/
def zr (q0 : Nat → Rat) (q : Nat → Nat → Rat) (b B : Nat) : Nat → Nat → Int
  | 0 => mo (nrs q0 b B) b
  | k + 1 => fun i => rup (zr q0 q b B k i + mo (nrs (q k) b B) b i) b
theorem rup_pos {x : Int} (h : 0 ≤ x) (b : Nat) : 0 ≤ rup x b := Int.le_trans h (rup_ge x b)
theorem zr_pos (q0 : Nat → Rat) (q : Nat → Nat → Rat) (b B i : Nat) : ∀ k, 0 ≤ zr q0 q b B k i
  | 0 => mo_pos _ _ _
  | k + 1 => rup_pos (by have := zr_pos q0 q b B i k; have := mo_pos (nrs (q k) b B) b i; omega) b
theorem zr_abs {n m : Nat} {q0 : Nat → Rat} {q : Nat → Nat → Rat} {b B k : Nat} (h0 : bb n (nrs q0 b B) k) (h : ∀ j < m, bb n (nrs (q j) b B) k) : ∀ j ≤ m, nb n (zr q0 q b B j) (k + 4 + 2 * j)
  | 0, _ => mo_abs h0
  | j + 1, hj => fun i hi => by
    have h1 := zr_abs h0 h j (by omega) i hi
    have h2 := nA_up (mo_abs (b := b) (h j (by omega)) i hi) (show k + 4 ≤ k + 4 + 2 * j by omega)
    exact rup_abs (nA_add h1 h2)
abbrev Rx (n : Nat) (q : Nat → Rat) : List RT := Vx n fun i => R (q i)
theorem zono_Of_R {n m : Nat} {q0 : Nat → Rat} {q : Nat → Nat → Rat} {b B j : Nat} (hn : n ≤ 16) (hm : m ≤ 16) (hq0 : ∀ i < n, big (q0 i) j) (hq : ∀ k < m, ∀ i < n, big (q k i) j) (hj : j ≤ 20) (hb : 2 ≤ b) (hb' : b ≤ 4096) (hB : b + 32 * j + 1 ≤ B) (hB' : B ≤ 5000) :
    S.zono_Of ((Rx n q0, Vx m (fun k => Rx n (q k)), ()), (b : Int), ()) = some ((Dx n (md (nrs q0 b B) b) (-(B : Int) - 1), Vx m (fun k => Dx n (md (nrs (q k) b B) b) (-(B : Int) - 1)), Dx n (zr q0 q b B m) (-(B : Int) - 1), ()), 0, ()) := by
  have K0 := nrs_bb (B := B) (k := 400) hq0 hb' (by omega)
  have K : ∀ k < m, bb n (nrs (q k) b B) 400 := fun k hk => nrs_bb (B := B) (k := 400) (hq k hk) hb' (by omega)
  simp only [S.zono_Of, L.zono_Of, zono_Of_b, Vx_len]
  have l0 := zono_list_R (B := B) hn hq0 hj hb hb' hB hB'
  rw [show S.zono_list _ = _ from l0, Option.bind_some]
  simp only [decide_true, Bool.not_true, cond_false]
  refine loop_up m (fun k => (Vx k (fun k => Dx n (md (nrs (q k) b B) b) (-(B : Int) - 1)), Dx n (zr q0 q b B k) (-(B : Int) - 1))) (fun k s i => zono_Of_l0 100 k (b : Int) [] [] [] (Dx n (md (nrs q0 b B) b) (-(B : Int) - 1)) (Dx n (md (nrs q0 b B) b) (-(B : Int) - 1)) s.1 s.2 (Vx m (fun k => Rx n (q k))) (m : Int) i) _ (fun k' i hi => ?_) (fun k => ?_) 100 (by omega)
  · simp only [zono_Of_l0, zono_Of_s0, Vx_len]
    rw [ct (by omega), ct (by omega), ct (by omega), Int.toNat_natCast, Vx_get hi]
    simp only [Vx_len, decide_true, Bool.not_true, cond_false]
    have l1 := zono_list_R (B := B) hn (hq i hi) hj hb hb' hB hB'
    rw [show S.zono_list _ = _ from l1, Option.bind_some]
    simp only [decide_true, Bool.not_true, cond_false]
    have w1 := zono_wider_Dx (e := -(B : Int) - 1) (b := b) (k := 440) hn (fun p hp => nA_up (zr_abs (b := b) K0 K i (by omega) p hp) (by omega)) (fun p hp => nA_up (mo_abs (b := b) (K i hi) p hp) (by omega)) (by omega) (by omega) (by omega) hb hb'
    rw [show S.zono_wider _ = _ from w1, Option.bind_some]
    simp only [decide_true, Bool.not_true, cond_false, List.length_singleton]
    rw [ct (by omega), wi1 (by omega), Vx_succ]
    rfl
  · simp only [zono_Of_l0, zono_Of_s0]
    rw [cf (by omega)]
/-- zono_Box: one round of loop 1. -/
def zono_Box_s1 (κ0 : Int → (List DY) → (List (List DY)) → (List DY) → (List SP) → Int → Int → Option ((List SP) × Int × Unit)) (κ1 : Int → (List DY) → (List (List DY)) → (List DY) → (List SP) → Int → Bool → (List Int) → Int → Bool → (List Int) → Int → Int → Int → (List (List DY)) → Int → Int → Option ((List SP) × Int × Unit)) (bits : Int) (z_0 : List DY) (z_1 : List (List DY)) (z_2 : List DY) (out : List SP) (i : Int) (all_0 : Bool) (all_1 : List Int) (all_2 : Int) (all_3 : Bool) (all_4 : List Int) (all_5 : Int) (t19 : Int) (t20 : Int) (t30 : List (List DY)) (t31 : Int) (t32 : Int) : Option ((List SP) × Int × Unit) :=
  cond (decide (t32 < t31))
    (
      cond (decide (0 ≤ t32))
        (
          cond (decide (t32 < (t30.length : Int)))
            (
              let z4 := t30.getD t32.toNat []
              cond (decide (0 ≤ i))
                (
                  cond (decide (i < (z4.length : Int)))
                    (
                      let z5 := z4.getD i.toNat ((false, ([], ())), (0, ()))
                      (S.span_Even (((z5.1.1, z5.1.2.1, ()), z5.2.1, ()), ())).bind fun z6 =>
                      (S.span_Add ((((all_0, all_1, ()), all_2, ()), ((all_3, all_4, ()), all_5, ()), ()), (((z6.1.1.1.1, z6.1.1.1.2.1, ()), z6.1.1.2.1, ()), ((z6.1.2.1.1.1, z6.1.2.1.1.2.1, ()), z6.1.2.1.2.1, ()), ()), bits, ())).bind fun z7 =>
                      cond (!(decide (z7.2.1 = 0))) (some ([], z7.2.1, ()))
                        (
                          κ1 bits z_0 z_1 z_2 out i z7.1.1.1.1 z7.1.1.1.2.1 z7.1.1.2.1 z7.1.2.1.1.1 z7.1.2.1.1.2.1 z7.1.2.1.2.1 t19 t20 t30 t31 (IntKind.i64.wrap (t32 + 1)))) none) none) none) none)
    (
      cond (decide (0 ≤ i))
        (
          cond (decide (i < (z_0.length : Int)))
            (
              let z9 := z_0.getD i.toNat ((false, ([], ())), (0, ()))
              (S.span_Point (((z9.1.1, z9.1.2.1, ()), z9.2.1, ()), ())).bind fun z10 =>
              (S.span_Add ((((all_0, all_1, ()), all_2, ()), ((all_3, all_4, ()), all_5, ()), ()), (((z10.1.1.1.1, z10.1.1.1.2.1, ()), z10.1.1.2.1, ()), ((z10.1.2.1.1.1, z10.1.2.1.1.2.1, ()), z10.1.2.1.2.1, ()), ()), bits, ())).bind fun z11 =>
              cond (!(decide (z11.2.1 = 0))) (some ([], z11.2.1, ()))
                (
                  cond (decide (0 ≤ i))
                    (
                      cond (decide (i < (out.length : Int)))
                        (
                          κ0 bits z_0 z_1 z_2 (out.set i.toNat (((z11.1.1.1.1, z11.1.1.1.2.1, ()), z11.1.1.2.1, ()), ((z11.1.2.1.1.1, z11.1.2.1.1.2.1, ()), z11.1.2.1.2.1, ()), ())) t19 (IntKind.i64.wrap (t20 + 1))) none) none)) none) none)

def zono_Box_l1 (K : Nat) (κ0 : Int → (List DY) → (List (List DY)) → (List DY) → (List SP) → Int → Int → Option ((List SP) × Int × Unit)) : Nat → Int → (List DY) → (List (List DY)) → (List DY) → (List SP) → Int → Bool → (List Int) → Int → Bool → (List Int) → Int → Int → Int → (List (List DY)) → Int → Int → Option ((List SP) × Int × Unit)
  | 0, _, _, _, _, _, _, _, _, _, _, _, _, _, _, _, _, _ => none
  | n + 1, bits, z_0, z_1, z_2, out, i, all_0, all_1, all_2, all_3, all_4, all_5, t19, t20, t30, t31, t32 => zono_Box_s1 κ0 (zono_Box_l1 K κ0 n) bits z_0 z_1 z_2 out i all_0 all_1 all_2 all_3 all_4 all_5 t19 t20 t30 t31 t32

/-- zono_Box: one round of loop 0. -/
def zono_Box_s0 (I1 : Int → (List DY) → (List (List DY)) → (List DY) → (List SP) → Int → Bool → (List Int) → Int → Bool → (List Int) → Int → Int → Int → (List (List DY)) → Int → Int → Option ((List SP) × Int × Unit)) (κ0 : Int → (List DY) → (List (List DY)) → (List DY) → (List SP) → Int → Int → Option ((List SP) × Int × Unit)) (bits : Int) (z_0 : List DY) (z_1 : List (List DY)) (z_2 : List DY) (out : List SP) (t19 : Int) (t20 : Int) : Option ((List SP) × Int × Unit) :=
  cond (decide (t20 < t19))
    (
      cond (decide (0 ≤ t20))
        (
          cond (decide (t20 < (z_2.length : Int)))
            (
              let z2 := z_2.getD t20.toNat ((false, ([], ())), (0, ()))
              (S.span_Even (((z2.1.1, z2.1.2.1, ()), z2.2.1, ()), ())).bind fun z3 =>
              I1 bits z_0 z_1 z_2 out t20 z3.1.1.1.1 z3.1.1.1.2.1 z3.1.1.2.1 z3.1.2.1.1.1 z3.1.2.1.1.2.1 z3.1.2.1.2.1 t19 t20 z_1 (z_1.length : Int) 0) none) none) (some (out, 0, ()))

def zono_Box_l0 (K : Nat) : Nat → Int → (List DY) → (List (List DY)) → (List DY) → (List SP) → Int → Int → Option ((List SP) × Int × Unit)
  | 0, _, _, _, _, _, _, _ => none
  | n + 1, bits, z_0, z_1, z_2, out, t19, t20 => zono_Box_s0 (zono_Box_l1 K (zono_Box_l0 K n) K) (zono_Box_l0 K n) bits z_0 z_1 z_2 out t19 t20

/-- zono.Box -/
def zono_Box_b (I0 : Int → (List DY) → (List (List DY)) → (List DY) → (List SP) → Int → Int → Option ((List SP) × Int × Unit)) (z : (List DY) × (List (List DY)) × (List DY) × Unit) (bits : Int) : Option ((List SP) × Int × Unit) :=
  cond (decide (0 ≤ (z.1.length : Int)))
    (
      cond (decide ((z.1.length : Int) * 80 ≤ 140737488351232))
        (
          let z1 := (List.replicate z.1.length (((false, ([], ())), (0, ())), (((false, ([], ())), (0, ())), ())) : List SP)
          I0 bits z.1 z.2.1 z.2.2.1 z1 (z1.length : Int) 0) none) none

def zono_Box (K : Nat) (z : (List DY) × (List (List DY)) × (List DY) × Unit) (bits : Int) : Option ((List SP) × Int × Unit) := zono_Box_b (zono_Box_l0 K K) z bits

def S.zono_Box (x : ZN × Int × Unit) : Option (List SP × Int × Unit) := L.zono_Box 100 x.1 x.2.1
theorem lt2_even {x : Int} {k : Nat} (h : x.natAbs < P k) : lt2 (-(x.natAbs : Int)) (x.natAbs : Int) k := ⟨by rw [Int.natAbs_neg, Int.natAbs_natCast]; exact h, by rw [Int.natAbs_natCast]; exact h⟩
end Go.L

/-! BB -/
namespace Go.L
open Go.PM
set_option exponentiation.threshold 20000
set_option linter.unusedVariables false
set_option linter.unusedSimpArgs false

theorem qabs_pos (x : Rat) : 0 ≤ qabs x := by unfold qabs; split <;> grind
theorem qabs_ge (x : Rat) : x ≤ qabs x ∧ -x ≤ qabs x := by unfold qabs; split <;> grind
theorem qabs_le' {x y : Rat} (h1 : x ≤ y) (h2 : -x ≤ y) : qabs x ≤ y := by unfold qabs; split <;> grind
theorem qabs_add (x y : Rat) : qabs (x + y) ≤ qabs x + qabs y := by
  have h1 := qabs_ge x
  have h2 := qabs_ge y
  exact qabs_le' (by grind) (by grind)
theorem qabs_of {x : Rat} (h : 0 ≤ x) : qabs x = x := by unfold qabs; rw [if_neg (Rat.not_lt.2 h)]
theorem qabs_neg (x : Rat) : qabs (-x) = qabs x := by unfold qabs; split <;> split <;> grind
theorem qmul_le {a b c d : Rat} (h1 : a ≤ b) (h2 : c ≤ d) (h3 : 0 ≤ c) (h4 : 0 ≤ b) : a * c ≤ b * d := Rat.le_trans (Rat.mul_le_mul_of_nonneg_right h1 h3) (Rat.mul_le_mul_of_nonneg_left h2 h4)
theorem qabs_mul (x y : Rat) : qabs (x * y) = qabs x * qabs y := by
  by_cases hx : 0 ≤ x <;> by_cases hy : 0 ≤ y
  · rw [qabs_of hx, qabs_of hy, qabs_of (Rat.mul_nonneg hx hy)]
  · have := Rat.mul_nonneg hx (show 0 ≤ -y by grind)
    rw [qabs_of hx, ← qabs_neg y, qabs_of (show 0 ≤ -y by grind), ← qabs_neg, qabs_of (by grind)]; grind
  · have := Rat.mul_nonneg (show 0 ≤ -x by grind) hy
    rw [qabs_of hy, ← qabs_neg x, qabs_of (show 0 ≤ -x by grind), ← qabs_neg, qabs_of (by grind)]; grind
  · have := Rat.mul_nonneg (show 0 ≤ -x by grind) (show 0 ≤ -y by grind)
    rw [← qabs_neg x, ← qabs_neg y, qabs_of (show 0 ≤ -x by grind), qabs_of (show 0 ≤ -y by grind), qabs_of (by grind)]; grind
theorem sumQ_congr {f g : Nat → Rat} : ∀ {n : Nat}, (∀ i < n, f i = g i) → sumQ f n = sumQ g n
  | 0, _ => rfl
  | n + 1, h => by simp only [sumQ]; rw [sumQ_congr fun i hi => h i (by omega), h n (by omega)]
theorem sumQ_le {f g : Nat → Rat} : ∀ {n : Nat}, (∀ i < n, f i ≤ g i) → sumQ f n ≤ sumQ g n
  | 0, _ => Rat.le_refl
  | n + 1, h => by
    have h1 := sumQ_le (n := n) fun i hi => h i (by omega)
    have h2 := h n (by omega)
    simp only [sumQ]; grind
theorem sumQ_add {f g : Nat → Rat} : ∀ n : Nat, sumQ (fun i => f i + g i) n = sumQ f n + sumQ g n
  | 0 => by simp only [sumQ]; grind
  | n + 1 => by simp only [sumQ]; rw [sumQ_add n]; grind
theorem sumQ_mul {f : Nat → Rat} (a : Rat) : ∀ n : Nat, sumQ (fun i => a * f i) n = a * sumQ f n
  | 0 => by simp only [sumQ]; grind
  | n + 1 => by simp only [sumQ]; rw [sumQ_mul a n]; grind
theorem sumQ_zero {f : Nat → Rat} : ∀ {n : Nat}, (∀ i < n, f i = 0) → sumQ f n = 0
  | 0, _ => rfl
  | n + 1, h => by simp only [sumQ]; rw [sumQ_zero fun i hi => h i (by omega), h n (by omega)]; grind
theorem sumQ_abs {f : Nat → Rat} : ∀ n : Nat, qabs (sumQ f n) ≤ sumQ (fun i => qabs (f i)) n
  | 0 => by simp only [sumQ]; decide
  | n + 1 => by
    have h1 := sumQ_abs (f := f) n
    have h2 := qabs_add (sumQ f n) (f n)
    simp only [sumQ]; grind
theorem sumQ_comm {f : Nat → Nat → Rat} (m : Nat) : ∀ n : Nat, sumQ (fun i => sumQ (fun k => f k i) m) n = sumQ (fun k => sumQ (fun i => f k i) n) m
  | 0 => by simp only [sumQ]; exact (sumQ_zero fun _ _ => rfl).symm
  | n + 1 => by
    simp only [sumQ]
    rw [sumQ_comm m n, ← sumQ_add]
/-- The most a set goes in a direction. -/
def Tq (c r : Nat → Rat) (g : Nat → Nat → Rat) (q : Nat → Rat) (n m : Nat) : Rat := sumQ (fun i => c i * q i) n + sumQ (fun k => qabs (sumQ (fun i => g k i * q i) n)) m + sumQ (fun i => r i * qabs (q i)) n
/-- zono_Support: one round of loop 1. -/
def zono_Support_s1 (κ0 : (List SP) → Int → (List DY) → (List (List DY)) → (List DY) → Bool → (List Int) → Int → Bool → (List Int) → Int → Bool → (List Int) → Int → (List (List DY)) → Int → Int → Option (DY × Int × Unit)) (κ1 : (List SP) → Int → Bool → (List Int) → Int → Bool → (List Int) → Int → Bool → (List Int) → Int → (List DY) → Int → Int → Option (DY × Int × Unit)) (dir : List SP) (bits : Int) (t6_0 : Bool) (t6_1 : List Int) (t6_2 : Int) (all_0 : Bool) (all_1 : List Int) (all_2 : Int) (all_3 : Bool) (all_4 : List Int) (all_5 : Int) (t65 : List DY) (t66 : Int) (t67 : Int) : Option (DY × Int × Unit) :=
  cond (decide (t67 < t66))
    (
      cond (decide (0 ≤ t67))
        (
          cond (decide (t67 < (t65.length : Int)))
            (
              let z10 := t65.getD t67.toNat ((false, ([], ())), (0, ()))
              cond (decide (0 ≤ t67))
                (
                  cond (decide (t67 < (dir.length : Int)))
                    (
                      let z11 := dir.getD t67.toNat (((false, ([], ())), (0, ())), (((false, ([], ())), (0, ())), ()))
                      (S.span_Point (((z10.1.1, z10.1.2.1, ()), z10.2.1, ()), ())).bind fun z12 =>
                      (S.span_Size ((((z11.1.1.1, z11.1.1.2.1, ()), z11.1.2.1, ()), ((z11.2.1.1.1, z11.2.1.1.2.1, ()), z11.2.1.2.1, ()), ()), ())).bind fun z13 =>
                      (S.span_Point (((z13.1.1.1, z13.1.1.2.1, ()), z13.1.2.1, ()), ())).bind fun z14 =>
                      (S.span_Mul ((((z12.1.1.1.1, z12.1.1.1.2.1, ()), z12.1.1.2.1, ()), ((z12.1.2.1.1.1, z12.1.2.1.1.2.1, ()), z12.1.2.1.2.1, ()), ()), (((z14.1.1.1.1, z14.1.1.1.2.1, ()), z14.1.1.2.1, ()), ((z14.1.2.1.1.1, z14.1.2.1.1.2.1, ()), z14.1.2.1.2.1, ()), ()), bits, ())).bind fun z15 =>
                      cond (!(decide (z15.2.1 = 0))) (some (((false, [], ()), 0, ()), z15.2.1, ()))
                        (
                          (S.span_Add ((((all_0, all_1, ()), all_2, ()), ((all_3, all_4, ()), all_5, ()), ()), (((z15.1.1.1.1, z15.1.1.1.2.1, ()), z15.1.1.2.1, ()), ((z15.1.2.1.1.1, z15.1.2.1.1.2.1, ()), z15.1.2.1.2.1, ()), ()), bits, ())).bind fun z16 =>
                          cond (!(decide (z16.2.1 = 0))) (some (((false, [], ()), 0, ()), z16.2.1, ()))
                            (
                              κ1 dir bits t6_0 t6_1 t6_2 z16.1.1.1.1 z16.1.1.1.2.1 z16.1.1.2.1 z16.1.2.1.1.1 z16.1.2.1.1.2.1 z16.1.2.1.2.1 t65 t66 (IntKind.i64.wrap (t67 + 1))))) none) none) none) none) (some (((all_3, all_4, ()), all_5, ()), 0, ()))

def zono_Support_l1 (K : Nat) (κ0 : (List SP) → Int → (List DY) → (List (List DY)) → (List DY) → Bool → (List Int) → Int → Bool → (List Int) → Int → Bool → (List Int) → Int → (List (List DY)) → Int → Int → Option (DY × Int × Unit)) : Nat → (List SP) → Int → Bool → (List Int) → Int → Bool → (List Int) → Int → Bool → (List Int) → Int → (List DY) → Int → Int → Option (DY × Int × Unit)
  | 0, _, _, _, _, _, _, _, _, _, _, _, _, _, _ => none
  | n + 1, dir, bits, t6_0, t6_1, t6_2, all_0, all_1, all_2, all_3, all_4, all_5, t65, t66, t67 => zono_Support_s1 κ0 (zono_Support_l1 K κ0 n) dir bits t6_0 t6_1 t6_2 all_0 all_1 all_2 all_3 all_4 all_5 t65 t66 t67

/-- zono_Support: one round of loop 0. -/
def zono_Support_s0 (I1 : (List SP) → Int → Bool → (List Int) → Int → Bool → (List Int) → Int → Bool → (List Int) → Int → (List DY) → Int → Int → Option (DY × Int × Unit)) (κ0 : (List SP) → Int → (List DY) → (List (List DY)) → (List DY) → Bool → (List Int) → Int → Bool → (List Int) → Int → Bool → (List Int) → Int → (List (List DY)) → Int → Int → Option (DY × Int × Unit)) (dir : List SP) (bits : Int) (z_0 : List DY) (z_1 : List (List DY)) (z_2 : List DY) (t6_0 : Bool) (t6_1 : List Int) (t6_2 : Int) (all_0 : Bool) (all_1 : List Int) (all_2 : Int) (all_3 : Bool) (all_4 : List Int) (all_5 : Int) (t32 : List (List DY)) (t33 : Int) (t34 : Int) : Option (DY × Int × Unit) :=
  cond (decide (t34 < t33))
    (
      cond (decide (0 ≤ t34))
        (
          cond (decide (t34 < (t32.length : Int)))
            (
              (S.zono_points ((t32.getD t34.toNat []), ())).bind fun z4 =>
              (S.vec_Inner (z4.1, dir, bits, ())).bind fun z5 =>
              cond (!(decide (z5.2.1 = 0))) (some (((false, [], ()), 0, ()), z5.2.1, ()))
                (
                  (S.span_Size ((((z5.1.1.1.1, z5.1.1.1.2.1, ()), z5.1.1.2.1, ()), ((z5.1.2.1.1.1, z5.1.2.1.1.2.1, ()), z5.1.2.1.2.1, ()), ()), ())).bind fun z6 =>
                  (S.span_Point (((z6.1.1.1, z6.1.1.2.1, ()), z6.1.2.1, ()), ())).bind fun z7 =>
                  (S.span_Add ((((all_0, all_1, ()), all_2, ()), ((all_3, all_4, ()), all_5, ()), ()), (((z7.1.1.1.1, z7.1.1.1.2.1, ()), z7.1.1.2.1, ()), ((z7.1.2.1.1.1, z7.1.2.1.1.2.1, ()), z7.1.2.1.2.1, ()), ()), bits, ())).bind fun z8 =>
                  cond (!(decide (z8.2.1 = 0))) (some (((false, [], ()), 0, ()), z8.2.1, ()))
                    (
                      κ0 dir bits z_0 z_1 z_2 t6_0 t6_1 t6_2 z8.1.1.1.1 z8.1.1.1.2.1 z8.1.1.2.1 z8.1.2.1.1.1 z8.1.2.1.1.2.1 z8.1.2.1.2.1 t32 t33 (IntKind.i64.wrap (t34 + 1))))) none) none) (I1 dir bits t6_0 t6_1 t6_2 all_0 all_1 all_2 all_3 all_4 all_5 z_2 (z_2.length : Int) 0)

def zono_Support_l0 (K : Nat) : Nat → (List SP) → Int → (List DY) → (List (List DY)) → (List DY) → Bool → (List Int) → Int → Bool → (List Int) → Int → Bool → (List Int) → Int → (List (List DY)) → Int → Int → Option (DY × Int × Unit)
  | 0, _, _, _, _, _, _, _, _, _, _, _, _, _, _, _, _, _ => none
  | n + 1, dir, bits, z_0, z_1, z_2, t6_0, t6_1, t6_2, all_0, all_1, all_2, all_3, all_4, all_5, t32, t33, t34 => zono_Support_s0 (zono_Support_l1 K (zono_Support_l0 K n) K) (zono_Support_l0 K n) dir bits z_0 z_1 z_2 t6_0 t6_1 t6_2 all_0 all_1 all_2 all_3 all_4 all_5 t32 t33 t34

/-- zono.Support -/
def zono_Support_b (I0 : (List SP) → Int → (List DY) → (List (List DY)) → (List DY) → Bool → (List Int) → Int → Bool → (List Int) → Int → Bool → (List Int) → Int → (List (List DY)) → Int → Int → Option (DY × Int × Unit)) (z : ZN) (dir : List SP) (bits : Int) : Option (DY × Int × Unit) :=
  (S.zono_points (z.1, ())).bind fun z1 =>
  (S.vec_Inner (z1.1, dir, bits, ())).bind fun z2 =>
  cond (!(decide (z2.2.1 = 0))) (some (((false, [], ()), 0, ()), z2.2.1, ()))
    (
      I0 dir bits z.1 z.2.1 z.2.2.1 false [] 0 z2.1.1.1.1 z2.1.1.1.2.1 z2.1.1.2.1 z2.1.2.1.1.1 z2.1.2.1.1.2.1 z2.1.2.1.2.1 z.2.1 (z.2.1.length : Int) 0)

def zono_Support (K : Nat) (z : ZN) (dir : List SP) (bits : Int) : Option (DY × Int × Unit) := zono_Support_b (zono_Support_l0 K K) z dir bits

def S.zono_Support (x : ZN × List SP × Int × Unit) : Option (DY × Int × Unit) := L.zono_Support 100 x.1 x.2.1 x.2.2.1
def sz2 (z : Int × Int) : Int := max (z.1.natAbs : Int) (z.2.natAbs : Int)
theorem sz2_abs {z : Int × Int} {k : Nat} (h : lt2 z.1 z.2 k) : (sz2 z).natAbs < P k := max_abs h.1 h.2
theorem sz2_pos (z : Int × Int) : 0 ≤ sz2 z := by unfold sz2; omega
def zs (c : Nat → Int) (g : Nat → Nat → Int) (d : Nat → Int × Int) (b n : Nat) : Nat → Int × Int
  | 0 => inn (pts c) d b n
  | k + 1 => (rdn ((zs c g d b n k).1 + sz2 (inn (pts (g k)) d b n)) b, rup ((zs c g d b n k).2 + sz2 (inn (pts (g k)) d b n)) b)
def zt (s : Int × Int) (r : Nat → Int) (d : Nat → Int × Int) (b : Nat) : Nat → Int × Int
  | 0 => s
  | i + 1 => (rdn ((zt s r d b i).1 + rdn (mlo (r i) (r i) (sz2 (d i)) (sz2 (d i))) b) b, rup ((zt s r d b i).2 + rup (mhi (r i) (r i) (sz2 (d i)) (sz2 (d i))) b) b)
theorem pts_bb {n : Nat} {c : Nat → Int} {k : Nat} (h : nb n c k) : bb n (pts c) k := fun i hi => ⟨h i hi, h i hi⟩
theorem zs_abs {n m : Nat} {c : Nat → Int} {g : Nat → Nat → Int} {d : Nat → Int × Int} {b j k : Nat} (hc : nb n c j) (hg : ∀ p < m, nb n (g p) j) (hd : bb n d k) : ∀ p ≤ m, lt2 (zs c g d b n p).1 (zs c g d b n p).2 (j + k + 1 + 2 * n + 2 * p)
  | 0, _ => inn_abs (pts_bb hc) hd n (Nat.le_refl _)
  | p + 1, hp => by
    have h1 := zs_abs (b := b) hc hg hd p (by omega)
    have h2 := nA_up (sz2_abs (inn_abs (b := b) (pts_bb (hg p (by omega))) hd n (Nat.le_refl _))) (show j + k + 1 + 2 * n ≤ j + k + 1 + 2 * n + 2 * p by omega)
    exact ⟨rdn_abs (nA_add h1.1 h2), rup_abs (nA_add h1.2 h2)⟩
theorem rs_lt2 {n : Nat} {r : Nat → Int} {d : Nat → Int × Int} {b j k : Nat} (hr : nb n r j) (hd : bb n d k) {i : Nat} (hi : i < n) : lt2 (rdn (mlo (r i) (r i) (sz2 (d i)) (sz2 (d i))) b) (rup (mhi (r i) (r i) (sz2 (d i)) (sz2 (d i))) b) (j + k + 1) := by
  have h2 := mlo_abs ⟨hr i hi, hr i hi⟩ ⟨sz2_abs (hd i hi), sz2_abs (hd i hi)⟩
  exact ⟨rdn_abs h2.1, rup_abs h2.2⟩
theorem zt_abs {n : Nat} {s : Int × Int} {r : Nat → Int} {d : Nat → Int × Int} {b j k q : Nat} (hs : lt2 s.1 s.2 q) (hr : nb n r j) (hd : bb n d k) (hq : j + k + 1 ≤ q) : ∀ i ≤ n, lt2 (zt s r d b i).1 (zt s r d b i).2 (q + 2 * i)
  | 0, _ => hs
  | i + 1, hi => by
    have h1 := zt_abs (b := b) hs hr hd hq i (by omega)
    have h2 := lt2_up (rs_lt2 (b := b) hr hd (show i < n by omega)) (show j + k + 1 ≤ q + 2 * i by omega)
    exact ⟨rdn_abs (nA_add h1.1 h2.1), rup_abs (nA_add h1.2 h2.2)⟩
/-- What is told of a direction. -/
def zsup (c r : Nat → Int) (g : Nat → Nat → Int) (d : Nat → Int × Int) (b n m : Nat) : Int := (zt (zs c g d b n m) r d b n).2
theorem zsup_abs {n m : Nat} {c r : Nat → Int} {g : Nat → Nat → Int} {d : Nat → Int × Int} {b j k : Nat} (hc : nb n c j) (hr : nb n r j) (hg : ∀ p < m, nb n (g p) j) (hd : bb n d k) : (zsup c r g d b n m).natAbs < P (j + k + 1 + 4 * n + 2 * m) := by
  have h1 := zs_abs (b := b) hc hg hd m (Nat.le_refl _)
  have h2 := (zt_abs (b := b) h1 hr hd (by omega) n (Nat.le_refl _)).2
  exact nA_up h2 (by omega)
theorem zono_Support_Dx {n m : Nat} {c r : Nat → Int} {g : Nat → Nat → Int} {d : Nat → Int × Int} {e e' : Int} {b j k : Nat} (hn : n ≤ 16) (hm : m ≤ 16) (hc : nb n c j) (hr : nb n r j) (hg : ∀ p < m, nb n (g p) j) (hd : bb n d k) (hk : j + k ≤ 380) (h0 : -30000 ≤ e) (h1 : e ≤ 10000) (h2 : -30000 ≤ e') (h3 : e' ≤ 10000) (hb : 2 ≤ b) (hb' : b ≤ 4096) :
    S.zono_Support ((Dx n c e, Vx m (fun p => Dx n (g p) e), Dx n r e, ()), Bx n d e', (b : Int), ()) = some (Yd (zsup c r g d b n m) (e + e'), 0, ()) := by
  simp only [S.zono_Support, L.zono_Support, zono_Support_b, Vx_len]
  have p0 := zono_points_Dx (d := c) (e := e) hn
  have i0 := vec_Inner_Bx (b := b) hn (pts_bb hc) hd (by omega) h0 h1 h2 h3 hb hb'
  rw [show S.zono_points _ = _ from p0, Option.bind_some, show S.vec_Inner _ = _ from i0, Option.bind_some]
  simp only [decide_true, Bool.not_true, cond_false]
  refine loop_up m (fun p => Sp (zs c g d b n p).1 (zs c g d b n p).2 (e + e')) (fun k s p => zono_Support_l0 100 k (Bx n d e') (b : Int) (Dx n c e) (Vx m (fun p => Dx n (g p) e)) (Dx n r e) false [] 0 s.1.1.1 s.1.1.2.1 s.1.2.1 s.2.1.1.1 s.2.1.1.2.1 s.2.1.2.1 (Vx m (fun p => Dx n (g p) e)) (m : Int) p) _ (fun k' p hp => ?_) (fun k' => ?_) 100 (by omega)
  · simp only [zono_Support_l0, zono_Support_s0, Vx_len]
    rw [ct (by omega), ct (by omega), ct (by omega), Int.toNat_natCast, Vx_get hp]
    have p1 := zono_points_Dx (d := g p) (e := e) hn
    have i1 := vec_Inner_Bx (b := b) hn (pts_bb (hg p hp)) hd (by omega) h0 h1 h2 h3 hb hb'
    rw [show S.zono_points _ = _ from p1, Option.bind_some, show S.vec_Inner _ = _ from i1, Option.bind_some]
    simp only [decide_true, Bool.not_true, cond_false]
    have a1 := inn_abs (b := b) (pts_bb (hg p hp)) hd n (Nat.le_refl _)
    have s1 : S.span_Size (Sp (inn (pts (g p)) d b n).1 (inn (pts (g p)) d b n).2 (e + e'), ()) = some (Yd (sz2 (inn (pts (g p)) d b n)) (e + e'), ()) := span_Size_Sp (e := e + e') a1 (by omega) (by omega) (by omega)
    rw [show S.span_Size _ = _ from s1, Option.bind_some, Point_eq, Option.bind_some]
    have a2 := nA_up (sz2_abs a1) (show j + k + 1 + 2 * n ≤ j + k + 1 + 2 * n + 2 * p by omega)
    have e3 := span_Add_Sp (e := e + e') (b := b) (zs_abs (b := b) hc hg hd p (by omega)) ⟨a2, a2⟩ (by omega) (by omega) (by omega) hb hb'
    rw [show S.span_Add _ = _ from e3, Option.bind_some]
    simp only [decide_true, Bool.not_true, cond_false]
    rw [wi1 (by omega)]
    rfl
  · simp only [zono_Support_l0, zono_Support_s0, Vx_len]
    rw [cf (by omega)]
    have hs := zs_abs (b := b) hc hg hd m (Nat.le_refl _)
    refine loop_up n (fun i => Sp (zt (zs c g d b n m) r d b i).1 (zt (zs c g d b n m) r d b i).2 (e + e')) (fun k2 s i => zono_Support_l1 100 (zono_Support_l0 100 k') k2 (Bx n d e') (b : Int) false [] 0 s.1.1.1 s.1.1.2.1 s.1.2.1 s.2.1.1.1 s.2.1.1.2.1 s.2.1.2.1 (Dx n r e) (n : Int) i) _ (fun k2 i hi => ?_) (fun k2 => ?_) 100 (by omega)
    · simp only [zono_Support_l1, zono_Support_s1, Vx_len]
      rw [ct (by omega), ct (by omega), ct (by omega), ct (by omega), ct (by omega), Int.toNat_natCast, Vx_get hi, Vx_get hi, Point_eq, Option.bind_some]
      have s1 : S.span_Size (Sp (d i).1 (d i).2 e', ()) = some (Yd (sz2 (d i)) e', ()) := span_Size_Sp (e := e') (hd i hi) (by omega) (by omega) (by omega)
      rw [show S.span_Size _ = _ from s1, Option.bind_some, Point_eq, Option.bind_some]
      have sd := sz2_abs (hd i hi)
      have e2 := span_Mul_Sp (e := e) (f := e') (b := b) ⟨hr i hi, hr i hi⟩ ⟨sd, sd⟩ (by omega) h0 h1 h2 h3 hb hb'
      rw [show S.span_Mul _ = _ from e2, Option.bind_some]
      simp only [decide_true, Bool.not_true, cond_false]
      have e3 := span_Add_Sp (e := e + e') (b := b) (zt_abs (b := b) hs hr hd (by omega) i (by omega)) (lt2_up (rs_lt2 (b := b) hr hd hi) (show j + k + 1 ≤ j + k + 1 + 2 * n + 2 * m + 2 * i by omega)) (by omega) (by omega) (by omega) hb hb'
      rw [show S.span_Add _ = _ from e3, Option.bind_some]
      simp only [decide_true, Bool.not_true, cond_false]
      rw [wi1 (by omega)]
      rfl
    · simp only [zono_Support_l1, zono_Support_s1]
      rw [cf (by omega)]
      rfl
end Go.L

/-! BC -/
namespace Go.L
open Go.PM
set_option exponentiation.threshold 20000
set_option linter.unusedVariables false
set_option linter.unusedSimpArgs false

theorem mhi_same (a c : Int) : mhi a a c c = a * c := by unfold mhi; omega
theorem dv_sz2 {z : Int × Int} {e : Int} {v : Rat} (h1 : dv z.1 e ≤ v) (h2 : v ≤ dv z.2 e) : qabs v ≤ dv (sz2 z) e := qabs_le h1 h2
theorem zs_ge {n m : Nat} {c : Nat → Int} {g : Nat → Nat → Int} {d : Nat → Int × Int} {q : Nat → Rat} {e e' : Int} {b : Nat} (hq : ∀ i < n, dv (d i).1 e' ≤ q i ∧ q i ≤ dv (d i).2 e') : ∀ p ≤ m, sumQ (fun i => dv (c i) e * q i) n + sumQ (fun k => qabs (sumQ (fun i => dv (g k i) e * q i) n)) p ≤ dv (zs c g d b n p).2 (e + e')
  | 0, _ => by
    have := (inn_sum (f := pts c) (x := c) (q := q) (e := e) (b := b) (fun i hi => ⟨Int.le_refl _, Int.le_refl _⟩) hq n (Nat.le_refl _)).2
    simp only [sumQ, zs]; grind
  | p + 1, hp => by
    have h1 := zs_ge (m := m) (c := c) (g := g) (b := b) (e := e) hq p (by omega)
    have h2 := inn_sum (f := pts (g p)) (x := g p) (q := q) (e := e) (b := b) (fun i hi => ⟨Int.le_refl _, Int.le_refl _⟩) hq n (Nat.le_refl _)
    have h3 := dv_sz2 h2.1 h2.2
    have h4 := (dv_le (e := e + e')).2 (rup_ge ((zs c g d b n p).2 + sz2 (inn (pts (g p)) d b n)) b)
    rw [dv_add] at h4
    simp only [sumQ, zs]; grind
theorem zt_ge {n : Nat} {s : Int × Int} {r : Nat → Int} {d : Nat → Int × Int} {q : Nat → Rat} {e e' : Int} {b : Nat} (hr : ∀ i < n, 0 ≤ r i) (hq : ∀ i < n, dv (d i).1 e' ≤ q i ∧ q i ≤ dv (d i).2 e') : ∀ i ≤ n, dv s.2 (e + e') + sumQ (fun i => dv (r i) e * qabs (q i)) i ≤ dv (zt s r d b i).2 (e + e')
  | 0, _ => by simp only [sumQ, zt]; grind
  | i + 1, hi => by
    have h1 := zt_ge (s := s) (b := b) (e := e) hr hq i (by omega)
    obtain ⟨q1, q2⟩ := hq i (by omega)
    have h2 := dv_sz2 q1 q2
    have h3 := (dv_le (e := e)).2 (hr i (by omega))
    rw [dv_zero] at h3
    have h4 := Rat.mul_le_mul_of_nonneg_left h2 h3
    rw [← dv_mul] at h4
    have h5 := rup_ge (mhi (r i) (r i) (sz2 (d i)) (sz2 (d i))) b
    rw [mhi_same] at h5
    have h6 := (dv_le (e := e + e')).2 (rup_ge ((zt s r d b i).2 + rup (r i * sz2 (d i)) b) b)
    have h7 := (dv_le (e := e + e')).2 h5
    rw [dv_add] at h6
    simp only [sumQ, zt, mhi_same]; grind
theorem zsup_ge {n m : Nat} {c r : Nat → Int} {g : Nat → Nat → Int} {d : Nat → Int × Int} {q : Nat → Rat} {e e' : Int} {b : Nat} (hr : ∀ i < n, 0 ≤ r i) (hq : ∀ i < n, dv (d i).1 e' ≤ q i ∧ q i ≤ dv (d i).2 e') : Tq (fun i => dv (c i) e) (fun i => dv (r i) e) (fun k i => dv (g k i) e) q n m ≤ dv (zsup c r g d b n m) (e + e') := by
  have h1 := zs_ge (c := c) (g := g) (b := b) (e := e) hq m (Nat.le_refl _)
  have h2 := zt_ge (s := zs c g d b n m) (b := b) (e := e) hr hq n (Nat.le_refl _)
  unfold Tq zsup
  grind
-- not much more
end Go.L
