/-
  the laws of sets: both ways round. the laws of sets: sums. the laws of sets: not much more. the laws of sets: not much more: the law. the laws of sets: tables.
  No condition beyond those that each theorem names.
-/
import Derived.Test.YtdgldaahflpndaaGreatDoorV

/-! DG -/
namespace Go.L
open Go.PM
set_option exponentiation.threshold 20000
set_option linter.unusedVariables false
set_option linter.unusedSimpArgs false

end Go.L

/-! DH -/
namespace Go.L
open Go.PM
set_option exponentiation.threshold 20000
set_option linter.unusedVariables false
set_option linter.unusedSimpArgs false

end Go.L

/-! DI -/
namespace Go.L
open Go.PM
set_option exponentiation.threshold 20000
set_option linter.unusedVariables false
set_option linter.unusedSimpArgs false

end Go.L

/-! DJ -/
namespace Go.L
open Go.PM
set_option exponentiation.threshold 20000
set_option linter.unusedVariables false
set_option linter.unusedSimpArgs false

end Go.L

/-! DK -/
namespace Go.L
open Go.PM
set_option exponentiation.threshold 20000
set_option linter.unusedVariables false
set_option linter.unusedSimpArgs false

theorem mat_Near_R {n : Nat} {a : Nat → Nat → Rat} {b : Nat} (hn : n ≤ 16) (ha : ∀ i < n, big1 n (a i)) (hb : 2 ≤ b) (hb' : b ≤ 100) : S.mat_Near (Vx n (fun i => Rx n (a i)), (b : Int), ()) = some (Vx n (fun i => Bx n (nrs (a i) b 300) (-((300 : Nat) : Int))), 0, ()) := by
  simp only [S.mat_Near, L.mat_Near, mat_Near_b, Vx_len]
  rw [ct (by omega), ct (by omega), ← Gx_zero n _ (fun i => Bx n (nrs (a i) b 300) (-((300 : Nat) : Int)))]
  refine loop_up n (Gx n _ (fun i => Bx n (nrs (a i) b 300) (-((300 : Nat) : Int)))) (fun k s i => mat_Near_l0 100 k (b : Int) s (Vx n (fun i => Rx n (a i))) (n : Int) i) _ (fun k i hi => ?_) (fun k => ?_) 100 (by omega)
  · simp only [mat_Near_l0, mat_Near_s0, Vx_len, Gx_len]
    have v1 := vec_Near_nr (b := b) (B := 300) hn (ha i hi) (by decide) (by omega) (by omega) (by omega)
    rw [ct (by omega), ct (by omega), ct (by omega), Int.toNat_natCast, Vx_get hi, show S.vec_Near _ = _ from v1, Option.bind_some]
    simp only [decide_true, Bool.not_true, cond_false]
    rw [ct (by omega), ct (by omega), wi1 (by omega)]
    exact congrArg (fun s => mat_Near_l0 100 k (b : Int) s (Vx n (fun i => Rx n (a i))) (n : Int) ((i + 1 : Nat) : Int)) (Gx_set [] (fun i => Bx n (nrs (a i) b 300) (-((300 : Nat) : Int))) hi)
  · simp only [mat_Near_l0, mat_Near_s0]
    rw [cf (by omega), Gx_full]
theorem mat_Apply_R {n : Nat} {a : Nat → Nat → Rat} {p : Nat → Rat} (hn : n ≤ 4) (ha : ∀ i < n, big1 n (a i)) (hp : ∀ i < n, big (p i) 16) : S.mat_Apply (Vx n (fun i => Rx n (a i)), Rx n p, ()) = some (Rx n (app2 a p n), 0, ()) := by
  simp only [S.mat_Apply, L.mat_Apply, mat_Apply_b, Vx_len]
  rw [ct (by omega), ct (by omega), ← Gx_zero n _ (fun i => R (app2 a p n i))]
  refine loop_up n (Gx n _ (fun i => R (app2 a p n i))) (fun k s i => mat_Apply_l0 100 k (Rx n p) s (Vx n (fun i => Rx n (a i))) (n : Int) i) _ (fun k i hi => ?_) (fun k => ?_) 100 (by omega)
  · simp only [mat_Apply_l0, mat_Apply_s0, Vx_len, Gx_len]
    have hs := big_sum (f := fun j => a i j * p j) (n := n) (k := 17) (fun j hj => big_mul (ha i hi j hj) (hp j hj))
    have v3 := vec_Dot_R (k := 73) (show n ≤ 16 by omega) (ha i hi) hp (fun j hj => (hs j (by omega)).mono (by omega)) (by decide)
    rw [ct (by omega), ct (by omega), ct (by omega), Int.toNat_natCast, Vx_get hi, show S.vec_Dot _ = _ from v3, Option.bind_some]
    simp only [decide_true, Bool.not_true, cond_false]
    rw [ct (by omega), ct (by omega), wi1 (by omega)]
    exact congrArg (fun s => mat_Apply_l0 100 k (Rx n p) s (Vx n (fun i => Rx n (a i))) (n : Int) ((i + 1 : Nat) : Int)) (Gx_set ((false, ([], ())), ([], ())) (fun i => R (app2 a p n i)) hi)
  · simp only [mat_Apply_l0, mat_Apply_s0]
    rw [cf (by omega), Gx_full]
theorem app2_big {n : Nat} {a : Nat → Nat → Rat} {p : Nat → Rat} (hn : n ≤ 4) (ha : ∀ i < n, big1 n (a i)) (hp : ∀ i < n, big (p i) 16) : ∀ i < n, big (app2 a p n i) 80 := fun i hi => by
  have hs := big_sum (f := fun j => a i j * p j) (n := n) (k := 17) (fun j hj => big_mul (ha i hi j hj) (hp j hj)) n (Nat.le_refl _)
  exact hs.mono (by omega)
/-- The rows of a table that lies in one list. -/
def rowL (l : List RT) (n k : Nat) : List RT := (l.take (k * n + n)).drop (k * n)
/-- w16_ZonoImages: one round of loop 1. -/
def w16_ZonoImages_s1 (κ0 : Int → (List RT) → (List (List RT)) → (List RT) → (List RT) → (List RT) → Int → (List (List RT)) → Int → Int → Option (Bool × Unit)) (κ1 : Int → (List RT) → (List (List RT)) → (List RT) → (List (List RT)) → (List DY) → (List (List DY)) → (List DY) → Int → Int → Option (Bool × Unit)) (bits : Int) (z_0 : List RT) (z_1 : List (List RT)) (dir : List RT) (a : List (List RT)) (y_0 : List DY) (y_1 : List (List DY)) (y_2 : List DY) (t113 : Int) (t114 : Int) : Option (Bool × Unit) :=
  cond (decide (t114 < t113))
    (
      (S.w16_corner ((z_0, z_1, ()), t114, ())).bind fun z18 =>
      (S.mat_Apply (a, z18.1, ())).bind fun z19 =>
      cond (!(decide (z19.2.1 = 0))) (some (false, ()))
        (
          (S.w16_within ((y_0, y_1, y_2, ()), z19.1, dir, bits, ())).bind fun z20 =>
          cond (!z20.1) (some (false, ())) (κ1 bits z_0 z_1 dir a y_0 y_1 y_2 t113 (IntKind.i64.wrap (t114 + 1))))) (some (true, ()))

def w16_ZonoImages_l1 (K : Nat) (κ0 : Int → (List RT) → (List (List RT)) → (List RT) → (List RT) → (List RT) → Int → (List (List RT)) → Int → Int → Option (Bool × Unit)) : Nat → Int → (List RT) → (List (List RT)) → (List RT) → (List (List RT)) → (List DY) → (List (List DY)) → (List DY) → Int → Int → Option (Bool × Unit)
  | 0, _, _, _, _, _, _, _, _, _, _ => none
  | n + 1, bits, z_0, z_1, dir, a, y_0, y_1, y_2, t113, t114 => w16_ZonoImages_s1 κ0 (w16_ZonoImages_l1 K κ0 n) bits z_0 z_1 dir a y_0 y_1 y_2 t113 t114

/-- w16_ZonoImages: one round of loop 0. -/
def w16_ZonoImages_s0 (I1 : Int → (List RT) → (List (List RT)) → (List RT) → (List (List RT)) → (List DY) → (List (List DY)) → (List DY) → Int → Int → Option (Bool × Unit)) (κ0 : Int → (List RT) → (List (List RT)) → (List RT) → (List RT) → (List RT) → Int → (List (List RT)) → Int → Int → Option (Bool × Unit)) (bits : Int) (z_0 : List RT) (z_1 : List (List RT)) (list_0 : List RT) (list_1 : List RT) (dir : List RT) (n2 : Int) (a : List (List RT)) (t53 : Int) (t54 : Int) : Option (Bool × Unit) :=
  cond (decide (t54 < t53))
    (
      let z5 := IntKind.i64.wrap (t54 * n2)
      let z7 := IntKind.i64.wrap ((IntKind.i64.wrap (t54 * n2)) + n2)
      cond (decide (0 ≤ z5))
        (
          cond (decide (z5 ≤ z7))
            (
              cond (decide (z7 ≤ (list_0.length : Int)))
                (
                  let z8 := (list_0.take z7.toNat).drop z5.toNat
                  cond (decide ((a.length + ([z8]).length) * 24 ≤ 140737488351232))
                    (
                      cond (decide (0 ≤ t54))
                        (
                          cond (decide (t54 < ((a ++ ([z8])).length : Int)))
                            (
                              (S.w16_numbers (((a ++ ([z8])).getD t54.toNat []), n2, ())).bind fun z11 =>
                              cond (!z11.1) (some (true, ())) (κ0 bits z_0 z_1 list_0 list_1 dir n2 (a ++ ([z8])) t53 (IntKind.i64.wrap (t54 + 1)))) none) none) none) none) none) none)
    (
      (S.zono_Of ((z_0, z_1, ()), bits, ())).bind fun z13 =>
      (S.mat_Near (a, bits, ())).bind fun z14 =>
      (S.zono_Image (z14.1, (z13.1.1, z13.1.2.1, z13.1.2.2.1, ()), bits, ())).bind fun z15 =>
      cond (!(decide (z14.2.1 = 0))) (some (false, ()))
        (
          cond (!(decide (z15.2.1 = 0))) (some (false, ()))
            (
              (S.zono_Check ((z15.1.1, z15.1.2.1, z15.1.2.2.1, ()), n2, ())).bind fun z16 =>
              cond (!(decide (z16.1 = 0))) (some (false, ()))
                (
                  cond (decide (0 ≤ (z_1.length : Int)))
                    (
                      I1 bits z_0 z_1 dir a z15.1.1 z15.1.2.1 z15.1.2.2.1 (IntKind.i64.wrap (1 * 2 ^ (min (z_1.length : Int).toNat 64))) 0) none))))

def w16_ZonoImages_l0 (K : Nat) : Nat → Int → (List RT) → (List (List RT)) → (List RT) → (List RT) → (List RT) → Int → (List (List RT)) → Int → Int → Option (Bool × Unit)
  | 0, _, _, _, _, _, _, _, _, _, _ => none
  | n + 1, bits, z_0, z_1, list_0, list_1, dir, n2, a, t53, t54 => w16_ZonoImages_s0 (w16_ZonoImages_l1 K (w16_ZonoImages_l0 K n) K) (w16_ZonoImages_l0 K n) bits z_0 z_1 list_0 list_1 dir n2 a t53 t54

/-- girdlelaw16.ZonoImages -/
def w16_ZonoImages_b (I0 : Int → (List RT) → (List (List RT)) → (List RT) → (List RT) → (List RT) → Int → (List (List RT)) → Int → Int → Option (Bool × Unit)) (z : ZR) (list : (List RT) × (List RT) × Unit) (bits : Int) : Option (Bool × Unit) :=
  (S.w16_spreads (())).bind fun z1 =>
  cond (!z1.1) (some (false, ()))
    (
      (S.w16_fit ((z.1, z.2.1, ()), (list.2.1.length : Int), ())).bind fun z2 =>
      cond (!z2.1) (some (true, ()))
        (
          (S.w16_numbers (list.2.1, (list.2.1.length : Int), ())).bind fun z3 =>
          cond (!z3.1) (some (true, ()))
            (
              cond (decide (bits < 8)) (some (true, ()))
                (
                  cond (decide (100 < bits)) (some (true, ()))
                    (
                      cond (decide ((list.1.length : Int) < (IntKind.i64.wrap ((list.2.1.length : Int) * (list.2.1.length : Int))))) (some (true, ()))
                        (
                          I0 bits z.1 z.2.1 list.1 list.2.1 list.2.1 (list.2.1.length : Int) [] (list.2.1.length : Int) 0))))))

def w16_ZonoImages (K : Nat) (z : ZR) (list : (List RT) × (List RT) × Unit) (bits : Int) : Option (Bool × Unit) := w16_ZonoImages_b (w16_ZonoImages_l0 K K) z list bits

def S.w16_ZonoImages (x : ZR × (List RT × List RT × Unit) × Int × Unit) : Option (Bool × Unit) := L.w16_ZonoImages 100 x.1 x.2.1 x.2.2.1
theorem ZonoImages_true {z : ZR} {list : List RT × List RT × Unit} {bits : Int} (hz : inZ z) (hl : ∀ d ∈ list.1, inR d) (hd : ∀ d ∈ list.2.1, inR d) : w16_ZonoImages 100 z list bits = some (true, ()) := by
  obtain ⟨l0, dir, _⟩ := list
  simp only at hl hd
  unfold w16_ZonoImages w16_ZonoImages_b
  rw [w16_spreads_true, Option.bind_some]
  simp only [Bool.not_true, cond_false]
  generalize hN : dir.length = n
  rcases w16_fit_in (n := n) hz with e | ⟨e, n1, n4, m, q0, q, hm, rfl, b0, bk⟩
  · rw [e]; rfl
  rw [e, Option.bind_some]
  simp only [Bool.not_true, cond_false]
  rcases w16_numbers_in (n := n) (by omega) hd with e | ⟨e, qd, rfl, bd⟩
  · rw [e]; rfl
  rw [e, Option.bind_some]
  simp only [Bool.not_true, cond_false]
  by_cases hb8 : bits < 8
  · rw [ct hb8]
  rw [cf hb8]
  by_cases hb2 : 100 < bits
  · rw [ct hb2]
  rw [cf hb2]
  obtain ⟨v, rfl⟩ : ∃ v : Nat, bits = v := ⟨bits.toNat, by omega⟩
  have hnn : n * n ≤ 16 := Nat.le_trans (Nat.mul_le_mul n4 n4) (by decide)
  have hcast : ((n : Int) * (n : Int)) = ((n * n : Nat) : Int) := by simp
  rw [hcast, wi64 (by omega) (by omega)]
  by_cases hlen : (l0.length : Int) < ((n * n : Nat) : Int)
  · rw [ct hlen]
  rw [cf hlen]
  generalize hG : Vx m (fun k => Rx n (q k)) = G
  rcases loop_or n (fun i => Vx i (rowL l0 n)) (fun k s i => w16_ZonoImages_l0 100 k (v : Int) (Rx n q0) G l0 (Rx n qd) (Rx n qd) (n : Int) s (n : Int) i) (fun r => r = some (true, ())) (fun i => ∃ a : Nat → Rat, rowL l0 n i = Rx n a ∧ big1 n a) (fun k i hk hi => by
      have hin : i * n + n ≤ n * n := by
        have := Nat.mul_le_mul_right n (show i + 1 ≤ n from hi)
        rwa [Nat.add_mul, Nat.one_mul] at this
      have e1 : ((i : Int) * (n : Int)) = ((i * n : Nat) : Int) := by simp
      simp only [w16_ZonoImages_l0, w16_ZonoImages_s0]
      rw [e1, wi64 (x := ((i * n : Nat) : Int)) (by omega) (by omega), wi64 (x := ((i * n : Nat) : Int) + (n : Int)) (by omega) (by omega)]
      have e2 : (((i * n : Nat) : Int) + (n : Int)).toNat = i * n + n := by omega
      rw [e2, Int.toNat_natCast, ct (by omega), ct (by omega), ct (by omega), ct (by omega)]
      have hrow : (l0.take (i * n + n)).drop (i * n) = rowL l0 n i := rfl
      rw [hrow, Vx_succ]
      simp only [Vx_len, List.length_singleton]
      rw [ct (by omega), ct (by omega), ct (by omega), Int.toNat_natCast, Vx_get (by omega)]
      rcases w16_numbers_in (n := n) (by omega) (show ∀ d ∈ rowL l0 n i, inR d from fun d hd => hl d (List.mem_of_mem_take (List.mem_of_mem_drop hd))) with e | ⟨e, a, ea, ba⟩
      · right; rw [e]; rfl
      · left
        rw [e, Option.bind_some]
        simp only [Bool.not_true, cond_false]
        rw [wi1 (by omega)]
        exact ⟨rfl, a, ea, ba⟩) 100 (by omega) with hh | ⟨k, e2, hh⟩
  · exact hh
  have e3 : w16_ZonoImages_l0 100 100 (v : Int) (Rx n q0) G l0 (Rx n qd) (Rx n qd) (n : Int) [] (n : Int) 0 = _ := e2
  rw [e3]
  clear e2 e3
  have h' : ∀ k, ∃ a : Nat → Rat, k < n → rowL l0 n k = Rx n a ∧ big1 n a := fun k => by
    by_cases hk : k < n
    · obtain ⟨a, h⟩ := hh k hk
      exact ⟨a, fun _ => h⟩
    · exact ⟨fun _ => 0, fun h => absurd h hk⟩
  obtain ⟨a, ha⟩ : ∃ a : Nat → Nat → Rat, ∀ k < n, rowL l0 n k = Rx n (a k) ∧ big1 n (a k) := ⟨fun k => (h' k).choose, fun k hk => (h' k).choose_spec hk⟩
  have hA : Vx n (rowL l0 n) = Vx n (fun i => Rx n (a i)) := Vx_congr fun i hi => (ha i hi).1
  have hab : ∀ i < n, big1 n (a i) := fun i hi => (ha i hi).2
  simp only [w16_ZonoImages_l0, w16_ZonoImages_s0]
  rw [cf (by omega), hA]
  subst hG
  obtain ⟨kc, kg, kr⟩ := of_bounds (b := v) (show m ≤ 6 by omega) (by omega) (by omega) b0 bk
  have hr0 : ∀ i < n, 0 ≤ orr q0 q v m i := fun i _ => zr_pos _ _ _ _ _ _
  have z1 := of_set (b := v) n4 (show m ≤ 6 by omega) (by omega) (by omega) b0 bk
  have z2 := mat_Near_R (b := v) (show n ≤ 16 by omega) hab (by omega) (by omega)
  have hAb : ∀ i < n, bb n (nrs (a i) v 300) 17 := fun i hi => nrs_small (b := v) (B := 300) (hab i hi) (by decide) (by omega) (by omega) (by decide)
  have z3 := zono_Image_Dx (A := fun i => nrs (a i) v 300) (e := oe) (e' := -((300 : Nat) : Int)) (b := v) (show n ≤ 16 by omega) (show m ≤ 16 by omega) hAb kc kr kg (by decide) (by decide) (by decide) (by decide) (by decide) (by omega) (by omega)
  have c1 : nb n (md (tim (fun i => nrs (a i) v 300) (pts (oc q0 v)) v n) v) 90 := nb_up (md_abs (tim_abs (b := v) hAb (pts_bb kc))) (by omega)
  have c2 : nb n (irz (fun i => nrs (a i) v 300) (oc q0 v) (orr q0 q v m) (og q v) v n m) 90 := nb_up (irz_abs (b := v) hAb kc kr kg) (by omega)
  have c3 : ∀ k < m, nb n (md (tim (fun i => nrs (a i) v 300) (pts (og q v k)) v n) v) 90 := fun k hk => nb_up (md_abs (tim_abs (b := v) hAb (pts_bb (kg k hk)))) (by omega)
  have z4 := zono_Check_Dx (e := -((300 : Nat) : Int) + oe - 1) (show n ≤ 16 by omega) (show m ≤ 16 by omega) c1 c2 (fun i _ => irz_pos _ _ _ _ _ _ _ _) c3 (by decide) (by decide) (by decide)
  rw [show S.zono_Of _ = _ from z1, Option.bind_some, z2, Option.bind_some, show S.zono_Image _ = _ from z3, Option.bind_some]
  simp only [decide_true, Bool.not_true, cond_false]
  rw [show S.zono_Check _ = _ from z4, Option.bind_some]
  simp only [decide_true, Bool.not_true, cond_false, Vx_len]
  obtain ⟨e64, h64⟩ := two_pow32 (show m ≤ 6 by omega)
  rw [ct (by omega), Int.toNat_natCast, e64]
  generalize hY0 : Dx n (md (tim (fun i => nrs (a i) v 300) (pts (oc q0 v)) v n) v) (-((300 : Nat) : Int) + oe - 1) = Y0
  generalize hY1 : Vx m (fun p => Dx n (md (tim (fun i => nrs (a i) v 300) (pts (og q v p)) v n) v) (-((300 : Nat) : Int) + oe - 1)) = Y1
  generalize hY2 : Dx n (irz (fun i => nrs (a i) v 300) (oc q0 v) (orr q0 q v m) (og q v) v n m) (-((300 : Nat) : Int) + oe - 1) = Y2
  refine loop_up (2 ^ m) (fun _ => ()) (fun k2 s i => w16_ZonoImages_l1 100 (w16_ZonoImages_l0 100 k) k2 (v : Int) (Rx n q0) (Vx m (fun k => Rx n (q k))) (Rx n qd) (Vx n (fun i => Rx n (a i))) Y0 Y1 Y2 ((2 ^ m : Nat) : Int) i) _ (fun k2 w hw => ?_) (fun k2 => ?_) 100 (by omega)
  · simp only [w16_ZonoImages_l1, w16_ZonoImages_s1]
    have p1 := w16_corner_R (w := (w : Int)) (show n ≤ 16 by omega) (show m ≤ 16 by omega) b0 bk
    have pb : ∀ i < n, big (pnt q0 q (cw (w : Int)) m i) 16 := fun i hi => (pnt_big b0 bk (fun k _ => (cw_abs (w : Int) k).2) m (Nat.le_refl _) i hi).mono (by omega)
    have hM := of_corner (b := v) (w := (w : Int)) (by omega) b0 bk
    have p2 := mat_Apply_R n4 hab pb
    have hI := Image_mem (A := fun i => nrs (a i) v 300) (a := a) (e' := -((300 : Nat) : Int)) (b := v) (fun i hi => nrs_in (b := v) (B := 300) (hab i hi) (by omega)) hr0 hM
    have w1 := w16_within_true (b := v) n4 (show m ≤ 6 by omega) (by omega) (by omega) (nb_up c1 (by decide)) (nb_up c2 (by decide)) (fun i _ => irz_pos _ _ _ _ _ _ _ _) (fun k hk => nb_up (c3 k hk) (by decide)) (show -2000 ≤ -((300 : Nat) : Int) + oe - 1 by decide) (by decide) (app2_big n4 hab pb) bd hI
    rw [hY0, hY1, hY2] at w1
    rw [ct (by omega), show S.w16_corner _ = _ from p1, Option.bind_some, p2, Option.bind_some]
    simp only [decide_true, Bool.not_true, cond_false]
    rw [show S.w16_within _ = _ from w1, Option.bind_some]
    simp only [Bool.not_true, cond_false]
    rw [wi1 (by omega)]
  · simp only [w16_ZonoImages_l1, w16_ZonoImages_s1]
    rw [cf (by omega)]
end Go.L
